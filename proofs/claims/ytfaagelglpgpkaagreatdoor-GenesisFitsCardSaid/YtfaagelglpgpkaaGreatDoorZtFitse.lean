import Derived.Test.YtfaagelglpgpkaaGreatDoorZtFitsd
import Derived.Test.YtfaagelglpgpkaaGreatDoorProg
set_option maxRecDepth 100000
namespace Go.Proofs.YtfaagelglpgpkaaGreatDoor
set_option linter.all false
open Go.SL Go.RowKit Go.Shelf
theorem Jd2 {R : Ji} {xs : List AcL} {p : Pl} (hl : xs.length ≤ 1000) (hs : Seg R xs.length (xs.flatMap AcL.cells) p) :
  PureT (α := { row : QU // rowOk 8 xs.length (xs.flatMap AcL.cells) row }) Tryz.prog 79 [KL xs.length p].toArray (fun x => JE xs.length x.1) [] (fun x => JP 48 (xs.flatMap AcL.cells) x.1) R := by
 cases p with
 | none =>
  have h0 : xs = [] := List.length_eq_zero_iff.1 hs
  subst h0; refine Ju Tryz.func79 rfl rfl fun w => ?_; refine JA ?_; refine JN 12 rfl ?_; refine cD (fun g => ?_) fun g => ?_
  refine Ko 7 rfl ?_; refine pT rfl rfl rfl fun w1 hs1 => ?_; exact ⟨⟨none, rfl, rfl⟩, rfl, hs1⟩
  try exact Bool.noConfusion g
 | some q =>
  refine Ju Tryz.func79 rfl rfl fun w => ?_; refine JA ?_; refine JN 12 rfl ?_; refine Jz rfl (fun g => ?_) (fun g => ?_)
  try exact Bool.noConfusion g
  ·refine Jq 4 rfl ?_; refine Xg rfl rfl rfl rfl fun r1 => ?_; refine QL rfl (wb (k := 0) (b := 96) (sz := 8) rfl rfl rfl rfl rfl rfl hs oR rfl rfl rfl rfl rfl (by decide) (Kn AcL.len xs) (Yq AcL.one xs) (by omega) (by omega) fun row hrow => (Jw 4 rfl ?_)); refine pT rfl rfl rfl fun w1 hs1 => ?_; exact ⟨⟨row, hrow⟩, rfl, hs1.weakL (List.sublist_append_left _ _)⟩
theorem Jlm {R : Ji} {xs : List AcL} {row : QU} (hl : xs.length ≤ 1000) (hrow : rowOk 8 xs.length (xs.flatMap AcL.cells) row) {i : Nat} (hi : i ≤ xs.length) {y : AcL} {rv : Nat} (hv : (rv, Obj.cells (AcL.cells y).toArray 48 (0, 0)) ∈ R) :
  PureT (α := { row' : QU // rowOk 8 (xs.length + 1) ((xs.take i ++ y :: xs.drop i).flatMap AcL.cells) row' }) Tryz.prog 323 [JE xs.length row, .int .i64 (i : Int), .slice (some ⟨rv, 0, none⟩) 1 1].toArray (fun x => JE (xs.length + 1) x.1) (JP 48 (xs.flatMap AcL.cells) row) (fun x => JP 48 ((xs.take i ++ y :: xs.drop i).flatMap AcL.cells) x.1) R := by
 obtain ⟨A, hA⟩ : ∃ A, A = (xs.take i).flatMap AcL.cells := ⟨_, rfl⟩
 obtain ⟨B, hB⟩ : ∃ B, B = (xs.drop i).flatMap AcL.cells := ⟨_, rfl⟩
 obtain ⟨n, hn⟩ : ∃ n, n = xs.length := ⟨_, rfl⟩
 have e1 : xs.flatMap AcL.cells = A ++ B := by rw [hA, hB, ← List.flatMap_append, List.take_append_drop]
 have e2 : (xs.take i ++ y :: xs.drop i).flatMap AcL.cells = A ++ (AcL.cells y ++ B) := by rw [List.flatMap_append, List.flatMap_cons, hA, hB]
 have lA : A.length = i * 8 := by rw [hA, Kn AcL.len, List.length_take, Nat.min_eq_left hi]
 have lB : B.length = (n - i) * 8 := by rw [hB, Kn AcL.len, List.length_drop, hn]
 have lF : (AcL.cells y).length = 8 := AcL.len y
 have oF : (AcL.cells y).all Q2 = true := AcL.one y
 have oA : A.all Q2 = true := by rw [hA]; exact Yq AcL.one _
 have oB : B.all Q2 = true := by rw [hB]; exact Yq AcL.one _
 rw [e1] at hrow; rw [e1, e2]; rw [← hn] at hl hi hrow ⊢; clear hA hB e1 e2 hn
 cases row with
 | none =>
  obtain ⟨rfl, hAB⟩ := hrow
  obtain rfl : i = 0 := by omega
  obtain ⟨rfl, rfl⟩ := List.append_eq_nil_iff.1 hAB
  refine Ju Tryz.func323 rfl rfl fun w => ?_; refine JA ?_; refine Jq 15 rfl ?_; refine LR rfl (JU rfl rfl) ?_; refine JK 10 rfl ?_; refine cD (fun g => ?_) fun g => ?_
  first | exact Bool.noConfusion g | omega
  refine Jq 5 rfl ?_; refine LR rfl (JU rfl rfl) ?_; refine JK 11 rfl ?_; refine Jz rfl (fun g => ?_) (fun g => ?_)
  try simp only [ZZ] at g
  refine Jq 4 rfl ?_; refine VS (n := 0) (m := 1) (b := 96) (sz := 8) (news := AcL.cells y) (xs := []) (L0 := []) rfl rfl rfl rfl (Or.inr hv) rfl rfl rfl rfl rfl (by decide) rfl rfl oF (by decide) SlOwn.nil (by decide) (by decide) fun r1 cap1 sp1 hsp1 => ?_; refine Jw 5 rfl ?_; refine pT rfl rfl rfl fun w1 hs1 => ?_; exact ⟨⟨some (r1, cap1, sp1), by simp [lF], hsp1⟩, rfl, by simpa [JP] using hs1⟩
  try exact Bool.noConfusion g
 | some q =>
  obtain ⟨r, cap, sp⟩ := q
  obtain ⟨hr1, hr2⟩ := hrow
  have hcap : n ≤ cap := by omega
  refine Ju Tryz.func323 rfl rfl fun w => ?_; refine JA ?_; change HC _ _ _ [(r, .cells ((A ++ B) ++ sp).toArray 48 (0, 0))] _ _ _; refine Jq 9 rfl ?_; refine LR rfl (JO (m := i) (kl := some i) (kh := none) (km := none) (q := n) (z := cap) rfl rfl rfl ⟨_, rfl⟩ trivial trivial rfl rfl rfl (by omega) (by omega) (by omega) (fun _ => rfl) rfl) ?_; refine JG 5 rfl ?_; refine LR rfl (JU rfl rfl) ?_; refine JK 10 rfl ?_; refine Jz rfl (fun g => ?_) (fun g => ?_)
  try exact Bool.noConfusion g
  ·refine Jq 5 rfl ?_; refine LR rfl (JU rfl rfl) ?_; refine JK 11 rfl ?_; refine Jz rfl (fun g => ?_) (fun g => ?_)
   try simp only [ZZ] at g
   refine Jq 4 rfl ?_
   obtain rfl : B = [] := List.length_eq_zero_iff.1 (by omega)
   refine VS (n := n) (m := 1) (b := 96) (sz := 8) (news := AcL.cells y) (xs := A ++ []) (L0 := []) rfl rfl rfl rfl (Or.inr hv) rfl rfl rfl rfl rfl (by decide) rfl lF oF (by decide) (SlOwn.own (k := 0) rfl (by simp only [List.toList_toArray]; rw [List.take_left' hr1]) hr1 (by rw [List.size_toArray, List.length_append, hr1]; omega) rfl) (by omega) (by omega) fun r1 cap1 sp1 hsp1 => ?_; refine Jw 5 rfl ?_; refine pT rfl rfl rfl fun w1 hs1 => ?_; exact ⟨⟨some (r1, cap1, sp1), by simp only [List.length_append, List.length_nil, lF]; omega, hsp1⟩, rfl, by simpa [JP] using hs1⟩
   ·try simp only [ZZ] at g
    refine Jq 8 rfl ?_; refine Jc (by omega) (by omega) ?_; refine QL rfl (LR rfl (Jhs rfl rfl) (JK 3 rfl ?_)); refine cD (fun g => ?_) fun g => ?_
    ·refine Jq 4 rfl ?_
     refine LR rfl (JO (sz := 8) (q := i) (kl := none) (kh := some (i)) (km := none) (m := 0) (z := cap) (off' := 0) rfl rfl rfl trivial ⟨_, rfl⟩ trivial rfl rfl rfl (by omega) (by omega) (by omega) (fun h => by cases h) (by split <;> omega)) ?_; refine LS 3 [] rfl rfl ?_; refine Jc (by omega) (by omega) ?_; refine JG 2 rfl ?_; refine J3 (show _ = Value.int .i64 ((n + 1 - i : Nat) : Int) from by rw [wrap_i64 (by omega) (by omega)]; congr 1 <;> omega) ?_; refine vT (r := r) (off := 0) (n := i) (cap := cap) (m := n + 1 - i) (sz := 8) (b := 96) (xs := A) rfl rfl rfl rfl (kn 0 rfl) rfl rfl rfl rfl rfl rfl (by decide) (by simp only [List.toList_toArray, List.drop_zero]; rw [List.append_assoc, List.take_left' lA]) lA (by omega) (by omega) (by omega) (by omega) (by omega) fun r2 cap2 Z sp2 hZ hsp2 => ?_; rw [show i + (n + 1 - i) = n + 1 by omega] at hsp2 ⊢
     obtain ⟨Z1, Z2, rfl, lZ1⟩ := cut (l := Z) (a := 8) (by omega)
     have lZ2 : Z2.length = (n - i) * 8 := by rw [List.length_append, lZ1] at hZ; omega
     rw [show A ++ (Z1 ++ Z2) ++ sp2 = A ++ (Z1 ++ (Z2 ++ sp2)) by simp only [List.append_assoc]]; refine JG 7 rfl ?_; refine LR rfl (JO (sz := 8) (m := i) (kl := some (i)) (kh := none) (km := none) (q := n + 1) (z := cap2) (off' := i * 8) rfl rfl rfl ⟨_, rfl⟩ trivial trivial rfl rfl rfl (by omega) (by omega) (by omega) (fun _ => rfl) (by rw [if_neg (by omega)]; omega)) ?_; refine QL rfl ?_
     refine Xx (k := 0) (n := 1) (sz := 8) (vs := AcL.cells y) (cs' := A ++ (AcL.cells y ++ (Z2 ++ sp2))) rfl rfl rfl rfl rfl (Or.inr hv) rfl rfl (by simp only [Nat.min_def]; split <;> omega) rfl lF oF (by simp only [List.size_toArray, List.length_append]; omega) (Xh lA (by rw [lZ1])) rfl ?_; refine JK 3 rfl ?_; refine JD 8 (by kernel_rfl) (by kernel_rfl) ?_; refine Jb rfl rfl rfl (Jf rfl) ?_; refine Jb rfl rfl rfl (Jf rfl) ?_; refine Jb rfl rfl rfl (Jf rfl) ?_
     refine Jb rfl rfl rfl (Jv rfl rfl rfl) ?_; refine KU (show _ = Value.int .i64 ((i + 1 : Nat) : Int) from by rw [wrap_i64 (by omega) (by omega)]; congr 1 <;> omega) ?_; refine Jb rfl rfl rfl (JO (sz := 8) (m := i + 1) (kl := some (i + 1)) (kh := none) (km := none) (q := n + 1) (z := cap2) (off' := (i + 1) * 8) rfl rfl rfl ⟨_, rfl⟩ trivial trivial rfl rfl rfl (by omega) (by omega) (by omega) (fun _ => rfl) (by rw [if_neg (by omega)]; omega)) ?_; refine Jb rfl rfl rfl (Jf rfl) ?_; refine Jb rfl rfl rfl (Jf rfl) ?_; refine Jb rfl rfl rfl (JO (sz := 8) (m := i) (kl := some (i)) (kh := none) (km := none) (q := n) (z := cap) (off' := i * 8) rfl rfl rfl ⟨_, rfl⟩ trivial trivial rfl rfl rfl (by omega) (by omega) (by omega) (fun _ => rfl) (by rw [if_neg (by omega)]; omega)) ?_; refine JS ?_; rw [show A ++ (AcL.cells y ++ (Z2 ++ sp2)) = (A ++ AcL.cells y) ++ (Z2 ++ sp2) by simp only [List.append_assoc]]
     refine Xx (k := 0) (n := n - i) (sz := 8) (vs := B) (cs' := (A ++ AcL.cells y) ++ (B ++ sp2)) rfl rfl rfl rfl rfl (kn 1 rfl) rfl rfl (by simp only [Nat.min_def]; split <;> omega) (by simp only [List.toList_toArray]; rw [List.append_assoc, List.drop_left' lA, List.take_left' lB]) lB oB (by simp only [List.size_toArray, List.length_append]; omega) (Xh (by rw [List.length_append, lA, lF]; omega) lZ2) rfl ?_; refine Jw 10 rfl ?_; refine pT rfl rfl rfl fun w1 hs1 => ?_; exact ⟨⟨some (r2, cap2, sp2), by simp only [List.length_append]; omega, hsp2⟩, rfl, hs1.weakL (by simp [JP])⟩
    ·refine Jq 8 rfl ?_; refine J3 (show _ = Value.int .i64 ((n + 1 : Nat) : Int) from by rw [wrap_i64 (by omega) (by omega)]; congr 1 <;> omega) ?_
     refine LR rfl (JO (sz := 8) (q := n + 1) (kl := none) (kh := some (n + 1)) (km := none) (m := 0) (z := cap) (off' := 0) rfl rfl rfl trivial ⟨_, rfl⟩ trivial rfl rfl rfl (by omega) (by omega) (by omega) (fun h => by cases h) (by split <;> omega)) ?_; refine JG 11 rfl ?_; refine J3 (show _ = Value.int .i64 ((i + 1 : Nat) : Int) from by rw [wrap_i64 (by omega) (by omega)]; congr 1 <;> omega) ?_; refine LR rfl (JO (sz := 8) (m := i + 1) (kl := some (i + 1)) (kh := none) (km := none) (q := n + 1) (z := cap) (off' := (i + 1) * 8) rfl rfl rfl ⟨_, rfl⟩ trivial trivial rfl rfl rfl (by omega) (by omega) (by omega) (fun _ => rfl) (by rw [if_neg (by omega)]; omega)) ?_; refine LR rfl (qy (k := 0) rfl rfl rfl hv rfl rfl rfl (by simp only [List.size_toArray, List.length_append]; omega) Tryz.func352 rfl rfl rfl rfl) ?_; refine JK 3 rfl ?_; refine Jz rfl (fun g => ?_) (fun g => ?_)
     ·try simp only [ZZ] at g
      refine JN 1 rfl ?_; refine JD 8 (by kernel_rfl) (by kernel_rfl) ?_; refine Jb rfl rfl rfl (Jf rfl) ?_; refine Jb rfl rfl rfl (Jf rfl) ?_; refine Jb rfl rfl rfl (Jf rfl) ?_
      refine Jb rfl rfl rfl (Jv rfl rfl rfl) ?_; refine KU (show _ = Value.int .i64 ((i + 1 : Nat) : Int) from by rw [wrap_i64 (by omega) (by omega)]; congr 1 <;> omega) ?_; refine Jb rfl rfl rfl (JO (sz := 8) (m := i + 1) (kl := some (i + 1)) (kh := none) (km := none) (q := n + 1) (z := cap) (off' := (i + 1) * 8) rfl rfl rfl ⟨_, rfl⟩ trivial trivial rfl rfl rfl (by omega) (by omega) (by omega) (fun _ => rfl) (by rw [if_neg (by omega)]; omega)) ?_; refine Jb rfl rfl rfl (Jf rfl) ?_; refine Jb rfl rfl rfl (Jf rfl) ?_; refine Jb rfl rfl rfl (JO (sz := 8) (m := i) (kl := some (i)) (kh := none) (km := none) (q := n + 1) (z := cap) (off' := i * 8) rfl rfl rfl ⟨_, rfl⟩ trivial trivial rfl rfl rfl (by omega) (by omega) (by omega) (fun _ => rfl) (by rw [if_neg (by omega)]; omega)) ?_; refine JS ?_
      obtain ⟨X1, X2, hX, lX1⟩ := cut (l := B ++ sp) (a := 8) (by rw [List.length_append]; omega)
      obtain ⟨X3, X4, rfl, lX3⟩ := cut (l := X2) (a := (n - i) * 8) (by have := congrArg List.length hX; simp only [List.length_append] at this; omega)
      rw [show (A ++ B) ++ sp = (A ++ X1) ++ (X3 ++ X4) by rw [List.append_assoc, hX]; simp only [List.append_assoc]]
      refine Xx (k := 0) (n := n - i) (sz := 8) (vs := B) (cs' := (A ++ X1) ++ (B ++ X4)) rfl rfl rfl rfl rfl (kn 0 rfl) rfl rfl (by simp only [Nat.min_def]; split <;> omega) (by simp only [List.toList_toArray]; rw [List.append_assoc, List.drop_left' lA, ← hX, List.take_left' lB]) lB oB (by have := congrArg List.length hX; simp only [List.size_toArray, List.length_append] at this ⊢; omega) (Xh (by rw [List.length_append, lA, lX1]; omega) lX3) rfl ?_; refine JG 6 rfl ?_; refine LR rfl (JO (sz := 8) (m := i) (kl := some (i)) (kh := none) (km := none) (q := n + 1) (z := cap) (off' := i * 8) rfl rfl rfl ⟨_, rfl⟩ trivial trivial rfl rfl rfl (by omega) (by omega) (by omega) (fun _ => rfl) (by rw [if_neg (by omega)]; omega)) ?_; refine QL rfl ?_; rw [show (A ++ X1) ++ (B ++ X4) = A ++ (X1 ++ (B ++ X4)) by simp only [List.append_assoc]]
      refine Xx (k := 0) (n := 1) (sz := 8) (vs := AcL.cells y) (cs' := A ++ (AcL.cells y ++ (B ++ X4))) rfl rfl rfl rfl rfl (Or.inr hv) rfl rfl (by simp only [Nat.min_def]; split <;> omega) rfl lF oF (by simp only [List.size_toArray, List.length_append]; omega) (Xh lA (by rw [lX1])) rfl ?_; refine Jw 10 rfl ?_; refine pT rfl rfl rfl fun w1 hs1 => ?_; exact ⟨⟨some (r, cap, X4), by simp only [List.length_append]; omega, by have := congrArg List.length hX; simp only [List.length_append] at this; omega⟩, rfl, by simpa [JP] using hs1⟩
     ·try exact Bool.noConfusion g
theorem Jqb {R : Ji} {xs : List (BS × BS)} {p : Pl} (hl : xs.length ≤ 1000) (hs : Seg R xs.length (xs.flatMap Q6) p) :
  PureT (α := { row : QU // rowOk 2 xs.length (xs.flatMap Q6) row }) Tryz.prog 325 [KL xs.length p].toArray (fun x => JE xs.length x.1) [] (fun x => JP 97 (xs.flatMap Q6) x.1) R := by
 cases p with
 | none =>
  have h0 : xs = [] := List.length_eq_zero_iff.1 hs
  subst h0; refine Ju Tryz.func325 rfl rfl fun w => ?_; refine JA ?_; refine JN 12 rfl ?_; refine cD (fun g => ?_) fun g => ?_
  refine Ko 7 rfl ?_; refine pT rfl rfl rfl fun w1 hs1 => ?_; exact ⟨⟨none, rfl, rfl⟩, rfl, hs1⟩
  try exact Bool.noConfusion g
 | some q =>
  refine Ju Tryz.func325 rfl rfl fun w => ?_; refine JA ?_; refine JN 12 rfl ?_; refine Jz rfl (fun g => ?_) (fun g => ?_)
  try exact Bool.noConfusion g
  ·refine Jq 4 rfl ?_; refine Xg rfl rfl rfl rfl fun r1 => ?_; refine QL rfl (wb (k := 0) (b := 32) (sz := 2) rfl rfl rfl rfl rfl rfl hs oR rfl rfl rfl rfl rfl (by decide) (Kn Kf xs) (Yq jq xs) (by omega) (by omega) fun row hrow => (Jw 4 rfl ?_)); refine pT rfl rfl rfl fun w1 hs1 => ?_; exact ⟨⟨row, hrow⟩, rfl, hs1.weakL (List.sublist_append_left _ _)⟩
theorem Jln {R : Ji} {xs : List (BS × BS)} {row : QU} (hl : xs.length ≤ 1000) (hrow : rowOk 2 xs.length (xs.flatMap Q6) row) {i : Nat} (hi : i ≤ xs.length) {y : (BS × BS)} {rv : Nat} (hv : (rv, Obj.cells (Q6 y).toArray 97 (0, 0)) ∈ R) :
  PureT (α := { row' : QU // rowOk 2 (xs.length + 1) ((xs.take i ++ y :: xs.drop i).flatMap Q6) row' }) Tryz.prog 326 [JE xs.length row, .int .i64 (i : Int), .slice (some ⟨rv, 0, none⟩) 1 1].toArray (fun x => JE (xs.length + 1) x.1) (JP 97 (xs.flatMap Q6) row) (fun x => JP 97 ((xs.take i ++ y :: xs.drop i).flatMap Q6) x.1) R := by
 obtain ⟨A, hA⟩ : ∃ A, A = (xs.take i).flatMap Q6 := ⟨_, rfl⟩
 obtain ⟨B, hB⟩ : ∃ B, B = (xs.drop i).flatMap Q6 := ⟨_, rfl⟩
 obtain ⟨n, hn⟩ : ∃ n, n = xs.length := ⟨_, rfl⟩
 have e1 : xs.flatMap Q6 = A ++ B := by rw [hA, hB, ← List.flatMap_append, List.take_append_drop]
 have e2 : (xs.take i ++ y :: xs.drop i).flatMap Q6 = A ++ (Q6 y ++ B) := by rw [List.flatMap_append, List.flatMap_cons, hA, hB]
 have lA : A.length = i * 2 := by rw [hA, Kn Kf, List.length_take, Nat.min_eq_left hi]
 have lB : B.length = (n - i) * 2 := by rw [hB, Kn Kf, List.length_drop, hn]
 have lF : (Q6 y).length = 2 := Kf y
 have oF : (Q6 y).all Q2 = true := jq y
 have oA : A.all Q2 = true := by rw [hA]; exact Yq jq _
 have oB : B.all Q2 = true := by rw [hB]; exact Yq jq _
 rw [e1] at hrow; rw [e1, e2]; rw [← hn] at hl hi hrow ⊢; clear hA hB e1 e2 hn
 cases row with
 | none =>
  obtain ⟨rfl, hAB⟩ := hrow
  obtain rfl : i = 0 := by omega
  obtain ⟨rfl, rfl⟩ := List.append_eq_nil_iff.1 hAB
  refine Ju Tryz.func326 rfl rfl fun w => ?_; refine JA ?_; refine Jq 15 rfl ?_; refine LR rfl (JU rfl rfl) ?_; refine JK 10 rfl ?_; refine cD (fun g => ?_) fun g => ?_
  first | exact Bool.noConfusion g | omega
  refine Jq 5 rfl ?_; refine LR rfl (JU rfl rfl) ?_; refine JK 11 rfl ?_; refine Jz rfl (fun g => ?_) (fun g => ?_)
  try simp only [ZZ] at g
  refine Jq 4 rfl ?_; refine VS (n := 0) (m := 1) (b := 32) (sz := 2) (news := Q6 y) (xs := []) (L0 := []) rfl rfl rfl rfl (Or.inr hv) rfl rfl rfl rfl rfl (by decide) rfl rfl oF (by decide) SlOwn.nil (by decide) (by decide) fun r1 cap1 sp1 hsp1 => ?_; refine Jw 5 rfl ?_; refine pT rfl rfl rfl fun w1 hs1 => ?_; exact ⟨⟨some (r1, cap1, sp1), by simp [lF], hsp1⟩, rfl, by simpa [JP] using hs1⟩
  try exact Bool.noConfusion g
 | some q =>
  obtain ⟨r, cap, sp⟩ := q
  obtain ⟨hr1, hr2⟩ := hrow
  have hcap : n ≤ cap := by omega
  refine Ju Tryz.func326 rfl rfl fun w => ?_; refine JA ?_; change HC _ _ _ [(r, .cells ((A ++ B) ++ sp).toArray 97 (0, 0))] _ _ _; refine Jq 9 rfl ?_; refine LR rfl (JO (m := i) (kl := some i) (kh := none) (km := none) (q := n) (z := cap) rfl rfl rfl ⟨_, rfl⟩ trivial trivial rfl rfl rfl (by omega) (by omega) (by omega) (fun _ => rfl) rfl) ?_; refine JG 5 rfl ?_; refine LR rfl (JU rfl rfl) ?_; refine JK 10 rfl ?_; refine Jz rfl (fun g => ?_) (fun g => ?_)
  try exact Bool.noConfusion g
  ·refine Jq 5 rfl ?_; refine LR rfl (JU rfl rfl) ?_; refine JK 11 rfl ?_; refine Jz rfl (fun g => ?_) (fun g => ?_)
   try simp only [ZZ] at g
   refine Jq 4 rfl ?_
   obtain rfl : B = [] := List.length_eq_zero_iff.1 (by omega)
   refine VS (n := n) (m := 1) (b := 32) (sz := 2) (news := Q6 y) (xs := A ++ []) (L0 := []) rfl rfl rfl rfl (Or.inr hv) rfl rfl rfl rfl rfl (by decide) rfl lF oF (by decide) (SlOwn.own (k := 0) rfl (by simp only [List.toList_toArray]; rw [List.take_left' hr1]) hr1 (by rw [List.size_toArray, List.length_append, hr1]; omega) rfl) (by omega) (by omega) fun r1 cap1 sp1 hsp1 => ?_; refine Jw 5 rfl ?_; refine pT rfl rfl rfl fun w1 hs1 => ?_; exact ⟨⟨some (r1, cap1, sp1), by simp only [List.length_append, List.length_nil, lF]; omega, hsp1⟩, rfl, by simpa [JP] using hs1⟩
   ·try simp only [ZZ] at g
    refine Jq 8 rfl ?_; refine Jc (by omega) (by omega) ?_; refine QL rfl (LR rfl (Jhs rfl rfl) (JK 3 rfl ?_)); refine cD (fun g => ?_) fun g => ?_
    ·refine Jq 4 rfl ?_
     refine LR rfl (JO (sz := 2) (q := i) (kl := none) (kh := some (i)) (km := none) (m := 0) (z := cap) (off' := 0) rfl rfl rfl trivial ⟨_, rfl⟩ trivial rfl rfl rfl (by omega) (by omega) (by omega) (fun h => by cases h) (by split <;> omega)) ?_; refine LS 3 [] rfl rfl ?_; refine Jc (by omega) (by omega) ?_; refine JG 2 rfl ?_; refine J3 (show _ = Value.int .i64 ((n + 1 - i : Nat) : Int) from by rw [wrap_i64 (by omega) (by omega)]; congr 1 <;> omega) ?_; refine vT (r := r) (off := 0) (n := i) (cap := cap) (m := n + 1 - i) (sz := 2) (b := 32) (xs := A) rfl rfl rfl rfl (kn 0 rfl) rfl rfl rfl rfl rfl rfl (by decide) (by simp only [List.toList_toArray, List.drop_zero]; rw [List.append_assoc, List.take_left' lA]) lA (by omega) (by omega) (by omega) (by omega) (by omega) fun r2 cap2 Z sp2 hZ hsp2 => ?_; rw [show i + (n + 1 - i) = n + 1 by omega] at hsp2 ⊢
     obtain ⟨Z1, Z2, rfl, lZ1⟩ := cut (l := Z) (a := 2) (by omega)
     have lZ2 : Z2.length = (n - i) * 2 := by rw [List.length_append, lZ1] at hZ; omega
     rw [show A ++ (Z1 ++ Z2) ++ sp2 = A ++ (Z1 ++ (Z2 ++ sp2)) by simp only [List.append_assoc]]; refine JG 7 rfl ?_; refine LR rfl (JO (sz := 2) (m := i) (kl := some (i)) (kh := none) (km := none) (q := n + 1) (z := cap2) (off' := i * 2) rfl rfl rfl ⟨_, rfl⟩ trivial trivial rfl rfl rfl (by omega) (by omega) (by omega) (fun _ => rfl) (by rw [if_neg (by omega)]; omega)) ?_; refine QL rfl ?_
     refine Xx (k := 0) (n := 1) (sz := 2) (vs := Q6 y) (cs' := A ++ (Q6 y ++ (Z2 ++ sp2))) rfl rfl rfl rfl rfl (Or.inr hv) rfl rfl (by simp only [Nat.min_def]; split <;> omega) rfl lF oF (by simp only [List.size_toArray, List.length_append]; omega) (Xh lA (by rw [lZ1])) rfl ?_; refine JK 3 rfl ?_; refine JD 8 (by kernel_rfl) (by kernel_rfl) ?_; refine Jb rfl rfl rfl (Jf rfl) ?_; refine Jb rfl rfl rfl (Jf rfl) ?_; refine Jb rfl rfl rfl (Jf rfl) ?_
     refine Jb rfl rfl rfl (Jv rfl rfl rfl) ?_; refine KU (show _ = Value.int .i64 ((i + 1 : Nat) : Int) from by rw [wrap_i64 (by omega) (by omega)]; congr 1 <;> omega) ?_; refine Jb rfl rfl rfl (JO (sz := 2) (m := i + 1) (kl := some (i + 1)) (kh := none) (km := none) (q := n + 1) (z := cap2) (off' := (i + 1) * 2) rfl rfl rfl ⟨_, rfl⟩ trivial trivial rfl rfl rfl (by omega) (by omega) (by omega) (fun _ => rfl) (by rw [if_neg (by omega)]; omega)) ?_; refine Jb rfl rfl rfl (Jf rfl) ?_; refine Jb rfl rfl rfl (Jf rfl) ?_; refine Jb rfl rfl rfl (JO (sz := 2) (m := i) (kl := some (i)) (kh := none) (km := none) (q := n) (z := cap) (off' := i * 2) rfl rfl rfl ⟨_, rfl⟩ trivial trivial rfl rfl rfl (by omega) (by omega) (by omega) (fun _ => rfl) (by rw [if_neg (by omega)]; omega)) ?_; refine JS ?_; rw [show A ++ (Q6 y ++ (Z2 ++ sp2)) = (A ++ Q6 y) ++ (Z2 ++ sp2) by simp only [List.append_assoc]]
     refine Xx (k := 0) (n := n - i) (sz := 2) (vs := B) (cs' := (A ++ Q6 y) ++ (B ++ sp2)) rfl rfl rfl rfl rfl (kn 1 rfl) rfl rfl (by simp only [Nat.min_def]; split <;> omega) (by simp only [List.toList_toArray]; rw [List.append_assoc, List.drop_left' lA, List.take_left' lB]) lB oB (by simp only [List.size_toArray, List.length_append]; omega) (Xh (by rw [List.length_append, lA, lF]; omega) lZ2) rfl ?_; refine Jw 10 rfl ?_; refine pT rfl rfl rfl fun w1 hs1 => ?_; exact ⟨⟨some (r2, cap2, sp2), by simp only [List.length_append]; omega, hsp2⟩, rfl, hs1.weakL (by simp [JP])⟩
    ·refine Jq 8 rfl ?_; refine J3 (show _ = Value.int .i64 ((n + 1 : Nat) : Int) from by rw [wrap_i64 (by omega) (by omega)]; congr 1 <;> omega) ?_
     refine LR rfl (JO (sz := 2) (q := n + 1) (kl := none) (kh := some (n + 1)) (km := none) (m := 0) (z := cap) (off' := 0) rfl rfl rfl trivial ⟨_, rfl⟩ trivial rfl rfl rfl (by omega) (by omega) (by omega) (fun h => by cases h) (by split <;> omega)) ?_; refine JG 11 rfl ?_; refine J3 (show _ = Value.int .i64 ((i + 1 : Nat) : Int) from by rw [wrap_i64 (by omega) (by omega)]; congr 1 <;> omega) ?_; refine LR rfl (JO (sz := 2) (m := i + 1) (kl := some (i + 1)) (kh := none) (km := none) (q := n + 1) (z := cap) (off' := (i + 1) * 2) rfl rfl rfl ⟨_, rfl⟩ trivial trivial rfl rfl rfl (by omega) (by omega) (by omega) (fun _ => rfl) (by rw [if_neg (by omega)]; omega)) ?_; refine LR rfl (qy (k := 0) rfl rfl rfl hv rfl rfl rfl (by simp only [List.size_toArray, List.length_append]; omega) Tryz.func356 rfl rfl rfl rfl) ?_; refine JK 3 rfl ?_; refine Jz rfl (fun g => ?_) (fun g => ?_)
     ·try simp only [ZZ] at g
      refine JN 1 rfl ?_; refine JD 8 (by kernel_rfl) (by kernel_rfl) ?_; refine Jb rfl rfl rfl (Jf rfl) ?_; refine Jb rfl rfl rfl (Jf rfl) ?_; refine Jb rfl rfl rfl (Jf rfl) ?_
      refine Jb rfl rfl rfl (Jv rfl rfl rfl) ?_; refine KU (show _ = Value.int .i64 ((i + 1 : Nat) : Int) from by rw [wrap_i64 (by omega) (by omega)]; congr 1 <;> omega) ?_; refine Jb rfl rfl rfl (JO (sz := 2) (m := i + 1) (kl := some (i + 1)) (kh := none) (km := none) (q := n + 1) (z := cap) (off' := (i + 1) * 2) rfl rfl rfl ⟨_, rfl⟩ trivial trivial rfl rfl rfl (by omega) (by omega) (by omega) (fun _ => rfl) (by rw [if_neg (by omega)]; omega)) ?_; refine Jb rfl rfl rfl (Jf rfl) ?_; refine Jb rfl rfl rfl (Jf rfl) ?_; refine Jb rfl rfl rfl (JO (sz := 2) (m := i) (kl := some (i)) (kh := none) (km := none) (q := n + 1) (z := cap) (off' := i * 2) rfl rfl rfl ⟨_, rfl⟩ trivial trivial rfl rfl rfl (by omega) (by omega) (by omega) (fun _ => rfl) (by rw [if_neg (by omega)]; omega)) ?_; refine JS ?_
      obtain ⟨X1, X2, hX, lX1⟩ := cut (l := B ++ sp) (a := 2) (by rw [List.length_append]; omega)
      obtain ⟨X3, X4, rfl, lX3⟩ := cut (l := X2) (a := (n - i) * 2) (by have := congrArg List.length hX; simp only [List.length_append] at this; omega)
      rw [show (A ++ B) ++ sp = (A ++ X1) ++ (X3 ++ X4) by rw [List.append_assoc, hX]; simp only [List.append_assoc]]
      refine Xx (k := 0) (n := n - i) (sz := 2) (vs := B) (cs' := (A ++ X1) ++ (B ++ X4)) rfl rfl rfl rfl rfl (kn 0 rfl) rfl rfl (by simp only [Nat.min_def]; split <;> omega) (by simp only [List.toList_toArray]; rw [List.append_assoc, List.drop_left' lA, ← hX, List.take_left' lB]) lB oB (by have := congrArg List.length hX; simp only [List.size_toArray, List.length_append] at this ⊢; omega) (Xh (by rw [List.length_append, lA, lX1]; omega) lX3) rfl ?_; refine JG 6 rfl ?_; refine LR rfl (JO (sz := 2) (m := i) (kl := some (i)) (kh := none) (km := none) (q := n + 1) (z := cap) (off' := i * 2) rfl rfl rfl ⟨_, rfl⟩ trivial trivial rfl rfl rfl (by omega) (by omega) (by omega) (fun _ => rfl) (by rw [if_neg (by omega)]; omega)) ?_; refine QL rfl ?_; rw [show (A ++ X1) ++ (B ++ X4) = A ++ (X1 ++ (B ++ X4)) by simp only [List.append_assoc]]
      refine Xx (k := 0) (n := 1) (sz := 2) (vs := Q6 y) (cs' := A ++ (Q6 y ++ (B ++ X4))) rfl rfl rfl rfl rfl (Or.inr hv) rfl rfl (by simp only [Nat.min_def]; split <;> omega) rfl lF oF (by simp only [List.size_toArray, List.length_append]; omega) (Xh lA (by rw [lX1])) rfl ?_; refine Jw 10 rfl ?_; refine pT rfl rfl rfl fun w1 hs1 => ?_; exact ⟨⟨some (r, cap, X4), by simp only [List.length_append]; omega, by have := congrArg List.length hX; simp only [List.length_append] at this; omega⟩, rfl, by simpa [JP] using hs1⟩
     ·try exact Bool.noConfusion g
theorem Jux {R : Ji} {xs : List AcL} {p : Pl} (hl : xs.length ≤ 1000) (hs : Seg R xs.length (xs.flatMap AcL.cells) p) (hso : Ky AcL.addr xs) (y : AcL) :
  PureT (α := { row : QU // rowOk 8 (Qf AcL.addr y xs).length ((Qf AcL.addr y xs).flatMap AcL.cells) row }) Tryz.prog 256 [KL xs.length p, vA y, fV 98].toArray (fun x => JE (Qf AcL.addr y xs).length x.1) [] (fun x => JP 48 ((Qf AcL.addr y xs).flatMap AcL.cells) x.1) R := by
 have hins := Jnz (x := y) hso
 obtain ⟨j, hj⟩ : ∃ j, j = ZM AcL.addr (AcL.addr y) xs := ⟨_, rfl⟩
 have hjl : j ≤ xs.length := hj ▸ Jnx _ _
 have hpl := Jp9 (k := AcL.addr y) hl hs hso
 have hlt : V2 AcL.addr (AcL.addr y) xs = true → j < xs.length := fun h => hj ▸ Jcr h
 rw [← hj] at hins hpl
 obtain ⟨b, hb⟩ : ∃ b, b = V2 AcL.addr (AcL.addr y) xs := ⟨_, rfl⟩
 rw [← hb] at hins hpl hlt; clear hj hb; refine Ju Tryz.func256 rfl rfl fun w => ?_; refine JA ?_; refine Jq 2 rfl ?_; refine LN rfl fun r1 => ?_; refine Xa 8 [0] rfl rfl ?_; refine Jn rfl rfl rfl Jtp (Jah y) ?_; refine QL rfl (Je rfl rfl rfl (enters_of Tryz.func322 (by kernel_rfl) rfl) hpl oR (JG 10 rfl ?_)); refine Kz rfl rfl rfl (enters_of Tryz.func79 (by kernel_rfl) rfl) (Jd2 hl hs) oR fun x => ?_
 obtain ⟨row, hrow⟩ := x
 change HL _ _ ((20, JE xs.length row) :: _) (JP 48 (xs.flatMap AcL.cells) row ++ [(r1, _)]) _ _ _ _; refine JK 9 rfl ?_; refine cD (fun g => ?_) fun g => ?_
 refine JN 1 rfl ?_
 have hltb := hlt (by assumption)
 obtain ⟨r2, cap2, sp2, rfl⟩ := row_some hrow (by omega)
 change HC _ _ _ [(r2, .cells (xs.flatMap AcL.cells ++ sp2).toArray 48 (0, 0)), (r1, _)] _ _ _; refine Jq 3 rfl ?_; refine LR rfl (Jo (vs := AcL.cells y) rfl (kn 1 rfl) rfl rfl rfl rfl) ?_; refine LR rfl (JI (j := j) (m := 8) rfl rfl rfl rfl rfl (by omega) rfl) ?_; refine Q9 (k := 0) (n := 8) (vs := (AcL.cells y).toArray) (cs' := ((xs.set j y).flatMap AcL.cells ++ sp2).toArray) rfl rfl rfl rfl rfl rfl (AcL.one y) (by have := hrow.1; simp only [List.size_toArray, List.length_append, Kn AcL.len]; omega) (by apply Array.toList_inj.1; simp only [List.toList_toArray, Nat.zero_add]; exact xG AcL.len hltb y sp2) rfl ?_; refine Jw 10 rfl ?_; refine pT rfl rfl rfl fun w1 hs1 => ?_
 (rw [if_pos (by assumption)] at hins
  rw [hins, List.length_set]
  exact ⟨⟨some (r2, cap2, sp2), hrow.same (by rw [Kn AcL.len, Kn AcL.len, List.length_set])⟩, rfl, hs1.weakL (by simp [JP])⟩)
 ·refine Jq 6 rfl ?_; refine LR rfl (Jo (vs := AcL.cells y) rfl (Or.inl (List.mem_append_right _ List.mem_cons_self)) rfl rfl rfl rfl) ?_; refine JM (n := 1) (sz := 8) (vs := [_]) (zs := [_, _, _, _, _, _, _, _]) (r := AcL.cells y) rfl rfl rfl rfl rfl rfl rfl rfl rfl (by rw [Kt]; exact rfl) rfl fun rv => ?_; refine Qr (T := JP 48 (xs.flatMap AcL.cells) row) (L0 := [(rv, _), (r1, _)]) (Rl := [(rv, Obj.cells (AcL.cells y).toArray 48 (0, 0))]) (by exact List.perm_middle.symm) rfl rfl rfl (enters_of Tryz.func323 (by kernel_rfl) rfl) (Jlm (i := j) (y := y) hl hrow hjl List.mem_cons_self) (fun q hq => Or.inl (by rw [List.mem_singleton.1 hq]; exact List.mem_cons_self)) fun x => ?_
  obtain ⟨row2, hrow2⟩ := x
  refine Jw 4 rfl ?_; refine pT rfl rfl rfl fun w1 hs1 => ?_
  (rw [if_neg (by simp_all)] at hins
   have hln : (xs.take j ++ y :: xs.drop j).length = xs.length + 1 := by simp only [List.length_append, List.length_take, List.length_cons, List.length_drop]; omega
   rw [hins, hln]
   exact ⟨⟨row2, hrow2⟩, rfl, hs1.weakL (List.sublist_append_left _ _)⟩)
theorem Juy {R : Ji} {xs : List (BS × BS)} {p : Pl} (hl : xs.length ≤ 1000) (hs : Seg R xs.length (xs.flatMap Q6) p) (hso : Ky Prod.fst xs) (y : (BS × BS)) :
  PureT (α := { row : QU // rowOk 2 (Qf Prod.fst y xs).length ((Qf Prod.fst y xs).flatMap Q6) row }) Tryz.prog 257 [KL xs.length p, vS y, fV 156].toArray (fun x => JE (Qf Prod.fst y xs).length x.1) [] (fun x => JP 97 ((Qf Prod.fst y xs).flatMap Q6) x.1) R := by
 have hins := Jnz (x := y) hso
 obtain ⟨j, hj⟩ : ∃ j, j = ZM Prod.fst (Prod.fst y) xs := ⟨_, rfl⟩
 have hjl : j ≤ xs.length := hj ▸ Jnx _ _
 have hpl := Jqa (k := Prod.fst y) hl hs hso
 have hlt : V2 Prod.fst (Prod.fst y) xs = true → j < xs.length := fun h => hj ▸ Jcr h
 rw [← hj] at hins hpl
 obtain ⟨b, hb⟩ : ∃ b, b = V2 Prod.fst (Prod.fst y) xs := ⟨_, rfl⟩
 rw [← hb] at hins hpl hlt; clear hj hb; refine Ju Tryz.func257 rfl rfl fun w => ?_; refine JA ?_; refine Jq 2 rfl ?_; refine LN rfl fun r1 => ?_; refine Xa 8 [0] rfl rfl ?_; refine Jn rfl rfl rfl Jh3 (Jai y) ?_; refine QL rfl (Je rfl rfl rfl (enters_of Tryz.func324 (by kernel_rfl) rfl) hpl oR (JG 10 rfl ?_)); refine Kz rfl rfl rfl (enters_of Tryz.func325 (by kernel_rfl) rfl) (Jqb hl hs) oR fun x => ?_
 obtain ⟨row, hrow⟩ := x
 change HL _ _ ((20, JE xs.length row) :: _) (JP 97 (xs.flatMap Q6) row ++ [(r1, _)]) _ _ _ _; refine JK 9 rfl ?_; refine cD (fun g => ?_) fun g => ?_
 refine JN 1 rfl ?_
 have hltb := hlt (by assumption)
 obtain ⟨r2, cap2, sp2, rfl⟩ := row_some hrow (by omega)
 change HC _ _ _ [(r2, .cells (xs.flatMap Q6 ++ sp2).toArray 97 (0, 0)), (r1, _)] _ _ _; refine Jq 3 rfl ?_; refine LR rfl (Jo (vs := Q6 y) rfl (kn 1 rfl) rfl rfl rfl rfl) ?_; refine LR rfl (JI (j := j) (m := 2) rfl rfl rfl rfl rfl (by omega) rfl) ?_; refine Q9 (k := 0) (n := 2) (vs := (Q6 y).toArray) (cs' := ((xs.set j y).flatMap Q6 ++ sp2).toArray) rfl rfl rfl rfl rfl rfl (jq y) (by have := hrow.1; simp only [List.size_toArray, List.length_append, Kn Kf]; omega) (by apply Array.toList_inj.1; simp only [List.toList_toArray, Nat.zero_add]; exact xG Kf hltb y sp2) rfl ?_; refine Jw 10 rfl ?_; refine pT rfl rfl rfl fun w1 hs1 => ?_
 (rw [if_pos (by assumption)] at hins
  rw [hins, List.length_set]
  exact ⟨⟨some (r2, cap2, sp2), hrow.same (by rw [Kn Kf, Kn Kf, List.length_set])⟩, rfl, hs1.weakL (by simp [JP])⟩)
 ·refine Jq 6 rfl ?_; refine LR rfl (Jo (vs := Q6 y) rfl (Or.inl (List.mem_append_right _ List.mem_cons_self)) rfl rfl rfl rfl) ?_; refine JM (n := 1) (sz := 2) (vs := [_]) (zs := [_, _]) (r := Q6 y) rfl rfl rfl rfl rfl rfl rfl rfl rfl (by rw [Kt]; exact rfl) rfl fun rv => ?_; refine Qr (T := JP 97 (xs.flatMap Q6) row) (L0 := [(rv, _), (r1, _)]) (Rl := [(rv, Obj.cells (Q6 y).toArray 97 (0, 0))]) (by exact List.perm_middle.symm) rfl rfl rfl (enters_of Tryz.func326 (by kernel_rfl) rfl) (Jln (i := j) (y := y) hl hrow hjl List.mem_cons_self) (fun q hq => Or.inl (by rw [List.mem_singleton.1 hq]; exact List.mem_cons_self)) fun x => ?_
  obtain ⟨row2, hrow2⟩ := x
  refine Jw 4 rfl ?_; refine pT rfl rfl rfl fun w1 hs1 => ?_
  (rw [if_neg (by simp_all)] at hins
   have hln : (xs.take j ++ y :: xs.drop j).length = xs.length + 1 := by simp only [List.length_append, List.length_take, List.length_cons, List.length_drop]; omega
   rw [hins, hln]
   exact ⟨⟨row2, hrow2⟩, rfl, hs1.weakL (List.sublist_append_left _ _)⟩)
theorem Juz (x : BS × BS) : qO x = (((x.1.length : Int) != 32) || ((x.2.length : Int) != 32)) := by
 have key : ∀ n : Nat, decide (n ≠ 32) = ((n : Int) != 32) := fun n => by
  by_cases h : n = 32
  ·subst h; rfl
  ·have h2 : ¬ (n : Int) = 32 := by omega
   simp [h, h2]
 unfold qO
 rw [key, key]
theorem J0e (x : BS × BS) : Pure Tryz.prog 152 [vS x].toArray (.bool (qO x)) := by
 refine Jm Tryz.func152 rfl rfl fun w => ?_; refine JA ?_; refine Jq 2 rfl ?_; refine LN rfl fun r1 => ?_; refine Xa 7 [0] rfl rfl ?_; refine LR rfl (Qh rfl rfl) ?_; refine LS 2 [] rfl rfl ?_
 refine J8 7 rfl (fun gb => ?_) (fun gb => ?_) <;> (try simp only [ZZ] at gb) <;> first | (refine LR rfl (J9 rfl rfl rfl) ?_) | (refine LK rfl ?_)
 all_goals refine LW 1 [0] rfl rfl ?_
 all_goals first | refine LR rfl (Qh rfl rfl) ?_ | refine LK rfl ?_
 all_goals (
  refine LW 3 [] rfl rfl (Jw 1 rfl (ZK 2 rfl ?_)); refine pT rfl rfl rfl fun w1 hs1 => ?_; refine ⟨?_, hs1.keep⟩; rw [Juz]
  simp_all [JB]
  skip)
theorem Ju0 (x : BS × BS) : Pure Tryz.prog 153 [vS x].toArray (.bool (XC x)) := by
 refine Jm Tryz.func153 rfl rfl fun w => ?_; refine JA ?_; refine Jq 2 rfl ?_; refine LN rfl fun r1 => ?_; refine JK 4 rfl ?_; refine JD 5 (by kernel_rfl) (by kernel_rfl) ?_
 refine Jb rfl rfl rfl (J9 rfl rfl rfl) ?_; refine Jb rfl rfl rfl (Jd rfl (kn 0 rfl) rfl rfl) ?_; refine Kl rfl rfl rfl Joi Jf2 ?_; refine Jb rfl rfl rfl (Wi rfl rfl) ?_; refine Jb rfl rfl rfl (J6 rfl) ?_; refine JS ?_; refine Jw 3 rfl ?_; refine pT rfl rfl rfl fun w1 hs1 => ?_; exact ⟨rfl, hs1.keep⟩
theorem qD {R : Ji} {xs : List (BS × BS)} {p : Pl} (hl : xs.length ≤ 9223372036854775807) (hs : Seg R xs.length (xs.flatMap Q6) p) {g : FuncId} {caps : List Value} {pr : BS × BS → Bool} (eg : Enters Tryz.prog g) (hg : ∀ x ∈ xs, PureR Tryz.prog g (vS x :: caps).toArray (.bool (pr x)) R) :
  PureR Tryz.prog 154 [KL xs.length p, .func (.func g) #[] caps.toArray].toArray (.bool (xs.any pr)) R := by
 have h := wI hl hs eg hg
 refine Ja Tryz.func154 rfl rfl fun w => ?_; refine JA ?_; refine Jq 9 rfl ?_; refine Je rfl rfl rfl Joh h oR ?_; refine VQ rfl (J3 (congrArg Value.bool Js9) (Jw 4 rfl ?_)); refine pT rfl rfl rfl fun w1 hs1 => ?_; exact ⟨rfl, hs1.keep⟩
theorem Jf3 {R : Ji} {a : AcL} (ha : a.In R) : PureR Tryz.prog 96 [a.val].toArray (.int .i64 (WB a.er)) R := by
  have h1 := qD (g := 152) (caps := []) ha.len ha.seg (enters_of Tryz.func152 (by kernel_rfl) rfl) (fun x _ => (J0e x).toR)
  have h2 := qD (g := 153) (caps := []) ha.len ha.seg (enters_of Tryz.func153 (by kernel_rfl) rfl) (fun x _ => (Ju0 x).toR)
  have h3 := Jp7 ha.len ha.seg
  have hl := ha.len
  have hseg := ha.seg
  have hE : WB a.er = if ¬ ((a.addr.length : Int) = 20) ∨ a.slots.any qO = true then 2 else if QI Prod.fst a.slots = false then 11 else if (512 < (a.code.length : Int)) ∨ (16 < (a.slots.length : Int)) then 5 else if a.slots.any XC = true then 8 else 0 := by
    exact ite_congr (propext (or_congr (by show ¬ a.addr.length = 20 ↔ _; omega) Iff.rfl)) (fun _ => rfl) (fun _ => ite_congr rfl (fun _ => rfl) (fun _ => ite_congr (propext (or_congr (by show a.code.length > 512 ↔ _; omega) (by show a.slots.length > 16 ↔ _; omega))) (fun _ => rfl) (fun _ => rfl)))
  rw [hE]; clear hE
  generalize a.slots.any qO = oB at h1 ⊢
  generalize a.slots.any XC = sBo at h2 ⊢
  generalize QI Prod.fst a.slots = rB at h3 ⊢
  refine Ja Tryz.func96 rfl rfl fun w => ?_; refine JA ?_; refine Jq 2 rfl ?_; refine LN rfl fun r1 => ?_; refine Xa 19 [0] rfl rfl ?_; refine LR rfl (Qh rfl rfl) ?_; refine LS 2 [] rfl rfl ?_
  refine J8 10 rfl (fun gb => ?_) (fun gb => ?_) <;> (try simp only [ZZ] at gb) <;> first | (refine LR rfl (J9 rfl rfl rfl) ?_) | (refine LK rfl ?_)
  all_goals refine LW 2 [0] rfl rfl ?_
  all_goals first | (refine Je rfl rfl rfl (enters_of Tryz.func154 (by kernel_rfl) rfl) h1 oR ?_) | refine LK rfl ?_
  all_goals (
   refine LW 2 [] rfl rfl (Jw 1 rfl (Y6 1 rfl ?_)); refine Jz rfl (fun h10 => ?_) (fun h10 => ?_)
   try simp only [ZZ] at h10
   refine Ko 8 rfl ?_; refine pT rfl rfl rfl fun w1 hs1 => ?_; refine ⟨?_, hs1.keep⟩; simp only [JB]
   simp_all
   · try exact Bool.noConfusion h10
     all_goals try simp only [ZZ] at h10
     all_goals (
      refine Xs 4 [0] rfl rfl ?_; refine Je rfl rfl rfl (enters_of Tryz.func155 (by kernel_rfl) rfl) h3 oR ?_; refine JK 4 rfl ?_; refine cD (fun h13 => ?_) fun h13 => ?_
      refine Ko 8 rfl ?_; refine pT rfl rfl rfl fun w1 hs1 => ?_; refine ⟨?_, hs1.keep⟩; simp only [JB]
      simp_all
      · refine Xs 4 [0] rfl rfl ?_; refine LR rfl (Qh rfl rfl) ?_; refine LS 2 [] rfl rfl ?_
        refine J8 26 rfl (fun gb => ?_) (fun gb => ?_) <;> (try simp only [ZZ] at gb) <;> first | (refine LR rfl (J9 rfl rfl rfl) ?_) | (refine LK rfl ?_)
        all_goals refine LW 1 [0] rfl rfl ?_
        all_goals first | refine LR rfl (J1 rfl hseg rfl) ?_ | refine LK rfl ?_
        all_goals (
         refine LW 3 [] rfl rfl (Jw 1 rfl (Y6 1 rfl ?_)); refine Jz rfl (fun h20 => ?_) (fun h20 => ?_)
         try simp only [ZZ] at h20
         refine Ko 8 rfl ?_; refine pT rfl rfl rfl fun w1 hs1 => ?_; refine ⟨?_, hs1.keep⟩; simp only [JB]
         simp_all
         · try exact Bool.noConfusion h20
           all_goals try simp only [ZZ] at h20
           all_goals (
            refine Xs 5 [0] rfl rfl ?_; refine Je rfl rfl rfl (enters_of Tryz.func154 (by kernel_rfl) rfl) h2 oR ?_; refine JK 3 rfl ?_; refine cD (fun h23 => ?_) fun h23 => ?_
            refine Ko 8 rfl ?_; refine pT rfl rfl rfl fun w1 hs1 => ?_; refine ⟨?_, hs1.keep⟩; simp only [JB]
            simp_all
            refine Ko 9 rfl ?_; refine pT rfl rfl rfl fun w1 hs1 => ?_; refine ⟨?_, hs1.keep⟩; simp only [JB]
            simp_all
            skip)
         skip)
      skip)
   skip)
theorem Ju1 {R : Ji} {rb e : Nat} {k : BS} (hb : (rb, Obj.cells #[J4 k] e (0, 0)) ∈ R) (a : AcL) : PureR Tryz.prog 43 [vA a, .pointer (some ⟨rb, 0, none⟩)].toArray (.bool (decide (a.addr = k))) R := by
 refine Ja Tryz.func43 rfl rfl fun w => ?_; refine JA ?_; refine Jq 2 rfl ?_; refine LN rfl fun r1 => ?_; refine Xa 7 [0] rfl rfl ?_; refine LR rfl (Jd rfl (Or.inr hb) rfl rfl) ?_; refine LR rfl (Wi rfl rfl) ?_; refine Jw 4 rfl ?_; refine pT rfl rfl rfl fun w1 hs1 => ?_; exact ⟨rfl, hs1.keep⟩
theorem Ju2 {R : Ji} {rb e : Nat} {k : BS} (hb : (rb, Obj.cells #[J4 k] e (0, 0)) ∈ R) (x : BS × BS) : PureR Tryz.prog 115 [vS x, .pointer (some ⟨rb, 0, none⟩)].toArray (.bool (decide (x.1 = k))) R := by
 refine Ja Tryz.func115 rfl rfl fun w => ?_; refine JA ?_; refine Jq 2 rfl ?_; refine LN rfl fun r1 => ?_; refine Xa 7 [0] rfl rfl ?_; refine LR rfl (Jd rfl (Or.inr hb) rfl rfl) ?_; refine LR rfl (Wi rfl rfl) ?_; refine Jw 4 rfl ?_; refine pT rfl rfl rfl fun w1 hs1 => ?_; exact ⟨rfl, hs1.keep⟩
theorem Jya {R : Ji} {rb e : Nat} {k : BS} (hb : (rb, Obj.cells #[J4 k] e (0, 0)) ∈ R) (x : BS × BS) : PureR Tryz.prog 259 [vS x, .pointer (some ⟨rb, 0, none⟩)].toArray (.bool (decide (x.1 = k))) R := by
 refine Ja Tryz.func259 rfl rfl fun w => ?_; refine JA ?_; refine Jq 2 rfl ?_; refine LN rfl fun r1 => ?_; refine Xa 7 [0] rfl rfl ?_; refine LR rfl (Jd rfl (Or.inr hb) rfl rfl) ?_; refine LR rfl (Wi rfl rfl) ?_; refine Jw 4 rfl ?_; refine pT rfl rfl rfl fun w1 hs1 => ?_; exact ⟨rfl, hs1.keep⟩
theorem qg {R : Ji} {s : StL} (hs : s.In R) (k : BS) : PureR Tryz.prog 18 [s.val, J4 k].toArray (.tuple #[(JW s k).val, .bool (Wc s k)]) R := by
 have hl := hs.len
 have hseg := hs.seg
 refine Ja Tryz.func18 rfl rfl fun w => ?_; refine JA ?_; refine Jq 2 rfl ?_; refine LN rfl fun r1 => ?_; refine LN rfl fun r2 => ?_; refine LN rfl fun r3 => ?_; refine Xa 7 [2] rfl rfl ?_; refine LR rfl (JC rfl rfl) ?_; refine Je (Rl := (r2, Obj.cells #[J4 k] 9 (0, 0)) :: R) rfl rfl rfl (enters_of Tryz.func42 (by kernel_rfl) rfl) (Jp5 (caps := [.pointer (some ⟨r2, 0, none⟩)]) (pr := fun a => decide (a.addr = k)) hl (hseg.mono fun q hq => List.mem_cons_of_mem _ hq) (enters_of Tryz.func43 (by kernel_rfl) rfl) (fun a _ => Ju1 List.mem_cons_self a)) (fun q hq => (List.mem_cons.1 hq).elim (fun h => Or.inl (by rw [h]; simp)) Or.inr) ?_; refine JK 10 rfl ?_; refine cD (fun g => ?_) fun g => ?_
 refine JN 1 rfl ?_
 have hf := wd (by assumption)
 refine Jq 1 rfl ?_; refine LR rfl (Js (r := [_, _, _, _, _, _, _, _]) rfl rfl) ?_
 refine LT 0 rfl rfl ?_; refine Jw 5 rfl ?_; refine Jg rfl rfl (.cons (Jy (vs := [_, _, _, _, _, _, _, _]) rfl (kn 0 rfl) rfl rfl) (.cons (Jl rfl) .nil)) (fun w1 hs1 => ?_); refine ⟨?_, hs1.keep⟩; rw [(yY hf).1, (yY hf).2]; rfl
 ·refine JN 3 rfl ?_
  obtain ⟨i, a, hidx, ha, hf⟩ := Jht (by assumption)
  refine Xs 4 [2] rfl rfl ?_
  refine LR rfl (Jp (j := i) rfl hseg rfl rfl rfl (by first | rfl | omega) (by have := (List.getElem?_eq_some_iff.1 ha).1; omega)) ?_; refine LR rfl (Ka AcL.len oR rfl hseg ha rfl rfl) ?_
  refine LT 0 rfl rfl ?_; refine Jw 4 rfl ?_; refine Jg rfl rfl (.cons (Jy (vs := [_, _, _, _, _, _, _, _]) rfl (kn 0 rfl) rfl rfl) (.cons (Jl rfl) .nil)) (fun w1 hs1 => ?_); refine ⟨?_, hs1.keep⟩; rw [(Jcu hf).1, (Jcu hf).2]; rfl
theorem Yc {R : Ji} {s : StL} (hs : s.In R) : PureR Tryz.prog 44 [s.val].toArray (.int .i64 (KR s.er)) R := by
  have hl : s.accts.length ≤ 9223372036854775807 := hs.len
  have hseg := hs.seg
  obtain ⟨hc5, hcg⟩ := Jte s
  refine Ja Tryz.func44 rfl rfl fun w => ?_; refine JA ?_; refine Jq 2 rfl ?_; refine LN rfl fun r1 => ?_; refine Xa 8 [0] rfl rfl ?_; refine LR rfl (J1 rfl hseg rfl) ?_; refine JK 3 rfl ?_; refine cD (fun g => ?_) fun g => ?_
  refine Ko 7 rfl ?_; refine pT rfl rfl rfl fun w1 hs1 => ?_; refine ⟨?_, hs1.keep⟩; rw [hc5 (by assumption)]; rfl
  · refine Xs 7 [0] rfl rfl ?_; refine LR rfl (J1 rfl hseg rfl) ?_; refine JK 4 rfl ?_; refine J0 (σ := Nat) (fun i => i ≤ s.accts.length ∧ goS (XU s.er i) (s.er.drop i) = goS none s.er) (fun i => [(1, .pointer (some ⟨r1, 0, none⟩)), (11, KL s.accts.length s.p), (12, .int .i64 (s.accts.length : Int)), (13, .int .i64 (i : Int))]) (fun _ => [(r1, .cells s.cells.toArray 36 (0, 0))]) (fun _ _ _ => True) (fun i => s.accts.length - i) 0 ⟨Nat.zero_le _, rfl⟩ (lK rfl) (List.Sublist.refl _) (fun _ _ h => h) ?_; rintro i ⟨hi1, hinv⟩; refine JN 6 rfl ?_; refine cD (fun g => ?_) fun g => ?_
    · refine JN 5 rfl ?_
      obtain ⟨a, ha, hma⟩ := Q4 (show i < s.accts.length by omega)
      rw [Jta (Yr ha)] at hinv; refine Jq 2 rfl ?_
      refine LR rfl (Jp (j := i) rfl hseg rfl rfl rfl (by first | rfl | omega) (by omega)) ?_; refine LR rfl (Ka AcL.len oR rfl hseg ha rfl rfl) ?_; refine LN rfl fun r2 => ?_; refine QL rfl (Jk (k := 0) (n := 8) (ys := a.cells) rfl rfl rfl rfl rfl a.len rfl a.one rfl (JG 4 rfl ?_)); refine LR rfl (Jh (xs := a.cells) (n := 8) rfl (kn 0 rfl) rfl rfl a.len) ?_; refine Je rfl rfl rfl Jxm (Jf3 (hs.accts a hma)) oR ?_; refine JG 9 rfl ?_
      refine J8 22 rfl (fun gb => ?_) (fun gb => ?_) <;> (try simp only [ZZ] at gb) <;> first | (refine QL rfl ?_) | (refine LK rfl ?_)
      all_goals refine LW 3 [] rfl rfl ?_
      all_goals first | refine LK rfl ?_ | (refine J8 26 rfl (fun gb => ?_) (fun gb => ?_) <;> (try simp only [ZZ] at gb) <;> first | (refine LR rfl (J9 rfl rfl rfl) ?_) | (refine LK rfl ?_))
      all_goals refine LW 2 [1] rfl rfl ?_
      all_goals first | (refine VQ rfl ?_; refine Jc (by omega) (by omega) ?_) | refine LK rfl ?_
      all_goals refine LW 1 [] rfl rfl ?_
      all_goals first | (refine VQ rfl ?_; refine Jc (by omega) (by omega) ?_) | refine LK rfl ?_
      all_goals first | (obtain ⟨x, hx, hmx⟩ := Q4 (show i - 1 < s.accts.length by omega); refine LR rfl (Jkt (sz := 8) (a := i - 1) (b := i + 1) (m := 2) rfl hseg rfl rfl (by omega) (by omega) rfl rfl (by omega) (by omega) (by omega)) ?_; have hlast := Jtd hx (show i - 1 + 1 = i by omega)) | refine LK rfl ?_
      all_goals first | (refine Je rfl rfl rfl (enters_of Tryz.func97 (by kernel_rfl) rfl) (Jp6 (xs := [x, a]) (show 2 ≤ 9223372036854775807 by decide) (hseg.two AcL.len hx ha (by omega))) oR ?_; refine J3 (congrArg Value.bool (Jff x a)) ?_) | refine LK rfl ?_
      all_goals (
       refine LW 2 [] rfl rfl (Jw 1 rfl (Y6 1 rfl ?_)); refine Jz rfl (fun g => ?_) (fun g => ?_)
       · try exact Bool.noConfusion g
         all_goals try simp only [ZZ] at g
         all_goals (
          refine JN 5 rfl ?_
          have hst : V6 (XU s.er i) a.er = 11 ∨ V6 (XU s.er i) a.er = WB a.er := by unfold V6; split <;> simp
          have hst : V6 (XU s.er i) a.er = 11 := Jtb (by assumption) hlast (by assumption)
          rw [hst] at hinv; refine JN 5 rfl ?_; refine Jz rfl (fun g => ?_) (fun g => ?_)
          try simp only [ZZ] at g
          refine Ko 12 rfl ?_; refine pT rfl rfl rfl fun w1 hs1 => ?_; refine ⟨?_, hs1.keep⟩; rw [hcg (by omega), ← hinv, if_pos (by simp_all)]; rfl
          try exact Bool.noConfusion g
          skip)
       · try simp only [ZZ] at g
         refine JN 3 rfl ?_
         have hst : V6 (XU s.er i) a.er = 11 ∨ V6 (XU s.er i) a.er = WB a.er := by unfold V6; split <;> simp
         have hst : V6 (XU s.er i) a.er = WB a.er := Jtc (by first | exact Or.inl (by assumption) | exact Or.inr (Or.inl (by rw [show i = 0 by omega]; rfl)) | exact Or.inr (Or.inr ⟨_, hlast, by assumption⟩))
         rw [hst] at hinv; refine JN 5 rfl ?_; refine cD (fun g => ?_) fun g => ?_
         refine Ko 12 rfl ?_; refine pT rfl rfl rfl fun w1 hs1 => ?_; refine ⟨?_, hs1.keep⟩; rw [hcg (by omega), ← hinv, if_pos (by simp_all)]; rfl
         refine Jq 5 rfl ?_; refine Jc (by omega) (by omega) ?_; refine Jw 2 rfl ?_; refine Jx ?_; exact Jt (i + 1) ⟨by omega, by rw [if_neg (by simp_all)] at hinv; exact hinv⟩ (by omega) (lK rfl) (List.sublist_cons_self _ _) (fun _ _ h => h)
       skip)
    · refine Ko 11 rfl ?_; refine pT rfl rfl rfl fun w1 hs1 => ?_; refine ⟨?_, hs1.keep⟩; rw [hcg (by omega), ← hinv, List.drop_of_length_le (by rw [s.er_len]; omega)]; rfl
theorem Jf4 {R : Ji} {a : AcL} (ha : a.In R) (k : BS) : PureR Tryz.prog 60 [a.val, J4 k].toArray (J4 (KW a.er k)) R := by
 have hl : a.slots.length ≤ 9223372036854775807 := ha.len
 have hseg := ha.seg
 refine Ja Tryz.func60 rfl rfl fun w => ?_; refine JA ?_; refine Jq 2 rfl ?_; refine LN rfl fun r1 => ?_; refine LN rfl fun r2 => ?_; refine Xa 7 [1] rfl rfl ?_; refine LR rfl (JC rfl rfl) ?_; refine Je (Rl := (r2, Obj.cells #[J4 k] 9 (0, 0)) :: R) rfl rfl rfl Joh (wI (caps := [.pointer (some ⟨r2, 0, none⟩)]) (pr := fun x => decide (x.1 = k)) hl (hseg.mono fun q hq => List.mem_cons_of_mem _ hq) (enters_of Tryz.func115 (by kernel_rfl) rfl) (fun x _ => Ju2 List.mem_cons_self x)) (fun q hq => (List.mem_cons.1 hq).elim (fun h => Or.inl (by rw [h]; simp)) Or.inr) ?_; refine JK 10 rfl ?_; refine cD (fun g => ?_) fun g => ?_
 refine JN 1 rfl ?_
 have hf := wd (by assumption)
 refine Jq 1 rfl ?_; refine Jn rfl rfl rfl Joi Jf2 ?_; refine Jw 5 rfl ?_; refine pT rfl rfl rfl fun w1 hs1 => ?_; refine ⟨?_, hs1.keep⟩; rw [Jkv (a := a.er) hf]; rfl
 ·refine JN 3 rfl ?_
  obtain ⟨i, x, hidx, hx, hf⟩ := Jht (by assumption)
  refine Xs 4 [1] rfl rfl ?_
  refine LR rfl (Jp (j := i) rfl hseg rfl rfl rfl (by first | rfl | omega) (by have := (List.getElem?_eq_some_iff.1 hx).1; omega)) ?_; refine LR rfl (KM (off' := jT a.p + (i * 2 + 1)) rfl rfl (by show jT a.p + i * 2 + 1 = _; omega)) ?_; refine LR rfl (Wu Kf (k := 1) (v := J4 x.2) oR rfl hseg hx rfl rfl) ?_; refine Jw 4 rfl ?_; refine pT rfl rfl rfl fun w1 hs1 => ?_; refine ⟨?_, hs1.keep⟩; rw [Jn0 (a := a.er) hf]; rfl
theorem Jqc {R : Ji} {xs : List (BS × BS)} {row : QU} (hl : xs.length ≤ 1000) (hrow : rowOk 2 xs.length (xs.flatMap Q6) row) {g : FuncId} {caps : List Value} {pr : BS × BS → Bool} (eg : Enters Tryz.prog g) (hg : ∀ x ∈ xs, PureR Tryz.prog g (vS x :: caps).toArray (.bool (pr x)) R) :
  PureT (α := { row' : QU // rowOk 2 (xs.filter fun x => !pr x).length ((xs.filter fun x => !pr x).flatMap Q6) row' }) Tryz.prog 258 [JE xs.length row, .func (.func g) #[] caps.toArray].toArray (fun x => JE (xs.filter fun x => !pr x).length x.1) (JP 97 (xs.flatMap Q6) row) (fun x => JP 97 ((xs.filter fun x => !pr x).flatMap Q6) x.1) R := by
 have hseg := KF (e := 97) hrow (by decide)
 have hV := Xi xs.length row (fun h => by subst h; exact hrow.1)
 have hidx := wI (R := JP 97 (xs.flatMap Q6) row ++ R) (by omega) (hseg.mono fun q hq => List.mem_append_left _ hq) eg (fun x hx => (hg x hx).mono fun q hq => List.mem_append_right _ hq)
 rw [hV] at hidx
 obtain ⟨m, hm⟩ : ∃ m, m = Yp pr xs := ⟨_, rfl⟩
 rw [← hm] at hidx; refine Ju Tryz.func258 rfl rfl fun w => ?_; refine JA ?_; refine Jq 9 rfl ?_; refine Je (Rl := JP 97 (xs.flatMap Q6) row ++ R) rfl rfl rfl Joh hidx (fun q hq => (List.mem_append.1 hq).elim Or.inl Or.inr) ?_; refine JK 10 rfl ?_; refine cD (fun h5 => ?_) fun h5 => ?_
 refine Ko 8 rfl ?_; refine pT rfl rfl rfl fun w1 hs1 => ?_
 (have hall := Jtg (pr := pr) (xs := xs) (by omega)
  rw [hall]
  exact ⟨⟨row, hrow⟩, rfl, hs1⟩)
 ·refine JN 4 rfl ?_
  obtain ⟨i, e0⟩ : ∃ i : Nat, m = (i : Int) := by
   rcases wc (pr := pr) (xs := xs) with ⟨h, _⟩ | ⟨i, _, h, _⟩
   ·unfold Yp at hm h; split at hm <;> split at h <;> first | omega | simp_all
   exact ⟨i, hm.trans h⟩
  subst e0
  obtain ⟨hil, hif⟩ := Jtf hm.symm
  obtain ⟨r, cap, sp, rfl⟩ := row_some hrow (by omega)
  obtain ⟨hr1, hr2⟩ := hrow
  obtain ⟨x0, hx0, _⟩ := Q4 hil
  have hsplit : xs.flatMap Q6 ++ sp = ((xs.take (i + 1)).filter fun x => !pr x).flatMap Q6 ++ (Q6 x0 ++ ((xs.drop (i + 1)).flatMap Q6 ++ sp)) := by
   rw [hif, ← List.append_assoc (Q6 x0), ← Jcv hx0, ← List.append_assoc, ← List.flatMap_append, List.take_append_drop]
  change HC _ _ _ [(r, .cells (xs.flatMap Q6 ++ sp).toArray 97 (0, 0))] _ _ _; rw [hsplit]
  have hcap : xs.length ≤ cap := by omega
  have hi1 : ((xs.take (i + 1)).filter fun x => !pr x).length = i := by rw [hif, List.length_take]; omega
  refine Jq 3 rfl ?_; refine Jc (by omega) (by omega) ?_; refine JK 4 rfl ?_; refine J0 (σ := Nat × List Value) (fun s => s.1 ≤ xs.length ∧ ((xs.take s.1).filter fun x => !pr x).length < s.1 ∧ s.2.length + ((xs.take s.1).filter fun x => !pr x).length * 2 = s.1 * 2) (fun s => [(0, .slice (some ⟨r, 0, none⟩) xs.length cap), (1, .func (.func g) #[] caps.toArray), (5, .int .i64 (((xs.take s.1).filter fun x => !pr x).length : Nat)), (6, .int .i64 (s.1 : Int))]) (fun s => [(r, .cells (((xs.take s.1).filter fun x => !pr x).flatMap Q6 ++ (s.2 ++ ((xs.drop s.1).flatMap Q6 ++ sp))).toArray 97 (0, 0))]) (fun _ _ _ => True) (fun s => xs.length - s.1) (i + 1, Q6 x0) ⟨by simp only; omega, by simp only; omega, by simp only [Kf]; omega⟩ (.cons rfl (.cons rfl (.cons (by rw [hi1]; rfl) (.cons rfl .nil)))) (List.Sublist.refl _) (fun _ _ h => h) ?_; rintro ⟨j, G⟩ ⟨hj1, hj2, hG⟩; simp only at hj1 hj2 hG; change HC _ _ [(0, _), (1, _), (5, .int .i64 (((xs.take j).filter fun x => !pr x).length : Nat)), (6, .int .i64 (j : Int))] [(r, .cells (((xs.take j).filter fun x => !pr x).flatMap Q6 ++ (G ++ ((xs.drop j).flatMap Q6 ++ sp))).toArray 97 (0, 0))] _ _ _; refine Jq 5 rfl ?_; refine LR rfl (JU rfl rfl) ?_; refine JK 3 rfl ?_; refine cD (fun h11 => ?_) fun h11 => ?_
  refine JN 5 rfl ?_
  obtain ⟨x, hx, hmx⟩ := Q4 (show j < xs.length by omega)
  rw [Jcv hx, List.append_assoc (Q6 x)]; refine Jq 3 rfl ?_; refine LR rfl (JI (j := j) (m := 2) rfl rfl rfl rfl rfl (by omega) rfl) ?_; refine LR rfl (Jo (n := 2) (vs := Q6 x) rfl (kn 0 rfl) rfl rfl (by simp only [List.toList_toArray]; rw [← List.append_assoc, List.drop_left' (by rw [List.length_append, Kn Kf]; omega), List.take_left' (Kf x)]) rfl) ?_; refine LN rfl fun r1 => ?_; refine Jk (k := 0) (n := 2) (ys := Q6 x) rfl rfl rfl rfl rfl rfl rfl rfl rfl ?_; refine JG 5 rfl ?_; refine LR rfl (Jh (xs := Q6 x) (n := 2) rfl (kn 0 rfl) rfl rfl rfl) ?_; refine Je rfl rfl rfl eg (hg x hmx) oR ?_; refine JK 3 rfl ?_; refine cD (fun h15 => ?_) fun h15 => ?_
  refine JN 1 rfl ?_
  obtain ⟨M, G2, hcut, lM⟩ := cut (l := G ++ Q6 x) (a := 2) (by rw [List.length_append, Kf]; omega)
  have lG2 : G2.length = G.length := by have := congrArg List.length hcut; simp only [List.length_append, Kf] at this; omega
  have hkeep := XV (pr := fun x => !pr x) hx
  rw [if_pos (by simp_all)] at hkeep; refine Jq 3 rfl ?_; refine LR rfl (Jh (xs := Q6 x) (n := 2) rfl (kn 0 rfl) rfl rfl rfl) ?_; refine LR rfl (JI (j := ((xs.take j).filter fun x => !pr x).length) (m := 2) rfl rfl rfl rfl rfl (by omega) rfl) ?_; refine Q9 (k := 1) (n := 2) (vs := (Q6 x).toArray) (cs' := (((xs.take j).filter fun x => !pr x).flatMap Q6 ++ (Q6 x ++ (G2 ++ ((xs.drop (j + 1)).flatMap Q6 ++ sp)))).toArray) rfl rfl rfl rfl rfl rfl rfl (by simp only [List.size_toArray, List.length_append, Kn Kf]; omega) (by apply Array.toList_inj.1; simp only [List.toList_toArray, Nat.zero_add]; rw [show G ++ (Q6 x ++ ((xs.drop (j + 1)).flatMap Q6 ++ sp)) = M ++ (G2 ++ ((xs.drop (j + 1)).flatMap Q6 ++ sp)) by rw [← List.append_assoc, hcut, List.append_assoc]]; exact Xh (Kn Kf _) lM) rfl ?_; refine JG 5 rfl ?_; refine Jc (by omega) (by omega) ?_; refine JG 7 rfl ?_; refine Jc (by omega) (by omega) ?_; refine Jw 2 rfl ?_; refine Jx ?_; exact Jt (j + 1, G2) ⟨by simp only; omega, by simp only; rw [hkeep, List.length_append, List.length_singleton]; omega, by simp only; rw [hkeep, List.length_append, List.length_singleton]; omega⟩ (by simp only; omega) (.cons rfl (.cons rfl (.cons (by simp only [Q8]; rw [hkeep, List.length_append, List.length_singleton]; rfl) (.cons rfl .nil)))) (by simp only [hkeep, List.flatMap_append, List.flatMap_singleton, List.append_assoc]; exact List.sublist_cons_self _ _) (fun _ _ h => h)
  refine Jq 6 rfl ?_; refine Jc (by omega) (by omega) ?_; refine Jw 2 rfl ?_; refine Jx ?_
  (have hdel := XV (pr := fun x => !pr x) hx
   rw [if_neg (by simp_all), List.append_nil] at hdel
   exact Jt (j + 1, G ++ Q6 x) ⟨by simp only; omega, by simp only; rw [hdel]; omega, by simp only [List.length_append, Kf]; rw [hdel]; omega⟩ (by simp only; omega) (.cons rfl (.cons rfl (.cons (by simp only [Q8]; rw [hdel]; try rfl) (.cons rfl .nil)))) (by simp only [hdel, List.append_assoc]; exact List.sublist_cons_self _ _) (fun _ _ h => h))
  ·refine JN 6 rfl ?_
   have hjn : j = xs.length := by omega
   have hdrop : (xs.drop j).flatMap Q6 = [] := by rw [List.drop_of_length_le (by omega)]; rfl
   rw [hdrop, List.nil_append]; refine Jq 3 rfl ?_; refine LR rfl (JO (sz := 2) (m := ((xs.take j).filter fun x => !pr x).length) (kl := some ((xs.take j).filter fun x => !pr x).length) (kh := none) (km := none) (q := xs.length) (z := cap) (off' := ((xs.take j).filter fun x => !pr x).length * 2) rfl rfl rfl ⟨_, rfl⟩ trivial trivial rfl rfl rfl (by omega) (by omega) (by omega) (fun _ => rfl) (by rw [if_neg (by omega)]; omega)) ?_; refine yV (k := 0) (sz := 2) rfl rfl rfl rfl rfl rfl rfl (by decide) (by simp only [List.size_toArray, List.length_append, Kn Kf, List.length_drop]; omega) (Xh (P := ((xs.take j).filter fun x => !pr x).flatMap Q6) (M := G) (S := sp) (Kn Kf _) (by omega)) rfl ?_; refine JG 6 rfl ?_
   refine LR rfl (JO (sz := 2) (q := ((xs.take j).filter fun x => !pr x).length) (kl := none) (kh := some ((xs.take j).filter fun x => !pr x).length) (km := none) (m := 0) (z := cap) (off' := 0) rfl rfl rfl trivial ⟨_, rfl⟩ trivial rfl rfl rfl (by omega) (by omega) (by omega) (fun h => by cases h) (by split <;> omega)) ?_; refine Jw 4 rfl ?_; refine pT rfl rfl rfl fun w1 hs1 => ?_
   (have hfull : (xs.take j).filter (fun x => !pr x) = xs.filter fun x => !pr x := by rw [hjn, List.take_length]
    rw [hfull] at hs1 ⊢; refine ⟨⟨some (r, cap, _), Kn Kf _, ?_⟩, rfl, hs1.weakL (by simp only [JP]; exact List.Sublist.refl _)⟩
    have hz : ∀ n, (Builtin.zeroCells (Value.agg #[Value.string ⟨#[]⟩, Value.string ⟨#[]⟩]).cells n).toList.length = n * 2 := fun n => by rw [Array.length_toList, size_zeroCells]; rfl
    rw [List.length_append, hz]
    have := List.length_filter_le (fun x => !pr x) xs
    omega)
theorem J0f {R : Ji} {a : AcL} (ha : a.In R) (k v : BS) : PureT (α := AcRes R (VZ a.er k v)) Tryz.prog 197 [a.val, J4 k, J4 v].toArray (fun x => x.val) [] (fun x => x.L) R := by
  have hlk := Jf3 ha
  have hl := ha.len
  have hseg := ha.seg
  have hset : VZ a.er k v = if WB a.er ≠ 0 then (a.er, WB a.er) else if k.length ≠ 32 ∨ v.length ≠ 32 then (a.er, 2) else if (KD a.slots k v).length > 16 then (a.er, 5) else (⟨a.addr, a.nonce, a.bal, a.code, KD a.slots k v⟩, 0) := rfl
  refine Ju Tryz.func197 rfl rfl fun w => ?_; refine JA ?_; refine Jq 2 rfl ?_; refine LN rfl fun r1 => ?_; refine LN rfl fun r2 => ?_; refine LN rfl fun r3 => ?_; refine JG 6 rfl ?_; refine LR rfl (Jo (vs := [_, _, _, _, _, _, _, _]) rfl (kn 2 rfl) rfl rfl rfl rfl) ?_; refine Je rfl rfl rfl Jxm hlk oR ?_; refine JK 9 rfl ?_; refine cD (fun g => ?_) fun g => ?_
  refine Xs 4 [2] rfl rfl ?_
  refine LT 0 rfl rfl ?_; refine Jw 5 rfl ?_; refine Jg rfl rfl (.cons (Jy (vs := [_, _, _, _, _, _, _, _]) rfl (kn 0 rfl) rfl rfl) (.cons (Jl rfl) .nil)) (fun w1 hs1 => ?_); rw [hset, if_pos (by omega)]; exact ⟨⟨a, WB a.er, [], ha, rfl⟩, rfl, hs1.weakL (List.nil_sublist _)⟩
  · refine Jq 5 rfl ?_; refine LR rfl (Jd rfl (kn 1 rfl) rfl rfl) ?_; refine LR rfl (Qh rfl rfl) ?_; refine LS 2 [] rfl rfl ?_
    refine J8 19 rfl (fun gb => ?_) (fun gb => ?_) <;> (try simp only [ZZ] at gb) <;> first | (refine QL rfl ?_) | (refine LK rfl ?_)
    all_goals first | refine LR rfl (Qh rfl rfl) ?_ | refine LK rfl ?_
    all_goals (
     refine LW 2 [] rfl rfl (Jw 1 rfl (Y6 1 rfl ?_)); refine Jz rfl (fun g => ?_) (fun g => ?_)
     try simp only [ZZ] at g
     refine Jq 2 rfl ?_; refine LR rfl (Jo (vs := [_, _, _, _, _, _, _, _]) rfl (kn 2 rfl) rfl rfl rfl rfl) ?_
     refine LT 0 rfl rfl ?_; refine Jw 5 rfl ?_; refine Jg rfl rfl (.cons (Jy (vs := [_, _, _, _, _, _, _, _]) rfl (kn 0 rfl) rfl rfl) (.cons (Jl rfl) .nil)) (fun w1 hs1 => ?_); rw [hset, if_neg (by omega), if_pos (by omega)]; exact ⟨⟨a, 2, [], ha, rfl⟩, rfl, hs1.weakL (List.nil_sublist _)⟩
     · try exact Bool.noConfusion g
       all_goals try simp only [ZZ] at g
       all_goals (
        refine JN 3 rfl ?_
        have hok : Ky Prod.fst a.slots ∧ a.slots.length ≤ 16 := ⟨(QQ (a := a.er) (by omega)).2.2.1, (QQ (a := a.er) (by omega)).2.2.2.2⟩
        have hinl : (Qf Prod.fst (k, v) a.slots).length ≤ 17 := by
          have := hok.2
          rw [Jhi hok.1]
          split <;> omega
        refine Xs 5 [2, 1] rfl rfl ?_; refine LR rfl (Js (r := [_, _]) rfl rfl) ?_; refine Kz rfl rfl rfl (enters_of Tryz.func257 (by kernel_rfl) rfl) (Juy (by have := hok.2; omega) hseg hok.1 (k, v)) oR fun x => ?_
        obtain ⟨row, hrow⟩ := x
        refine Kx List.perm_append_comm ?_; change HL _ _ ((30, JE (Qf Prod.fst (k, v) a.slots).length row) :: _) ((r3, _) :: (r2, _) :: (r1, _) :: JP _ _ row) _ _ _ _; refine JG 7 rfl ?_; refine Jn rfl rfl rfl Joi Jf2 ?_; refine LR rfl (Wi rfl rfl) ?_; refine JK 2 rfl ?_; refine cD (fun g => ?_) fun g => ?_
        have hdC := Jqc (R := [(r2, Obj.cells #[J4 k] 9 (0, 0))]) (caps := [.pointer (some ⟨r2, 0, none⟩)]) (pr := fun x => decide (x.1 = k)) (by omega) hrow (enters_of Tryz.func259 (by kernel_rfl) rfl) (fun x _ => Jya List.mem_cons_self x)
        rw [Jfg, show jX Prod.fst k a.slots = KD a.slots k v from by unfold KD; rw [if_pos (by assumption)]] at hdC; refine Jq 2 rfl ?_; refine LR rfl (JC rfl rfl) ?_; refine Qr (T := JP _ _ row) (L0 := [(r3, _), (r2, _), (r1, _)]) (Rl := [(r2, Obj.cells #[J4 k] 9 (0, 0))]) (List.perm_append_comm (l₁ := [_, _, _])) rfl rfl rfl (enters_of Tryz.func258 (by kernel_rfl) rfl) hdC (fun q hq => Or.inl (by rw [List.mem_singleton.1 hq]; exact List.mem_cons_of_mem _ List.mem_cons_self)) fun x => ?_
        obtain ⟨row2, hrow2⟩ := x
        refine Kx List.perm_append_comm ?_; change HL _ _ ((36, JE (KD a.slots k v).length row2) :: _) ((r3, _) :: (r2, _) :: (r1, _) :: JP _ _ row2) _ _ _ _; refine JK 5 rfl ?_
        try rw [show Qf Prod.fst (k, v) a.slots = KD a.slots k v from by unfold KD; rw [if_neg (by assumption)]] at hrow ⊢
        refine Jq 2 rfl ?_; refine LR rfl (WZ rfl hrow2.zero rfl) ?_; refine JK 3 rfl ?_; refine cD (fun g => ?_) fun g => ?_
        refine Jq 2 rfl ?_; refine LR rfl (Jo (vs := [_, _, _, _, _, _, _, _]) rfl (kn 2 rfl) rfl rfl rfl rfl) ?_
        refine LT 0 rfl rfl ?_; refine Jw 5 rfl ?_; refine Jg rfl rfl (.cons (Jy (vs := [_, _, _, _, _, _, _, _]) rfl (kn 0 rfl) rfl rfl) (.cons (Jl rfl) .nil)) (fun w1 hs1 => ?_); rw [hset, if_neg (by omega), if_neg (by omega), if_pos (by omega)]; exact ⟨⟨a, 5, [], ha, rfl⟩, rfl, hs1.weakL (List.nil_sublist _)⟩
        refine Jq 6 rfl ?_; refine KP (k := 2) (cs' := #[J4 a.addr, uV a.nonce, uV a.bal.a, uV a.bal.b, uV a.bal.c, uV a.bal.d, J4 a.code, JE (KD a.slots k v).length row2]) rfl rfl rfl rfl rfl (YD _ _) rfl rfl rfl rfl ?_; refine JG 4 rfl ?_; refine LR rfl (Jo (vs := [_, _, _, _, _, _, _, _]) rfl (kn 2 rfl) rfl rfl rfl rfl) ?_; refine Q9 (k := 0) (n := 8) (cs' := #[J4 a.addr, uV a.nonce, uV a.bal.a, uV a.bal.b, uV a.bal.c, uV a.bal.d, J4 a.code, JE (KD a.slots k v).length row2]) (vs := #[_, _, _, _, _, _, _, _]) rfl rfl rfl rfl rfl rfl (by show (Q2 (JE _ _) && true) = true; rw [YD]; rfl) (by exact Nat.le_of_ble_eq_true rfl) rfl rfl ?_; refine Jw 4 rfl ?_; refine Jg rfl rfl (.cons (Jy (vs := [_, _, _, _, _, _, _, _]) rfl (kn 0 rfl) rfl rfl) (.cons (Jl rfl) .nil)) (fun w1 hs1 => ?_)
        (rw [hset, if_neg (by omega), if_neg (by omega), if_neg (by omega)]
         exact ⟨⟨⟨a.addr, a.nonce, a.bal, a.code, KD a.slots k v, Vc row2⟩, 0, JP 97 ((KD a.slots k v).flatMap Q6) row2, ZE ha (by omega) (by omega) (by omega) (KF hrow2 (by decide)), rfl⟩, by show Ending.returned _ = Ending.returned (Value.tuple #[Value.agg #[J4 a.addr, uV a.nonce, uV a.bal.a, uV a.bal.b, uV a.bal.c, uV a.bal.d, J4 a.code, KL (KD a.slots k v).length (Vc row2)], .int .i64 0]); rw [Xi _ _ hrow2.zero]; rfl, hs1.weakL (List.sublist_append_right [_, _, _] _)⟩)
        refine JN 4 rfl ?_
        try rw [show Qf Prod.fst (k, v) a.slots = KD a.slots k v from by unfold KD; rw [if_neg (by assumption)]] at hrow ⊢
        refine Jq 2 rfl ?_; refine LR rfl (WZ rfl hrow.zero rfl) ?_; refine JK 3 rfl ?_; refine cD (fun g => ?_) fun g => ?_
        refine Jq 2 rfl ?_; refine LR rfl (Jo (vs := [_, _, _, _, _, _, _, _]) rfl (kn 2 rfl) rfl rfl rfl rfl) ?_
        refine LT 0 rfl rfl ?_; refine Jw 5 rfl ?_; refine Jg rfl rfl (.cons (Jy (vs := [_, _, _, _, _, _, _, _]) rfl (kn 0 rfl) rfl rfl) (.cons (Jl rfl) .nil)) (fun w1 hs1 => ?_); rw [hset, if_neg (by omega), if_neg (by omega), if_pos (by omega)]; exact ⟨⟨a, 5, [], ha, rfl⟩, rfl, hs1.weakL (List.nil_sublist _)⟩
        refine Jq 6 rfl ?_; refine KP (k := 2) (cs' := #[J4 a.addr, uV a.nonce, uV a.bal.a, uV a.bal.b, uV a.bal.c, uV a.bal.d, J4 a.code, JE (KD a.slots k v).length row]) rfl rfl rfl rfl rfl (YD _ _) rfl rfl rfl rfl ?_; refine JG 4 rfl ?_; refine LR rfl (Jo (vs := [_, _, _, _, _, _, _, _]) rfl (kn 2 rfl) rfl rfl rfl rfl) ?_; refine Q9 (k := 0) (n := 8) (cs' := #[J4 a.addr, uV a.nonce, uV a.bal.a, uV a.bal.b, uV a.bal.c, uV a.bal.d, J4 a.code, JE (KD a.slots k v).length row]) (vs := #[_, _, _, _, _, _, _, _]) rfl rfl rfl rfl rfl rfl (by show (Q2 (JE _ _) && true) = true; rw [YD]; rfl) (by exact Nat.le_of_ble_eq_true rfl) rfl rfl ?_; refine Jw 4 rfl ?_; refine Jg rfl rfl (.cons (Jy (vs := [_, _, _, _, _, _, _, _]) rfl (kn 0 rfl) rfl rfl) (.cons (Jl rfl) .nil)) (fun w1 hs1 => ?_)
        (rw [hset, if_neg (by omega), if_neg (by omega), if_neg (by omega)]
         exact ⟨⟨⟨a.addr, a.nonce, a.bal, a.code, KD a.slots k v, Vc row⟩, 0, JP 97 ((KD a.slots k v).flatMap Q6) row, ZE ha (by omega) (by omega) (by omega) (KF hrow (by decide)), rfl⟩, by show Ending.returned _ = Ending.returned (Value.tuple #[Value.agg #[J4 a.addr, uV a.nonce, uV a.bal.a, uV a.bal.b, uV a.bal.c, uV a.bal.d, J4 a.code, KL (KD a.slots k v).length (Vc row)], .int .i64 0]); rw [Xi _ _ hrow.zero]; rfl, hs1.weakL (List.sublist_append_right [_, _, _] _)⟩)
        skip)
     skip)
theorem J0g {R : Ji} {s : StL} {a : AcL} (hs : s.In R) (ha : a.In R) : PureT (α := StRes R (jY s.er a.er)) Tryz.prog 196 [s.val, a.val].toArray (fun x => x.val) [] (fun x => x.L) R := by
 have hc := Yc hs
 have hlk := Jf3 ha
 have hl := hs.len
 have hseg := hs.seg
 have hput : jY s.er a.er = if KR s.er ≠ 0 then (s.er, KR s.er) else if WB a.er ≠ 0 then (s.er, WB a.er) else if (Qf AcE.addr a.er s.er).length > 32 then (s.er, 5) else (Qf AcE.addr a.er s.er, 0) := rfl
 have hil : (Qf AcE.addr a.er s.er).length = (Qf AcL.addr a s.accts).length := by unfold StL.er; rw [← Jfh, List.length_map]
 rw [hil] at hput; refine Ju Tryz.func196 rfl rfl fun w => ?_; refine JA ?_; refine Jq 2 rfl ?_; refine LN rfl fun r1 => ?_; refine LN rfl fun r2 => ?_; refine LN rfl fun r3 => ?_; refine JG 6 rfl ?_; refine LR rfl (Jo (vs := [_]) rfl (kn 2 rfl) rfl rfl rfl rfl) ?_; refine Je rfl rfl rfl Jof hc oR ?_; refine JK 9 rfl ?_; refine cD (fun g => ?_) fun g => ?_
 refine Xs 4 [2] rfl rfl ?_
 refine LT 0 rfl rfl ?_; refine Jw 5 rfl ?_; refine Jg rfl rfl (.cons (Jy (vs := [_]) rfl (kn 0 rfl) rfl rfl) (.cons (Jl rfl) .nil)) (fun w1 hs1 => ?_); rw [hput, if_pos (by omega)]; exact ⟨⟨s, KR s.er, [], hs, rfl⟩, rfl, hs1.weakL (List.nil_sublist _)⟩
 ·refine Jq 5 rfl ?_; refine LR rfl (Jo (vs := [_, _, _, _, _, _, _, _]) rfl (kn 1 rfl) rfl rfl rfl rfl) ?_; refine Je rfl rfl rfl Jxm hlk oR ?_; refine JK 9 rfl ?_; refine cD (fun g => ?_) fun g => ?_
  refine Xs 4 [2] rfl rfl ?_
  refine LT 0 rfl rfl ?_; refine Jw 5 rfl ?_; refine Jg rfl rfl (.cons (Jy (vs := [_]) rfl (kn 0 rfl) rfl rfl) (.cons (Jl rfl) .nil)) (fun w1 hs1 => ?_); rw [hput, if_neg (by omega), if_pos (by omega)]; exact ⟨⟨s, WB a.er, [], hs, rfl⟩, rfl, hs1.weakL (List.nil_sublist _)⟩
  ·refine JN 3 rfl ?_
   have hok : s.accts.length ≤ 32 ∧ Ky AcL.addr s.accts := by
    have h := W1.1 (show KR s.er = 0 by omega)
    rw [s.er_len] at h; exact ⟨h.1, (Jkw s).2 h.2.2⟩
   refine Xs 4 [2, 1] rfl rfl ?_; refine Kz rfl rfl rfl (enters_of Tryz.func256 (by kernel_rfl) rfl) (Jux (by omega) hseg hok.2 a) oR fun x => ?_
   obtain ⟨row, hrow⟩ := x
   refine Kx List.perm_append_comm ?_; change HL _ _ ((24, JE (Qf AcL.addr a s.accts).length row) :: _) ((r3, _) :: (r2, _) :: (r1, _) :: JP _ _ row) _ _ _ _; refine JG 7 rfl ?_; refine LR rfl (WZ rfl hrow.zero rfl) ?_; refine JK 3 rfl ?_; refine cD (fun g => ?_) fun g => ?_
   refine Jq 2 rfl ?_; refine LR rfl (Jo (vs := [_]) rfl (kn 2 rfl) rfl rfl rfl rfl) ?_
   refine LT 0 rfl rfl ?_; refine Jw 5 rfl ?_; refine Jg rfl rfl (.cons (Jy (vs := [_]) rfl (kn 0 rfl) rfl rfl) (.cons (Jl rfl) .nil)) (fun w1 hs1 => ?_); rw [hput, if_neg (by omega), if_neg (by omega), if_pos (by omega)]; exact ⟨⟨s, 5, [], hs, rfl⟩, rfl, hs1.weakL (List.nil_sublist _)⟩
   ·refine Jq 5 rfl ?_
    refine LR rfl (Js (r := [JE _ row]) rfl (by cases row <;> rfl)) ?_; refine Q9 (k := 0) (n := 1) (cs' := #[JE (Qf AcL.addr a s.accts).length row]) (vs := #[_]) rfl rfl rfl rfl rfl rfl (by show (Q2 (JE _ _) && true) = true; rw [YD]; rfl) (by exact Nat.le_of_ble_eq_true rfl) rfl rfl ?_; refine Jw 4 rfl ?_; refine Jg rfl rfl (.cons (Jy (vs := [_]) rfl (kn 0 rfl) rfl rfl) (.cons (Jl rfl) .nil)) (fun w1 hs1 => ?_)
    (rw [hput, if_neg (by omega), if_neg (by omega), if_neg (by omega)]
     exact ⟨⟨⟨Qf AcL.addr a s.accts, Vc row⟩, 0, JP 48 ((Qf AcL.addr a s.accts).flatMap AcL.cells) row, ⟨by show (Qf AcL.addr a s.accts).length ≤ 9223372036854775807; omega, (KF hrow (by decide)).mono fun q hq => List.mem_append_left _ hq, fun x hx => ((jp hx).elim (fun e => by rw [e]; exact ha) (hs.accts x)).mono fun q hq => List.mem_append_right _ hq⟩, by unfold StL.er; rw [Jfh]⟩, by show Ending.returned _ = Ending.returned (Value.tuple #[Value.agg #[KL (Qf AcL.addr a s.accts).length (Vc row)], .int .i64 0]); rw [Xi _ _ hrow.zero]; rfl, hs1.weakL (List.sublist_append_right [_, _, _] _)⟩)
theorem Jqd {R : Ji} {xs ys : List (BS × BS)} {p q : Pl} (hl : xs.length ≤ 9223372036854775807) (hl2 : ys.length ≤ 9223372036854775807) (hs : Seg R xs.length (xs.flatMap Q6) p) (hs' : Seg R ys.length (ys.flatMap Q6) q) :
  PureR Tryz.prog 52 [KL xs.length p, KL ys.length q].toArray (.bool (decide (xs = ys))) R := by
 refine Ja Tryz.func52 rfl rfl fun w => ?_; refine JA ?_; refine Jq 9 rfl ?_; refine LR rfl (J1 rfl hs rfl) ?_; refine QL rfl (LR rfl (J1 rfl hs' rfl) (JK 3 rfl ?_)); refine cD (fun g => ?_) fun g => ?_
 refine Ko 7 rfl ?_; refine pT rfl rfl rfl fun w1 hs1 => ?_; refine ⟨?_, hs1.keep⟩; rw [decide_eq_false (show ¬ xs = ys from fun e => by have := congrArg List.length e; omega)]; rfl
 ·refine Jq 6 rfl ?_; refine LR rfl (J1 rfl hs rfl) ?_; refine JK 4 rfl ?_
  have hll : xs.length = ys.length := by omega
  refine J0 (σ := Nat) (fun i => i ≤ xs.length ∧ ∀ j, j < i → xs[j]? = ys[j]?) (fun i => [(0, KL xs.length p), (1, KL ys.length q), (12, .int .i64 (xs.length : Int)), (13, .int .i64 (i : Int))]) (fun _ => []) (fun _ _ _ => True) (fun i => xs.length - i) 0 ⟨by omega, fun j hj => absurd hj (by omega)⟩ (lK rfl) (List.nil_sublist _) (fun _ _ h => h) ?_; rintro i ⟨hi1, hinv⟩; refine JN 6 rfl ?_; refine cD (fun g => ?_) fun g => ?_
  refine JN 11 rfl ?_
  obtain ⟨x, hx, hmx⟩ := Q4 (show i < xs.length by omega)
  obtain ⟨y, hy, hmy⟩ := Q4 (show i < ys.length by omega)
  refine JD 9 (by kernel_rfl) (by kernel_rfl) ?_; refine Jb rfl rfl rfl (Jf rfl) ?_; refine Jb rfl rfl rfl (Jf rfl) ?_
  refine Jb rfl rfl rfl (Jp (j := i) rfl hs rfl rfl rfl (by first | rfl | omega) (by omega)) ?_; refine Jb rfl rfl rfl (Ka Kf oR rfl hs hx rfl rfl) ?_; refine Jb rfl rfl rfl (Jf rfl) ?_; refine Jb rfl rfl rfl (Jf rfl) ?_
  refine Jb rfl rfl rfl (Jp (j := i) rfl hs' rfl rfl rfl (by first | rfl | omega) (by omega)) ?_; refine Jb rfl rfl rfl (Ka Kf oR rfl hs' hy rfl rfl) ?_; refine Jb rfl rfl rfl (vj rfl rfl rfl (by kernel_rfl) (by kernel_rfl) (.scal (by decide) rfl rfl rfl rfl rfl (.scal (by decide) rfl rfl rfl rfl rfl .nil))) ?_; refine KU (congrArg (fun b => Value.bool (!b)) (Jhv x y)) ?_; refine JS ?_; refine JK 2 rfl ?_; refine cD (fun g => ?_) fun g => ?_
  refine Ko 11 rfl ?_; refine pT rfl rfl rfl fun w1 hs1 => ?_; refine ⟨?_, hs1.keep⟩; rw [decide_eq_false (Jn2 hx hy (by simp_all))]; rfl
  refine Jq 5 rfl ?_; refine Jc (by omega) (by omega) ?_; refine Jw 2 rfl ?_; refine Jx ?_
  exact Jt (i + 1) ⟨by omega, fun j hj => by
   rcases Nat.lt_succ_iff_lt_or_eq.1 hj with hj | rfl
   exact hinv j hj
   rw [hx, hy]; simp_all⟩ (by omega) (lK rfl) (List.nil_sublist _) (fun _ _ h => h)
  ·refine Ko 11 rfl ?_; refine pT rfl rfl rfl fun w1 hs1 => ?_; refine ⟨?_, hs1.keep⟩; rw [decide_eq_true (Jn1 hll (by omega) hinv)]; rfl
theorem Ju3 (a b : AcL) : a.er = b.er ↔ a.addr = b.addr ∧ a.nonce = b.nonce ∧ a.bal = b.bal ∧ a.code = b.code ∧ a.slots = b.slots := by
 unfold AcL.er
 simp
theorem Ju4 {R : Ji} {a b : AcL} (ha : a.In R) (hb : b.In R) : PureR Tryz.prog 51 [vA a, vA b].toArray (.bool (decide (a.er = b.er))) R := by
 have heq := Jqd ha.len hb.len ha.seg hb.seg
 have hE : decide (a.er = b.er) = (decide (a.addr = b.addr) && (decide (a.nonce = b.nonce) && (decide (a.bal = b.bal) && (decide (a.code = b.code) && decide (a.slots = b.slots))))) := by
  rw [Bool.eq_iff_iff]; simp only [decide_eq_true_eq, Bool.and_eq_true]; exact Ju3 a b
 rw [hE]; refine Ja Tryz.func51 rfl rfl fun w => ?_; refine JA ?_; refine Jq 2 rfl ?_; refine LN rfl fun r1 => ?_; refine LN rfl fun r2 => ?_; refine Xa 9 [1, 0] rfl rfl ?_; refine LR rfl (Wi rfl rfl) ?_; refine QL rfl ?_
 refine J8 10 rfl (fun gb => ?_) (fun gb => ?_) <;> (try simp only [ZZ] at gb) <;> first | (refine LR rfl (J9 rfl rfl rfl) ?_) | (refine LK rfl ?_)
 all_goals refine LW 1 [1] rfl rfl ?_
 all_goals first | refine LR rfl (J9 rfl rfl rfl) ?_ | refine LK rfl ?_
 all_goals refine LW 2 [0] rfl rfl ?_
 all_goals first | (refine J3 (congrArg Value.bool (eqU a.nonce b.nonce)) ?_) | skip
 all_goals refine LW 2 [] rfl rfl ?_
 all_goals first | refine LK rfl ?_ | (refine J8 17 rfl (fun gb => ?_) (fun gb => ?_) <;> (try simp only [ZZ] at gb) <;> first | (refine LR rfl (J9 rfl rfl rfl) ?_) | (refine LK rfl ?_))
 all_goals refine LW 1 [1] rfl rfl ?_
 all_goals first | refine LR rfl (J9 rfl rfl rfl) ?_ | refine LK rfl ?_
 all_goals refine LW 1 [0] rfl rfl ?_
 all_goals first | (refine LR rfl (zY rfl rfl rfl rfl rfl (by kernel_rfl) rfl rfl rfl rfl) ?_) | refine LK rfl ?_
 all_goals first | (refine J3 (congrArg Value.bool (eqW a.bal b.bal)) ?_) | skip
 all_goals refine LW 2 [] rfl rfl ?_
 all_goals first | refine LK rfl ?_ | (refine J8 24 rfl (fun gb => ?_) (fun gb => ?_) <;> (try simp only [ZZ] at gb) <;> first | (refine LR rfl (J9 rfl rfl rfl) ?_) | (refine LK rfl ?_))
 all_goals refine LW 1 [1] rfl rfl ?_
 all_goals first | refine LR rfl (J9 rfl rfl rfl) ?_ | refine LK rfl ?_
 all_goals refine LW 1 [0] rfl rfl ?_
 all_goals first | refine LR rfl (Wi rfl rfl) ?_ | refine LK rfl ?_
 all_goals refine LW 2 [] rfl rfl ?_
 all_goals first | refine LK rfl ?_ | (refine J8 31 rfl (fun gb => ?_) (fun gb => ?_) <;> (try simp only [ZZ] at gb) <;> first | (refine LR rfl (J9 rfl rfl rfl) ?_) | (refine LK rfl ?_))
 all_goals refine LW 1 [1] rfl rfl ?_
 all_goals first | refine LR rfl (J9 rfl rfl rfl) ?_ | refine LK rfl ?_
 all_goals refine LW 1 [0] rfl rfl ?_
 all_goals first | (refine Je rfl rfl rfl (enters_of Tryz.func52 (by kernel_rfl) rfl) heq oR ?_) | refine LK rfl ?_
 all_goals (
  refine LW 2 [] rfl rfl (Jw 1 rfl (ZK 2 rfl ?_)); refine pT rfl rfl rfl fun w1 hs1 => ?_; refine ⟨?_, hs1.keep⟩
  simp_all [JB]
  skip)
theorem qh {s t : StL} : s.er = t.er ↔ s.accts.length = t.accts.length ∧ ∀ (i : Nat) a b, s.accts[i]? = some a → t.accts[i]? = some b → a.er = b.er := by
 constructor
 ·intro h
  refine ⟨by have := congrArg List.length h; rwa [s.er_len, t.er_len] at this, fun i a b ha hb => ?_⟩
  have h1 := Yr ha
  have h2 := Yr hb
  rw [h, h2] at h1; exact (Option.some.inj h1).symm
 ·rintro ⟨h1, h2⟩
  apply List.ext_getElem?
  intro i
  by_cases hi : i < s.accts.length
  ·obtain ⟨a, ha, _⟩ := Q4 hi
   obtain ⟨b, hb, _⟩ := Q4 (show i < t.accts.length by omega)
   rw [Yr ha, Yr hb, h2 i a b ha hb]
  ·rw [List.getElem?_eq_none (by rw [s.er_len]; omega), List.getElem?_eq_none (by rw [t.er_len]; omega)]
theorem Jqe {R : Ji} {s t : StL} (hs : s.In R) (ht : t.In R) :
  PureR Tryz.prog 53 [KL s.accts.length s.p, KL t.accts.length t.p, fV 51].toArray (.bool (decide (s.er = t.er))) R := by
 have hl : s.accts.length ≤ 9223372036854775807 := hs.len
 have hl2 : t.accts.length ≤ 9223372036854775807 := ht.len
 have h1 := hs.seg
 have h2 := ht.seg
 refine Ja Tryz.func53 rfl rfl fun w => ?_; refine JA ?_; refine Jq 9 rfl ?_; refine LR rfl (J1 rfl h1 rfl) ?_; refine QL rfl (LR rfl (J1 rfl h2 rfl) (JK 3 rfl ?_)); refine cD (fun g => ?_) fun g => ?_
 refine Ko 7 rfl ?_; refine pT rfl rfl rfl fun w1 hs1 => ?_; refine ⟨?_, hs1.keep⟩; rw [decide_eq_false (show ¬ s.er = t.er from fun e => by have := (qh.1 e).1; omega)]; rfl
 ·refine Jq 6 rfl ?_; refine LR rfl (J1 rfl h1 rfl) ?_; refine JK 4 rfl ?_
  have hll : s.accts.length = t.accts.length := by omega
  refine J0 (σ := Nat) (fun i => i ≤ s.accts.length ∧ ∀ q, q < i → ∀ a b, s.accts[q]? = some a → t.accts[q]? = some b → a.er = b.er) (fun i => [(1, KL t.accts.length t.p), (2, fV 51), (15, KL s.accts.length s.p), (16, .int .i64 (s.accts.length : Int)), (17, .int .i64 (i : Int))]) (fun _ => []) (fun _ _ _ => True) (fun i => s.accts.length - i) 0 ⟨by omega, fun j hj => absurd hj (by omega)⟩ (lK rfl) (List.nil_sublist _) (fun _ _ h => h) ?_; rintro i ⟨hi1, hinv⟩; refine JN 6 rfl ?_; refine cD (fun g => ?_) fun g => ?_
  refine JN 5 rfl ?_
  obtain ⟨x, hx, hmx⟩ := Q4 (show i < s.accts.length by omega)
  obtain ⟨y, hy, hmy⟩ := Q4 (show i < t.accts.length by omega)
  refine Jq 2 rfl ?_
  refine LR rfl (Jp (j := i) rfl h1 rfl rfl rfl (by first | rfl | omega) (by omega)) ?_; refine LR rfl (Ka AcL.len oR rfl h1 hx rfl rfl) ?_; refine LN rfl fun r1 => ?_; refine QL rfl (Jk (k := 0) (n := 8) (ys := x.cells) rfl rfl rfl rfl rfl x.len rfl x.one rfl (JG 6 rfl ?_))
  refine LR rfl (Jp (j := i) rfl h2 rfl rfl rfl (by first | rfl | omega) (by omega)) ?_; refine LR rfl (Ka AcL.len oR rfl h2 hy rfl rfl) ?_; refine LN rfl fun r2 => ?_; refine Jk (k := 0) (n := 8) (ys := y.cells) rfl rfl rfl rfl rfl y.len rfl y.one rfl ?_; refine JG 5 rfl ?_; refine LR rfl (Jh (xs := x.cells) (n := 8) rfl (kn 1 rfl) rfl rfl x.len) ?_; refine LR rfl (Jh (xs := y.cells) (n := 8) rfl (kn 0 rfl) rfl rfl y.len) ?_; refine Je rfl rfl rfl (enters_of Tryz.func51 (by kernel_rfl) rfl) (Ju4 (hs.accts x hmx) (ht.accts y hmy)) oR ?_; refine JK 3 rfl ?_; refine cD (fun g => ?_) fun g => ?_
  refine Ko 11 rfl ?_; refine pT rfl rfl rfl fun w1 hs1 => ?_; refine ⟨?_, hs1.keep⟩; rw [decide_eq_false (show ¬ s.er = t.er from fun e => by have := (qh.1 e).2 i x y hx hy; simp_all)]; rfl
  refine Jq 5 rfl ?_; refine Jc (by omega) (by omega) ?_; refine Jw 2 rfl ?_; refine Jx ?_
  exact Jt (i + 1) ⟨by omega, fun q hq u v hu hv => by
   rcases Nat.lt_succ_iff_lt_or_eq.1 hq with hq | rfl
   exact hinv q hq u v hu hv
   rw [hx] at hu; rw [hy] at hv; cases hu; cases hv; simp_all⟩ (by omega) (lK rfl) (List.nil_sublist _) (fun _ _ h => h)
  ·refine Ko 11 rfl ?_; refine pT rfl rfl rfl fun w1 hs1 => ?_; refine ⟨?_, hs1.keep⟩; rw [decide_eq_true (qh.2 ⟨hll, fun q a b ha hb => hinv q (by have := (List.getElem?_eq_some_iff.1 ha).1; omega) a b ha hb⟩)]; rfl
theorem Jqf {R : Ji} {s t : StL} (hs : s.In R) (ht : t.In R) : PureR Tryz.prog 23 [s.val, t.val].toArray (.bool (decide (s.er = t.er))) R := by
 have h := Jqe hs ht
 refine Ja Tryz.func23 rfl rfl fun w => ?_; refine JA ?_; refine Jq 2 rfl ?_; refine LN rfl fun r1 => ?_; refine LN rfl fun r2 => ?_; refine Xa 15 [1, 0] rfl rfl ?_; refine Je rfl rfl rfl (enters_of Tryz.func53 (by kernel_rfl) rfl) h oR ?_; refine Jw 4 rfl ?_; refine pT rfl rfl rfl fun w1 hs1 => ?_; exact ⟨rfl, hs1.keep⟩
theorem Jf5 (f : Int) : decide (KJ f) = (decide (f ≥ 0) && decide (f ≤ 5)) := by
 rw [Bool.eq_iff_iff, Bool.and_eq_true, decide_eq_true_eq, decide_eq_true_eq, decide_eq_true_eq]; exact Iff.rfl
theorem j9 (f : Int) : Pure Tryz.prog 55 [.int .i64 f].toArray (.bool (decide (KJ f))) := by
 rw [Jf5]; refine Jm Tryz.func55 rfl rfl fun w => ?_; refine JA ?_; refine Jq 10 rfl ?_
 refine J8 5 rfl (fun gb => ?_) (fun gb => ?_) <;> (try simp only [ZZ] at gb) <;> first | (refine QL rfl ?_) | (refine LK rfl ?_)
 all_goals (
  refine LW 3 [] rfl rfl (Jw 1 rfl (ZK 2 rfl ?_)); refine pT rfl rfl rfl fun w1 hs1 => ?_; refine ⟨?_, hs1.keep⟩
  simp_all [JB]
  all_goals first | done | omega | trace_state
  skip)
theorem Jqg : WOk w40.l := w40_ok.wok
theorem Ji7 : Pure Tryz.prog 58 [].toArray (J4 Vb) := by
 rw [Jxe]; refine Jm Tryz.func58 rfl rfl fun w => ?_; refine JA ?_; refine Jq 7 rfl ?_; refine LR rfl (Js (r := [_, _, _, _]) rfl rfl) ?_; refine Jn rfl rfl rfl xN (Qy Jqg) ?_; refine Jw 4 rfl ?_; refine pT rfl rfl rfl fun w1 hs1 => ?_; exact ⟨rfl, hs1.keep⟩
theorem Jaj {n : Nat} (h : VM n) : Pure Tryz.prog 61 [uV n].toArray (J4 (Wa n)) := by
 refine Jm Tryz.func61 rfl rfl fun w => ?_; refine JA ?_; refine Jq 8 rfl ?_; refine Jn rfl rfl rfl q8 (V8 n) ?_; refine Jn rfl rfl rfl xN (Qy (Jfc h).wok) ?_; refine Jw 4 rfl ?_; refine pT rfl rfl rfl fun w1 hs1 => ?_; exact ⟨rfl, hs1.keep⟩
theorem P_Addr0 : Pure Tryz.prog 19 [.int .i64 0].toArray (J4 A0) := by
 refine Jm Tryz.func19 rfl rfl fun w => ?_; refine JA ?_; refine JN 16 rfl ?_; refine Jz rfl (fun g => ?_) (fun g => ?_)
 try exact Bool.noConfusion g
 ·try simp only [ZZ] at g
  refine Jq 4 rfl ?_; refine WH (n := 20) (b := 1) rfl rfl rfl rfl rfl rfl rfl rfl rfl (by decide) (by decide) fun r1 => ?_; refine JG 9 rfl ?_; refine Jc (by omega) (by omega) ?_; refine VQ rfl (vy (by omega) (by omega) (LR rfl (JI (j := 0) (m := 1) rfl rfl rfl rfl rfl (by decide) rfl) ?_)); refine LT 0 rfl rfl ?_; refine LR rfl (JI (j := 19) (m := 1) rfl rfl rfl rfl rfl (by decide) rfl) ?_; refine LT 0 rfl rfl ?_; refine JG 5 rfl ?_; refine LR rfl (Q0 (b := A0) (row := some (r1, 20, [])) (e := 5) rfl ⟨rfl, rfl⟩ (fun p hp => .inl (by rw [List.mem_singleton.1 hp]; exact List.mem_cons_self)) rfl rfl rfl) ?_; refine Jw 4 rfl ?_; refine pT rfl rfl rfl fun w1 hs1 => ?_; exact ⟨rfl, hs1.keep⟩
theorem Ji8 : Pure Tryz.prog 19 [.int .i64 1].toArray (J4 A1) := by
 refine Jm Tryz.func19 rfl rfl fun w => ?_; refine JA ?_; refine JN 16 rfl ?_; refine Jz rfl (fun g => ?_) (fun g => ?_)
 try exact Bool.noConfusion g
 ·try simp only [ZZ] at g
  refine Jq 4 rfl ?_; refine WH (n := 20) (b := 1) rfl rfl rfl rfl rfl rfl rfl rfl rfl (by decide) (by decide) fun r1 => ?_; refine JG 9 rfl ?_; refine Jc (by omega) (by omega) ?_; refine VQ rfl (vy (by omega) (by omega) (LR rfl (JI (j := 0) (m := 1) rfl rfl rfl rfl rfl (by decide) rfl) ?_)); refine LT 0 rfl rfl ?_; refine LR rfl (JI (j := 19) (m := 1) rfl rfl rfl rfl rfl (by decide) rfl) ?_; refine LT 0 rfl rfl ?_; refine JG 5 rfl ?_; refine LR rfl (Q0 (b := A1) (row := some (r1, 20, [])) (e := 5) rfl ⟨rfl, rfl⟩ (fun p hp => .inl (by rw [List.mem_singleton.1 hp]; exact List.mem_cons_self)) rfl rfl rfl) ?_; refine Jw 4 rfl ?_; refine pT rfl rfl rfl fun w1 hs1 => ?_; exact ⟨rfl, hs1.keep⟩
theorem Ju5 {f : Int} (h : f < 0 ∨ f > 1) : Pure Tryz.prog 19 [.int .i64 f].toArray (J4 []) := by
  refine Jm Tryz.func19 rfl rfl fun w => ?_; refine JA ?_; refine Jq 11 rfl ?_
  refine J8 6 rfl (fun gb => ?_) (fun gb => ?_) <;> (try simp only [ZZ] at gb) <;> first | (refine QL rfl ?_) | (refine LK rfl ?_)
  all_goals (
   refine LW 2 [] rfl rfl (Jw 1 rfl (Y6 1 rfl ?_)); refine Jz rfl (fun g => ?_) (fun g => ?_)
   try simp only [ZZ] at g
   refine Ko 7 rfl ?_; refine pT rfl rfl rfl fun w1 hs1 => ?_
   first | exact ⟨rfl, hs1.keep⟩ | (exfalso; omega)
   · try exact Bool.noConfusion g
     all_goals try simp only [ZZ] at g
     all_goals (
      refine Jq 4 rfl ?_
      exfalso; omega
      skip)
   skip)
theorem wJ (f : Int) : Pure Tryz.prog 19 [.int .i64 f].toArray (J4 (Qi f)) := by
 by_cases h0 : f = 0
 ·subst h0; exact P_Addr0
 ·by_cases h1 : f = 1
  ·subst h1; exact Ji8
  ·have h : f < 0 ∨ f > 1 := by omega
   have e : Qi f = [] := by unfold Qi; rw [if_pos h]
   rw [e]; exact Ju5 h
def cdC (p : Int × BS) : List Value := [.int .i64 p.1, J4 p.2]
theorem Ji9 (p : Int × BS) : (cdC p).length = 2 := rfl
def codes0 : List (Int × BS) := [(0, cOne), (1, Jzs), (3, Jnr), (5, Jwc)]
def codes1 : List (Int × BS) := [(2, Jzt)]
def Yd (f : Int) : List (Int × BS) → BS × Bool → BS × Bool
 | [], acc => acc
 | p :: l, acc => Yd f l (if f ≥ p.1 then (p.2, true) else acc)
theorem qE {f : Int} (h : KJ f) : Yd f codes0 ([], false) = KE f 0 ∧ Yd f codes1 ([], false) = KE f 1 := by
 rcases Yn h with rfl | rfl | rfl | rfl | rfl | rfl <;> exact ⟨by decide +kernel, by decide +kernel⟩
theorem wK {f : Int} {p : Int × BS} : ∀ (l : List (Int × BS)) (acc : BS × Bool), Yd f (l ++ [p]) acc = if f ≥ p.1 then (p.2, true) else Yd f l acc
 | [], acc => rfl
 | q :: l, acc => by rw [List.cons_append, Yd, Yd, wK l]
theorem Vg {f : Int} {l : List (Int × BS)} {i : Nat} {p : Int × BS} (h : l[i]? = some p) : Yd f (l.take (i + 1)) ([], false) = if f ≥ p.1 then (p.2, true) else Yd f (l.take i) ([], false) := by
 obtain ⟨h1, h2⟩ := List.getElem?_eq_some_iff.1 h
 rw [List.take_succ_eq_append_getElem h1, h2, wK]
theorem Jja : PureE (α := Nat × Nat) Tryz.prog 111 [].toArray (fun p => .agg #[.slice (some ⟨p.1, 0, none⟩) 4 4, .slice (some ⟨p.2, 0, none⟩) 1 1]) (fun p => [(p.2, .cells (codes1.flatMap cdC).toArray 160 (0, 0)), (p.1, .cells (codes0.flatMap cdC).toArray 160 (0, 0))]) := by
 refine Ke Tryz.func111 rfl rfl fun w => ?_; refine JA ?_; refine Jq 2 rfl ?_; refine LN rfl fun r1 => ?_; refine JG 4 rfl ?_; refine LR rfl (Js (r := [_, _]) rfl rfl) ?_; refine LR rfl (Js (r := [_, _]) rfl rfl) ?_; refine LR rfl (Js (r := [_, _]) rfl rfl) ?_; refine LR rfl (Js (r := [_, _]) rfl rfl) ?_; refine JM (vs := [_, _, _, _]) (zs := [_, _, _, _, _, _, _, _]) (r := [_, _, _, _, _, _, _, _]) rfl rfl rfl rfl rfl rfl rfl rfl rfl (by rw [Kt]; exact rfl) rfl fun r2 => ?_; refine LR rfl (Js (r := [_, _]) rfl rfl) ?_; refine JM (vs := [_]) (zs := [_, _]) (r := [_, _]) rfl rfl rfl rfl rfl rfl rfl rfl rfl (by rw [Kt]; exact rfl) rfl fun r3 => ?_; refine LR rfl (Js (r := [_, _]) rfl rfl) ?_
 refine LT 2 rfl rfl ?_; refine Jw 3 rfl ?_; refine Jg rfl rfl (.cons (Jy (vs := [_, _]) rfl (kn 2 rfl) rfl rfl) .nil) (fun w1 hs1 => ?_); exact ⟨(r2, r3), rfl, hs1.weakL (.cons_cons _ (.cons_cons _ (List.nil_sublist _)))⟩
theorem J0h {f : Int} (hf : KJ f) : Pure Tryz.prog 56 [.int .i64 f, .int .i64 0].toArray (.tuple #[J4 (KE f 0).1, .bool (KE f 0).2]) := by
 refine Jm Tryz.func56 rfl rfl fun w => ?_; refine JA ?_; refine Jq 15 rfl ?_; refine JQ rfl rfl rfl (enters_of Tryz.func111 (by kernel_rfl) rfl) Jja fun pp => ?_
 obtain ⟨p1, p2⟩ := pp
 change HL _ _ _ [(p2, _), (p1, _)] _ _ _ _; refine QL rfl (LR rfl (vx (j := 0) rfl rfl rfl rfl rfl rfl (by decide) rfl) (LR rfl (JU rfl rfl) ?_)); refine JK 4 rfl ?_; refine J0 (σ := Nat) (fun i => i ≤ 4) (fun i => [(0, .int .i64 f), (6, J4 (Yd f (codes0.take i) ([], false)).1), (7, .bool (Yd f (codes0.take i) ([], false)).2), (12, .slice (some ⟨p1, 0, none⟩) 4 4), (13, .int .i64 4), (14, .int .i64 (i : Int))]) (fun _ => [(p2, .cells (codes1.flatMap cdC).toArray 160 (0, 0)), (p1, .cells (codes0.flatMap cdC).toArray 160 (0, 0))]) (fun _ _ _ => True) (fun i => 4 - i) 0 (Nat.zero_le _) (lK rfl) (List.Sublist.refl _) (fun _ _ h => h) ?_; intro i hi1; refine JN 6 rfl ?_; refine cD (fun g => ?_) fun g => ?_
 refine JN 5 rfl ?_
 obtain ⟨p, hp, -⟩ := Q4 (l := codes0) (show i < 4 by omega)
 refine Jq 1 rfl ?_; refine LR rfl (JI (j := i) (m := 2) (off' := i * 2) rfl rfl rfl rfl rfl (by omega) (by omega)) ?_; refine LR rfl (Jo (n := 2) (vs := cdC p) rfl (kn 1 rfl) rfl rfl (VE Ji9 hp) rfl) ?_; refine LN rfl fun r1 => ?_
 refine LT 0 rfl rfl ?_; refine Goc 10 [0] rfl rfl ?_; refine cD (fun g => ?_) fun g => ?_
 refine Xs 10 [0] rfl rfl ?_; refine Jc (by omega) (by omega) ?_; refine Jw 2 rfl ?_; refine Jx ?_; exact Jt (i + 1) (by omega) (by omega) (.cons rfl (.cons (by rw [Vg hp, if_pos (by omega)]; rfl) (.cons (by rw [Vg hp, if_pos (by omega)]; rfl) (lK rfl)))) (List.sublist_cons_self _ _) (fun _ _ h => h)
 refine Jq 5 rfl ?_; refine Jc (by omega) (by omega) ?_; refine Jw 2 rfl ?_; refine Jx ?_; exact Jt (i + 1) (by omega) (by omega) (.cons rfl (.cons (by rw [Vg hp, if_neg (by omega)]; rfl) (.cons (by rw [Vg hp, if_neg (by omega)]; rfl) (lK rfl)))) (List.sublist_cons_self _ _) (fun _ _ h => h)
 ·refine Ko 14 rfl ?_; refine Jg rfl rfl (.cons (Jl rfl) (.cons (Jl rfl) .nil)) (fun w1 hs1 => ?_); refine ⟨?_, hs1.keep⟩
  obtain rfl : i = 4 := by omega
  rw [← (qE hf).1]
  rfl
theorem J0i {f : Int} (hf : KJ f) : Pure Tryz.prog 56 [.int .i64 f, .int .i64 1].toArray (.tuple #[J4 (KE f 1).1, .bool (KE f 1).2]) := by
 refine Jm Tryz.func56 rfl rfl fun w => ?_; refine JA ?_; refine Jq 15 rfl ?_; refine JQ rfl rfl rfl (enters_of Tryz.func111 (by kernel_rfl) rfl) Jja fun pp => ?_
 obtain ⟨p1, p2⟩ := pp
 change HL _ _ _ [(p2, _), (p1, _)] _ _ _ _; refine QL rfl (LR rfl (vx (j := 1) rfl rfl rfl rfl rfl rfl (by decide) rfl) (LR rfl (JU rfl rfl) ?_)); refine JK 4 rfl ?_; refine J0 (σ := Nat) (fun i => i ≤ 1) (fun i => [(0, .int .i64 f), (6, J4 (Yd f (codes1.take i) ([], false)).1), (7, .bool (Yd f (codes1.take i) ([], false)).2), (12, .slice (some ⟨p2, 0, none⟩) 1 1), (13, .int .i64 1), (14, .int .i64 (i : Int))]) (fun _ => [(p2, .cells (codes1.flatMap cdC).toArray 160 (0, 0)), (p1, .cells (codes0.flatMap cdC).toArray 160 (0, 0))]) (fun _ _ _ => True) (fun i => 1 - i) 0 (Nat.zero_le _) (lK rfl) (List.Sublist.refl _) (fun _ _ h => h) ?_; intro i hi1; refine JN 6 rfl ?_; refine cD (fun g => ?_) fun g => ?_
 refine JN 5 rfl ?_
 obtain ⟨p, hp, -⟩ := Q4 (l := codes1) (show i < 1 by omega)
 refine Jq 1 rfl ?_; refine LR rfl (JI (j := i) (m := 2) (off' := i * 2) rfl rfl rfl rfl rfl (by omega) (by omega)) ?_; refine LR rfl (Jo (n := 2) (vs := cdC p) rfl (kn 0 rfl) rfl rfl (VE Ji9 hp) rfl) ?_; refine LN rfl fun r1 => ?_
 refine LT 0 rfl rfl ?_; refine Goc 10 [0] rfl rfl ?_; refine cD (fun g => ?_) fun g => ?_
 refine Xs 10 [0] rfl rfl ?_; refine Jc (by omega) (by omega) ?_; refine Jw 2 rfl ?_; refine Jx ?_; exact Jt (i + 1) (by omega) (by omega) (.cons rfl (.cons (by rw [Vg hp, if_pos (by omega)]; rfl) (.cons (by rw [Vg hp, if_pos (by omega)]; rfl) (lK rfl)))) (List.sublist_cons_self _ _) (fun _ _ h => h)
 refine Jq 5 rfl ?_; refine Jc (by omega) (by omega) ?_; refine Jw 2 rfl ?_; refine Jx ?_; exact Jt (i + 1) (by omega) (by omega) (.cons rfl (.cons (by rw [Vg hp, if_neg (by omega)]; rfl) (.cons (by rw [Vg hp, if_neg (by omega)]; rfl) (lK rfl)))) (List.sublist_cons_self _ _) (fun _ _ h => h)
 ·refine Ko 14 rfl ?_; refine Jg rfl rfl (.cons (Jl rfl) (.cons (Jl rfl) .nil)) (fun w1 hs1 => ?_); refine ⟨?_, hs1.keep⟩
  obtain rfl : i = 1 := by omega
  rw [← (qE hf).2]
  rfl
def Ql (r o : Nat) : Value := .pointer (some ⟨r, o, none⟩)
theorem qj (r : Nat) : Pure Tryz.prog 179 [Ql r 0].toArray (Ql r 14) := by
 refine Jm Tryz.func179 rfl rfl fun w => ?_; refine JA ?_; refine Ko 14 rfl ?_; refine pT rfl rfl rfl fun w1 hs1 => ?_; exact ⟨rfl, hs1.keep⟩
theorem Jqh (r : Nat) : Pure Tryz.prog 181 [Ql r 0].toArray (Ql r 0) := by
 refine Jm Tryz.func181 rfl rfl fun w => ?_; refine JA ?_; refine Ko 14 rfl ?_; refine pT rfl rfl rfl fun w1 hs1 => ?_; exact ⟨rfl, hs1.keep⟩
theorem Jqi (r : Nat) : Pure Tryz.prog 182 [Ql r 0].toArray (Ql r 1) := by
 refine Jm Tryz.func182 rfl rfl fun w => ?_; refine JA ?_; refine Ko 14 rfl ?_; refine pT rfl rfl rfl fun w1 hs1 => ?_; exact ⟨rfl, hs1.keep⟩
theorem Jqj (r : Nat) : Pure Tryz.prog 184 [Ql r 0].toArray (Ql r 2) := by
 refine Jm Tryz.func184 rfl rfl fun w => ?_; refine JA ?_; refine Ko 14 rfl ?_; refine pT rfl rfl rfl fun w1 hs1 => ?_; exact ⟨rfl, hs1.keep⟩
theorem Jqk (r : Nat) : Pure Tryz.prog 185 [Ql r 0].toArray (Ql r 10) := by
 refine Jm Tryz.func185 rfl rfl fun w => ?_; refine JA ?_; refine Ko 14 rfl ?_; refine pT rfl rfl rfl fun w1 hs1 => ?_; exact ⟨rfl, hs1.keep⟩
theorem Jql (r : Nat) : Pure Tryz.prog 186 [Ql r 0].toArray (Ql r 15) := by
 refine Jm Tryz.func186 rfl rfl fun w => ?_; refine JA ?_; refine Ko 14 rfl ?_; refine pT rfl rfl rfl fun w1 hs1 => ?_; exact ⟨rfl, hs1.keep⟩
theorem Jqm (r : Nat) : Pure Tryz.prog 187 [Ql r 0].toArray (Ql r 6) := by
 refine Jm Tryz.func187 rfl rfl fun w => ?_; refine JA ?_; refine Ko 14 rfl ?_; refine pT rfl rfl rfl fun w1 hs1 => ?_; exact ⟨rfl, hs1.keep⟩
theorem Jak (r : Nat) : Pure Tryz.prog 188 [Ql r 0].toArray (Ql r 16) := by
 refine Jm Tryz.func188 rfl rfl fun w => ?_; refine JA ?_; refine Ko 14 rfl ?_; refine pT rfl rfl rfl fun w1 hs1 => ?_; exact ⟨rfl, hs1.keep⟩
theorem Jjb {R : Ji} {b1 b2 e1 e2 : Nat} {gl gh : FuncId} {ol oh x y : Nat} (egl : Enters Tryz.prog gl) (egh : Enters Tryz.prog gh) (hgl : ∀ ρ, Pure Tryz.prog gl [Ql ρ 0].toArray (Ql ρ ol)) (hgh : ∀ ρ, Pure Tryz.prog gh [Ql ρ 0].toArray (Ql ρ oh))
  (h1 : (b1, Obj.cells #[fV gl] e1 (0, 0)) ∈ R) (h2 : (b2, Obj.cells #[fV gh] e2 (0, 0)) ∈ R) (r : Rec) (hx : WP r.cells ol = some (uV x)) (hy : WP r.cells oh = some (uV y)) : PureR Tryz.prog 239 [r.val, Ql b1 0, Ql b2 0].toArray (wV [x, y, 0, 0]) R := by
 refine Ja Tryz.func239 rfl rfl fun w => ?_; refine JA ?_; refine Jq 2 rfl ?_; refine Kh (cs := r.cells.toArray) rfl rfl rfl rfl fun rb => ?_; refine LN rfl fun r1 => ?_; refine JG 4 rfl ?_; refine LR rfl (Jd rfl (Or.inr h1) rfl rfl) ?_; refine Jn rfl rfl rfl egl (hgl rb) ?_; refine VQ rfl (LR rfl (Jd rfl (kn 1 rfl) rfl hx) (Jn rfl rfl rfl q8 (V8 x) ?_)); refine LN rfl fun r2 => ?_
 refine LT 0 rfl rfl ?_; refine JG 5 rfl ?_; refine LR rfl (Jd rfl (Or.inr h2) rfl rfl) ?_; refine JK 3 rfl ?_; refine Jz rfl (fun g => ?_) (fun g => ?_)
 try simp only [ZZ] at g
 refine Jq 1 rfl ?_; refine LR rfl (Jd rfl (Or.inr h2) rfl rfl) ?_; refine Jn rfl rfl rfl egh (hgh rb) ?_; refine VQ rfl (LR rfl (Jd rfl (kn 2 rfl) rfl hy) ?_)
 refine LR rfl (JH (j := 1) rfl rfl rfl rfl rfl (by first | decide | omega) (by first | (simp only [Nat.zero_add, Nat.reduceAdd, Nat.reduceMul, Nat.zero_mul, Nat.mul_one, Nat.add_zero]; exact rfl) | exact rfl)) ?_
 refine LT 0 rfl rfl ?_; refine JG 4 rfl ?_; refine LR rfl (Jo (vs := [_, _, _, _]) rfl (kn 0 rfl) rfl rfl rfl rfl) ?_
 refine LT 1 rfl rfl ?_; refine Jw 3 rfl ?_; refine Jg rfl rfl (.cons (Jy (vs := [_, _, _, _]) rfl (kn 1 rfl) rfl rfl) .nil) (fun w1 hs1 => ?_); exact ⟨rfl, hs1.keep⟩
 ·try exact Bool.noConfusion g
theorem Jjc {R : Ji} {b1 b2 e1 e2 : Nat} {gl gh : FuncId} {ol oh x y : Nat} (egl : Enters Tryz.prog gl) (egh : Enters Tryz.prog gh) (hgl : ∀ ρ, Pure Tryz.prog gl [Ql ρ 0].toArray (Ql ρ ol)) (hgh : ∀ ρ, Pure Tryz.prog gh [Ql ρ 0].toArray (Ql ρ oh))
  (h1 : (b1, Obj.cells #[fV gl] e1 (0, 0)) ∈ R) (h2 : (b2, Obj.cells #[.nilFunc] e2 (0, 0)) ∈ R) (r : Rec) (hx : WP r.cells ol = some (uV x)) (hy : WP r.cells oh = some (uV y)) : PureR Tryz.prog 239 [r.val, Ql b1 0, Ql b2 0].toArray (wV [x, 0, 0, 0]) R := by
 refine Ja Tryz.func239 rfl rfl fun w => ?_; refine JA ?_; refine Jq 2 rfl ?_; refine Kh (cs := r.cells.toArray) rfl rfl rfl rfl fun rb => ?_; refine LN rfl fun r1 => ?_; refine JG 4 rfl ?_; refine LR rfl (Jd rfl (Or.inr h1) rfl rfl) ?_; refine Jn rfl rfl rfl egl (hgl rb) ?_; refine VQ rfl (LR rfl (Jd rfl (kn 1 rfl) rfl hx) (Jn rfl rfl rfl q8 (V8 x) ?_)); refine LN rfl fun r2 => ?_
 refine LT 0 rfl rfl ?_; refine JG 5 rfl ?_; refine LR rfl (Jd rfl (Or.inr h2) rfl rfl) ?_; refine JK 3 rfl ?_; refine Jz rfl (fun g => ?_) (fun g => ?_)
 try exact Bool.noConfusion g
 ·try simp only [ZZ] at g
  refine Jq 4 rfl ?_; refine LR rfl (Jo (vs := [_, _, _, _]) rfl (kn 0 rfl) rfl rfl rfl rfl) ?_
  refine LT 1 rfl rfl ?_; refine Jw 3 rfl ?_; refine Jg rfl rfl (.cons (Jy (vs := [_, _, _, _]) rfl (kn 1 rfl) rfl rfl) .nil) (fun w1 hs1 => ?_); exact ⟨rfl, hs1.keep⟩
theorem Jal {R : Ji} {b1 e1 : Nat} {g : FuncId} {o : Nat} {x : W4} (eg : Enters Tryz.prog g) (hg : ∀ ρ, Pure Tryz.prog g [Ql ρ 0].toArray (Ql ρ o)) (h1 : (b1, Obj.cells #[fV g] e1 (0, 0)) ∈ R) (r : Rec) (hx : (r.cells.drop o).take 4 = x.l.map uV) : PureR Tryz.prog 241 [r.val, Ql b1 0].toArray (wV x.l) R := by
 refine Ja Tryz.func241 rfl rfl fun w => ?_; refine JA ?_; refine Jq 2 rfl ?_; refine Kh (cs := r.cells.toArray) rfl rfl rfl rfl fun rb => ?_; refine LN rfl fun r1 => ?_; refine JG 4 rfl ?_; refine LR rfl (Jd rfl (Or.inr h1) rfl rfl) ?_; refine Jn rfl rfl rfl eg (hg rb) ?_; refine VQ rfl (LR rfl (Jo (n := 4) (vs := x.l.map uV) rfl (kn 1 rfl) rfl rfl hx rfl) ?_)
 refine LT 0 rfl rfl ?_; refine Jw 3 rfl ?_; refine Jg rfl rfl (.cons (Jy (vs := [_, _, _, _]) rfl (kn 0 rfl) rfl rfl) .nil) (fun w1 hs1 => ?_); exact ⟨rfl, hs1.keep⟩
theorem Jjd {R : Ji} {ρ b1 b2 e1 e2 : Nat} {gl gh : FuncId} {ol oh : Nat} (egl : Enters Tryz.prog gl) (egh : Enters Tryz.prog gh) (hgl : ∀ ρ, Pure Tryz.prog gl [Ql ρ 0].toArray (Ql ρ ol)) (hgh : ∀ ρ, Pure Tryz.prog gh [Ql ρ 0].toArray (Ql ρ oh))
  (h1 : (b1, Obj.cells #[fV gl] e1 (0, 0)) ∈ R) (h2 : (b2, Obj.cells #[fV gh] e2 (0, 0)) ∈ R) (r : Rec) (w4 : W4) (ho : ol < 17) (ho2 : oh < 17) : PureT (α := Unit) Tryz.prog 240 [Ql ρ 0, wV w4.l, Ql b1 0, Ql b2 0].toArray (fun _ => .tuple #[]) [(ρ, .cells r.cells.toArray 29 (0, 0))] (fun _ => [(ρ, .cells ((r.cells.set ol (uV w4.a)).set oh (uV w4.b)).toArray 29 (0, 0))]) R := by
 refine Ju Tryz.func240 rfl rfl fun w => ?_; refine JA ?_; refine Jq 2 rfl ?_; refine LN rfl fun r1 => ?_; refine JK 3 rfl ?_; refine JD 5 (by kernel_rfl) (by kernel_rfl) ?_; refine Jb rfl rfl rfl (Jd rfl (Or.inr h1) rfl rfl) ?_; refine Jb rfl rfl rfl (Jf rfl) ?_; refine Kl rfl rfl rfl egl (hgl ρ) ?_
 refine Jb rfl rfl rfl (JH (j := 0) rfl rfl rfl rfl rfl (by first | decide | omega) (by first | (simp only [Nat.zero_add, Nat.reduceAdd, Nat.reduceMul, Nat.zero_mul, Nat.mul_one, Nat.add_zero]; exact rfl) | exact rfl)) ?_; refine Jb rfl rfl rfl (Jd rfl (kn 0 rfl) rfl rfl) ?_; refine JS ?_; refine VQ rfl ?_; refine KP (k := 1) (cs' := (r.cells.set ol (uV w4.a)).toArray) rfl rfl rfl rfl rfl rfl (by rw [List.getElem?_toArray, List.getElem?_eq_getElem (show ol < r.cells.length from ho)]; rfl) rfl (by simp) rfl ?_; refine JG 4 rfl ?_; refine LR rfl (Jd rfl (Or.inr h2) rfl rfl) ?_; refine JK 3 rfl ?_; refine Jz rfl (fun g => ?_) (fun g => ?_)
 try simp only [ZZ] at g
 refine JD 5 (by kernel_rfl) (by kernel_rfl) ?_; refine Jb rfl rfl rfl (Jd rfl (Or.inr h2) rfl rfl) ?_; refine Jb rfl rfl rfl (Jf rfl) ?_; refine Kl rfl rfl rfl egh (hgh ρ) ?_
 refine Jb rfl rfl rfl (JH (j := 1) rfl rfl rfl rfl rfl (by first | decide | omega) (by first | (simp only [Nat.zero_add, Nat.reduceAdd, Nat.reduceMul, Nat.zero_mul, Nat.mul_one, Nat.add_zero]; exact rfl) | exact rfl)) ?_; refine Jb rfl rfl rfl (Jd rfl (kn 0 rfl) rfl rfl) ?_; refine JS ?_; refine VQ rfl ?_; refine KP (k := 1) (cs' := ((r.cells.set ol (uV w4.a)).set oh (uV w4.b)).toArray) rfl rfl rfl rfl rfl rfl (by rw [List.getElem?_toArray, List.getElem?_eq_getElem (show oh < (r.cells.set ol (uV w4.a)).length from by rw [List.length_set]; exact ho2)]; rfl) rfl (by simp) rfl ?_; refine Jw 1 rfl ?_; refine Kq rfl rfl .nil (fun w1 hs1 => ?_); exact ⟨(), rfl, hs1.weakL (List.sublist_cons_self _ _)⟩
 ·try exact Bool.noConfusion g
theorem Jje {R : Ji} {ρ b1 b2 e1 e2 : Nat} {gl gh : FuncId} {ol oh : Nat} (egl : Enters Tryz.prog gl) (egh : Enters Tryz.prog gh) (hgl : ∀ ρ, Pure Tryz.prog gl [Ql ρ 0].toArray (Ql ρ ol)) (hgh : ∀ ρ, Pure Tryz.prog gh [Ql ρ 0].toArray (Ql ρ oh))
  (h1 : (b1, Obj.cells #[fV gl] e1 (0, 0)) ∈ R) (h2 : (b2, Obj.cells #[.nilFunc] e2 (0, 0)) ∈ R) (r : Rec) (w4 : W4) (ho : ol < 17) (ho2 : oh < 17) : PureT (α := Unit) Tryz.prog 240 [Ql ρ 0, wV w4.l, Ql b1 0, Ql b2 0].toArray (fun _ => .tuple #[]) [(ρ, .cells r.cells.toArray 29 (0, 0))] (fun _ => [(ρ, .cells (r.cells.set ol (uV w4.a)).toArray 29 (0, 0))]) R := by
 refine Ju Tryz.func240 rfl rfl fun w => ?_; refine JA ?_; refine Jq 2 rfl ?_; refine LN rfl fun r1 => ?_; refine JK 3 rfl ?_; refine JD 5 (by kernel_rfl) (by kernel_rfl) ?_; refine Jb rfl rfl rfl (Jd rfl (Or.inr h1) rfl rfl) ?_; refine Jb rfl rfl rfl (Jf rfl) ?_; refine Kl rfl rfl rfl egl (hgl ρ) ?_
 refine Jb rfl rfl rfl (JH (j := 0) rfl rfl rfl rfl rfl (by first | decide | omega) (by first | (simp only [Nat.zero_add, Nat.reduceAdd, Nat.reduceMul, Nat.zero_mul, Nat.mul_one, Nat.add_zero]; exact rfl) | exact rfl)) ?_; refine Jb rfl rfl rfl (Jd rfl (kn 0 rfl) rfl rfl) ?_; refine JS ?_; refine VQ rfl ?_; refine KP (k := 1) (cs' := (r.cells.set ol (uV w4.a)).toArray) rfl rfl rfl rfl rfl rfl (by rw [List.getElem?_toArray, List.getElem?_eq_getElem (show ol < r.cells.length from ho)]; rfl) rfl (by simp) rfl ?_; refine JG 4 rfl ?_; refine LR rfl (Jd rfl (Or.inr h2) rfl rfl) ?_; refine JK 3 rfl ?_; refine Jz rfl (fun g => ?_) (fun g => ?_)
 try exact Bool.noConfusion g
 ·try simp only [ZZ] at g
  refine Ko 1 rfl ?_; refine Kq rfl rfl .nil (fun w1 hs1 => ?_); exact ⟨(), rfl, hs1.weakL (List.sublist_cons_self _ _)⟩
theorem Jam {R : Ji} {ρ b1 e1 : Nat} {g : FuncId} {o : Nat} {cs : List Value} (eg : Enters Tryz.prog g) (hg : ∀ ρ, Pure Tryz.prog g [Ql ρ 0].toArray (Ql ρ o)) (h1 : (b1, Obj.cells #[fV g] e1 (0, 0)) ∈ R) (r : Rec) (w4 : W4) (ho : o + 4 ≤ 17) (hcs : r.cells.take o ++ w4.l.map uV ++ r.cells.drop (o + 4) = cs) : PureT (α := Unit) Tryz.prog 242 [Ql ρ 0, wV w4.l, Ql b1 0].toArray (fun _ => .tuple #[]) [(ρ, .cells r.cells.toArray 29 (0, 0))] (fun _ => [(ρ, .cells cs.toArray 29 (0, 0))]) R := by
 refine Ju Tryz.func242 rfl rfl fun w => ?_; refine JA ?_; refine Jq 2 rfl ?_; refine LN rfl fun r1 => ?_; refine JK 2 rfl ?_; refine JD 4 (by kernel_rfl) (by kernel_rfl) ?_; refine Jb rfl rfl rfl (Jd rfl (Or.inr h1) rfl rfl) ?_; refine Jb rfl rfl rfl (Jf rfl) ?_; refine Kl rfl rfl rfl eg (hg ρ) ?_; refine Jb rfl rfl rfl (Jo (vs := [_, _, _, _]) rfl (kn 0 rfl) rfl rfl rfl rfl) ?_; refine JS ?_; refine VQ rfl (Q9 (k := 1) (n := 4) (vs := (w4.l.map uV).toArray) (cs' := cs.toArray) rfl rfl rfl rfl rfl rfl rfl ho (by rw [← hcs]) rfl (Jw 1 rfl ?_)); refine Kq rfl rfl .nil (fun w1 hs1 => ?_); exact ⟨(), rfl, hs1.weakL (List.sublist_cons_self _ _)⟩
def frN : Nat → Int
 | 0 => 0
 | 1 => 0
 | 2 => 0
 | 3 => 0
 | 4 => 3
 | 5 => 3
 | _ => 5
def toN : Nat → Int
 | 0 => 5
 | 1 => 5
 | 2 => 2
 | 3 => 2
 | 4 => 5
 | 5 => 5
 | _ => 5
def Jqn : Nat → FuncId
 | 0 => 239
 | 1 => 241
 | 2 => 241
 | 3 => 239
 | 4 => 239
 | 5 => 241
 | _ => 239
def Jqo : Nat → FuncId
 | 0 => 240
 | 1 => 242
 | 2 => 242
 | 3 => 240
 | 4 => 240
 | 5 => 242
 | _ => 240
def Jjf (p : Nat → Nat) : Nat → List Value
 | 0 => [Ql (p 1) 0, Ql (p 2) 0]
 | 1 => [Ql (p 3) 0]
 | 2 => [Ql (p 4) 0]
 | 3 => [Ql (p 5) 0, Ql (p 6) 0]
 | 4 => [Ql (p 7) 0, Ql (p 8) 0]
 | 5 => [Ql (p 9) 0]
 | _ => [Ql (p 10) 0, Ql (p 11) 0]
def ZH (p : Nat → Nat) : Nat → Ji
 | 0 => [(p 2, .cells #[fV 182] 214 (0, 0)), (p 1, .cells #[fV 181] 214 (0, 0))]
 | 1 => [(p 3, .cells #[fV 184] 218 (0, 0))]
 | 2 => [(p 4, .cells #[fV 185] 218 (0, 0))]
 | 3 => [(p 6, .cells #[.nilFunc] 214 (0, 0)), (p 5, .cells #[fV 179] 214 (0, 0))]
 | 4 => [(p 8, .cells #[fV 186] 214 (0, 0)), (p 7, .cells #[fV 179] 214 (0, 0))]
 | 5 => [(p 9, .cells #[fV 187] 218 (0, 0))]
 | _ => [(p 11, .cells #[.nilFunc] 214 (0, 0)), (p 10, .cells #[fV 188] 214 (0, 0))]
def wM (p : Nat → Nat) (i : Nat) : List Value := [uV (VG i), .int .i64 (frN i), .int .i64 (toN i), .func (.func (Jqn i)) #[] (Jjf p i).toArray, .func (.func (Jqo i)) #[] (Jjf p i).toArray]
theorem Jqp (p : Nat → Nat) (i : Nat) : (wM p i).length = 5 := rfl
theorem Jjg {i : Nat} (h : i < 7) : tab[i]? = some i := by
 have : i = 0 ∨ i = 1 ∨ i = 2 ∨ i = 3 ∨ i = 4 ∨ i = 5 ∨ i = 6 := by omega
 rcases this with rfl | rfl | rfl | rfl | rfl | rfl | rfl <;> rfl
theorem lt7 {i : Nat} (h : i < 7) : i = 0 ∨ i = 1 ∨ i = 2 ∨ i = 3 ∨ i = 4 ∨ i = 5 ∨ i = 6 := by omega
theorem Jqq {f : Int} (hf : KJ f) {i : Nat} (hi : i < 7) : YB f i = (decide (f ≥ frN i) && decide (f ≤ toN i)) := by
 rcases Yn hf with rfl | rfl | rfl | rfl | rfl | rfl <;> rcases lt7 hi with rfl | rfl | rfl | rfl | rfl | rfl | rfl <;> rfl
theorem YU {i : Nat} (h : i < 7) : Enters Tryz.prog (Jqn i) := by
 rcases lt7 h with rfl | rfl | rfl | rfl | rfl | rfl | rfl
 ·exact Jh9
 ·exact Joo
 ·exact Joo
 ·exact Jh9
 ·exact Jh9
 ·exact Joo
 ·exact Jh9
theorem qF {i : Nat} (h : i < 7) : Enters Tryz.prog (Jqo i) := by
 rcases lt7 h with rfl | rfl | rfl | rfl | rfl | rfl | rfl
 ·exact Jia
 ·exact Jop
 ·exact Jop
 ·exact Jia
 ·exact Jia
 ·exact Jop
 ·exact Jia
theorem Jan {R : Ji} {p : Nat → Nat} {i : Nat} (hi : i < 7) (hR : ∀ q ∈ ZH p i, q ∈ R) (r : Rec) : PureR Tryz.prog (Jqn i) (r.val :: Jjf p i).toArray (wV (XD r i).l) R := by
 rcases lt7 hi with rfl | rfl | rfl | rfl | rfl | rfl | rfl
 ·exact Jjb (enters_of Tryz.func181 (by kernel_rfl) rfl) (enters_of Tryz.func182 (by kernel_rfl) rfl) Jqh Jqi (hR _ (List.mem_cons_of_mem _ List.mem_cons_self)) (hR _ List.mem_cons_self) r rfl rfl
 ·exact Jal (enters_of Tryz.func184 (by kernel_rfl) rfl) Jqj (hR _ List.mem_cons_self) r rfl
 ·exact Jal (enters_of Tryz.func185 (by kernel_rfl) rfl) Jqk (hR _ List.mem_cons_self) r rfl
 ·exact Jjc zg zg qj qj (hR _ (List.mem_cons_of_mem _ List.mem_cons_self)) (hR _ List.mem_cons_self) r rfl rfl
 ·exact Jjb zg (enters_of Tryz.func186 (by kernel_rfl) rfl) qj Jql (hR _ (List.mem_cons_of_mem _ List.mem_cons_self)) (hR _ List.mem_cons_self) r rfl rfl
 ·exact Jal (enters_of Tryz.func187 (by kernel_rfl) rfl) Jqm (hR _ List.mem_cons_self) r rfl
 ·exact Jjc Jh6 Jh6 Jak Jak (hR _ (List.mem_cons_of_mem _ List.mem_cons_self)) (hR _ List.mem_cons_self) r rfl rfl
theorem Jjh {R : Ji} {p : Nat → Nat} {i ρ : Nat} (hi : i < 7) (hR : ∀ q ∈ ZH p i, q ∈ R) (r : Rec) (w4 : W4) : PureT (α := Unit) Tryz.prog (Jqo i) (Ql ρ 0 :: wV w4.l :: Jjf p i).toArray (fun _ => .tuple #[]) [(ρ, .cells r.cells.toArray 29 (0, 0))] (fun _ => [(ρ, .cells (Zx r w4 i).cells.toArray 29 (0, 0))]) R := by
 rcases lt7 hi with rfl | rfl | rfl | rfl | rfl | rfl | rfl
 ·exact Jjd (enters_of Tryz.func181 (by kernel_rfl) rfl) (enters_of Tryz.func182 (by kernel_rfl) rfl) Jqh Jqi (hR _ (List.mem_cons_of_mem _ List.mem_cons_self)) (hR _ List.mem_cons_self) r w4 (by decide) (by decide)
 ·exact Jam (enters_of Tryz.func184 (by kernel_rfl) rfl) Jqj (hR _ List.mem_cons_self) r w4 (by decide) rfl
 ·exact Jam (enters_of Tryz.func185 (by kernel_rfl) rfl) Jqk (hR _ List.mem_cons_self) r w4 (by decide) rfl
 ·exact Jje zg zg qj qj (hR _ (List.mem_cons_of_mem _ List.mem_cons_self)) (hR _ List.mem_cons_self) r w4 (by decide) (by decide)
 ·exact Jjd zg (enters_of Tryz.func186 (by kernel_rfl) rfl) qj Jql (hR _ (List.mem_cons_of_mem _ List.mem_cons_self)) (hR _ List.mem_cons_self) r w4 (by decide) (by decide)
 ·exact Jam (enters_of Tryz.func187 (by kernel_rfl) rfl) Jqm (hR _ List.mem_cons_self) r w4 (by decide) rfl
 ·exact Jje Jh6 Jh6 Jak Jak (hR _ (List.mem_cons_of_mem _ List.mem_cons_self)) (hR _ List.mem_cons_self) r w4 (by decide) (by decide)
theorem zw (k : Nat) (a b : Int) (gl gh : FuncId) : PureE (α := Nat × Nat) Tryz.prog 180 [uV k, .int .i64 a, .int .i64 b, fV gl, fV gh].toArray (fun p => .agg #[uV k, .int .i64 a, .int .i64 b, .func (.func 239) #[] #[Ql p.1 0, Ql p.2 0], .func (.func 240) #[] #[Ql p.1 0, Ql p.2 0]]) (fun p => [(p.2, .cells #[fV gh] 214 (0, 0)), (p.1, .cells #[fV gl] 214 (0, 0))]) := by
 refine Ke Tryz.func180 rfl rfl fun w => ?_; refine JA ?_; refine Jq 2 rfl ?_; refine LN rfl fun r1 => ?_; refine LN rfl fun r2 => ?_; refine LN rfl fun r3 => ?_; refine JG 4 rfl ?_; refine LR rfl (JC rfl rfl) ?_; refine JG 5 rfl ?_; refine LR rfl (JC rfl rfl) ?_; refine JG 10 rfl ?_; refine LR rfl (Js (r := [_, _, _, _, _]) rfl rfl) ?_
 refine LT 0 rfl rfl ?_; refine Jw 3 rfl ?_; refine Jg rfl rfl (.cons (Jy (vs := [_, _, _, _, _]) rfl (kn 0 rfl) rfl rfl) .nil) (fun w1 hs1 => ?_); exact ⟨(r1, r2), rfl, hs1.weakL (List.sublist_cons_self _ _)⟩
theorem zx (k : Nat) (a b : Int) (gl gh : FuncId) : PureE (α := Nat × Nat) Tryz.prog 180 [uV k, .int .i64 a, .int .i64 b, fV gl, .nilFunc].toArray (fun p => .agg #[uV k, .int .i64 a, .int .i64 b, .func (.func 239) #[] #[Ql p.1 0, Ql p.2 0], .func (.func 240) #[] #[Ql p.1 0, Ql p.2 0]]) (fun p => [(p.2, .cells #[.nilFunc] 214 (0, 0)), (p.1, .cells #[fV gl] 214 (0, 0))]) := by
 refine Ke Tryz.func180 rfl rfl fun w => ?_; refine JA ?_; refine Jq 2 rfl ?_; refine LN rfl fun r1 => ?_; refine LN rfl fun r2 => ?_; refine LN rfl fun r3 => ?_; refine JG 4 rfl ?_; refine LR rfl (JC rfl rfl) ?_; refine JG 5 rfl ?_; refine LR rfl (JC rfl rfl) ?_; refine JG 10 rfl ?_; refine LR rfl (Js (r := [_, _, _, _, _]) rfl rfl) ?_
 refine LT 0 rfl rfl ?_; refine Jw 3 rfl ?_; refine Jg rfl rfl (.cons (Jy (vs := [_, _, _, _, _]) rfl (kn 0 rfl) rfl rfl) .nil) (fun w1 hs1 => ?_); exact ⟨(r1, r2), rfl, hs1.weakL (List.sublist_cons_self _ _)⟩
theorem Jao (k : Nat) (a b : Int) (g : FuncId) : PureE (α := Nat) Tryz.prog 183 [uV k, .int .i64 a, .int .i64 b, fV g].toArray (fun p => .agg #[uV k, .int .i64 a, .int .i64 b, .func (.func 241) #[] #[Ql p 0], .func (.func 242) #[] #[Ql p 0]]) (fun p => [(p, .cells #[fV g] 218 (0, 0))]) := by
 refine Ke Tryz.func183 rfl rfl fun w => ?_; refine JA ?_; refine Jq 2 rfl ?_; refine LN rfl fun r1 => ?_; refine LN rfl fun r2 => ?_; refine JG 7 rfl ?_; refine LR rfl (JC rfl rfl) ?_; refine LR rfl (JC rfl rfl) ?_; refine LR rfl (Js (r := [_, _, _, _, _]) rfl rfl) ?_
 refine LT 0 rfl rfl ?_; refine Jw 3 rfl ?_; refine Jg rfl rfl (.cons (Jy (vs := [_, _, _, _, _]) rfl (kn 0 rfl) rfl rfl) .nil) (fun w1 hs1 => ?_); exact ⟨r1, rfl, hs1.weakL (List.sublist_cons_self _ _)⟩
def Jqr (p : Nat → Nat) : Ji := (p 0, .cells (tab.flatMap (wM p)).toArray 108 (0, 0)) :: (ZH p 6 ++ (ZH p 5 ++ (ZH p 4 ++ (ZH p 3 ++ (ZH p 2 ++ (ZH p 1 ++ ZH p 0))))))
theorem Ju7 : PureE (α := Nat → Nat) Tryz.prog 113 [].toArray (fun p => .slice (some ⟨p 0, 0, none⟩) 7 7) Jqr := by
 refine Ke Tryz.func113 rfl rfl fun w => ?_; refine JA ?_; refine Jq 12 rfl ?_; refine JQ rfl rfl rfl Jh5 (zw 0 0 5 181 182) fun pp => ?_
 obtain ⟨a1, a2⟩ := pp
 refine JQ rfl rfl rfl Jol (Jao 1 0 5 184) fun a3 => ?_; refine JQ rfl rfl rfl Jol (Jao 5 0 2 185) fun a4 => ?_; refine QL rfl (JQ rfl rfl rfl Jh5 (zx 6 0 2 179 179) fun pp => ?_)
 obtain ⟨a5, a6⟩ := pp
 refine QL rfl (JQ rfl rfl rfl Jh5 (zw 3 3 5 179 186) fun pp => ?_)
 obtain ⟨a7, a8⟩ := pp
 refine JQ rfl rfl rfl Jol (Jao 7 3 5 187) fun a9 => ?_; refine JQ rfl rfl rfl Jh5 (zx 8 5 5 188 188) fun pp => ?_
 obtain ⟨a10, a11⟩ := pp
 refine JM (n := 7) (sz := 5) (vs := [_, _, _, _, _, _, _]) (zs := [_, _, _, _, _, _, _, _, _, _, _, _, _, _, _, _, _, _, _, _, _, _, _, _, _, _, _, _, _, _, _, _, _, _, _]) (r := tab.flatMap (wM ([0, a1, a2, a3, a4, a5, a6, a7, a8, a9, a10, a11].getD · 0))) rfl rfl rfl rfl rfl rfl rfl rfl rfl (by rw [Kt]; exact rfl) rfl fun rt => ?_; refine Jw 4 rfl ?_; refine pT rfl rfl rfl fun w1 hs1 => ?_; exact ⟨([rt, a1, a2, a3, a4, a5, a6, a7, a8, a9, a10, a11].getD · 0), rfl, hs1⟩
theorem Jap (f : Int) : PureE (α := Nat) Tryz.prog 57 [.int .i64 f].toArray (fun p => .func (.func 112) #[] #[Ql p 0]) (fun p => [(p, .cells #[.int .i64 f] 3 (0, 0))]) := by
 refine Ke Tryz.func57 rfl rfl fun w => ?_; refine JA ?_; refine Jq 2 rfl ?_; refine LN rfl fun r1 => ?_; refine JG 5 rfl ?_; refine LR rfl (JC rfl rfl) ?_; refine Jw 4 rfl ?_; refine pT rfl rfl rfl fun w1 hs1 => ?_; exact ⟨r1, rfl, hs1⟩
def nxT (f : Int) : Nat → List Value → Ji → Nat → Prop := fun i v B i' => i < 7 ∧ i' = i + 1 ∧ ∃ p : Nat → Nat, v = [.agg (wM p i).toArray, .bool (YB f i)] ∧ B = ZH p i
theorem Jqs {p : Nat → Nat} {i : Nat} (hi : i < 7) : ∀ q ∈ ZH p i, q ∈ Jqr p := by
 intro q hq
 unfold Jqr
 rcases lt7 hi with rfl | rfl | rfl | rfl | rfl | rfl | rfl <;> simp only [List.mem_cons, List.mem_append, hq, true_or, or_true]
theorem Ju8 {f : Int} (hf : KJ f) {i : Nat} (hi : i < 7) (h : f ≥ frN i) : decide (f ≤ toN i) = YB f i := by rw [Jqq hf hi, decide_eq_true h, Bool.true_and]
theorem Jyc {f : Int} (hf : KJ f) {i : Nat} (hi : i < 7) (h : ¬ f ≥ frN i) : false = YB f i := by rw [Jqq hf hi, decide_eq_false h, Bool.false_and]
theorem Jaq {f : Int} (hf : KJ f) (b : Nat) : Jgx Tryz.prog 112 [Ql b 0] [(b, .cells #[.int .i64 f] 3 (0, 0))] 0 (nxT f) (fun i => i = 7) := by
  refine qz Tryz.func112 rfl rfl fun q xids w2 XI XF hY => ?_; refine JA ?_; refine Jq 2 rfl ?_; refine JQ rfl rfl rfl (enters_of Tryz.func113 (by kernel_rfl) rfl) Ju7 fun p => ?_; change HL _ _ _ (Jqr p ++ []) _ _ _ _; rw [List.append_nil]; refine LR rfl (JU rfl rfl) ?_; refine JK 4 rfl ?_; refine J0 (σ := Nat) (fun i => i ≤ 7) (fun i => [(0, .func (.yield q) #[] #[]), (1, Ql b 0), (5, .slice (some ⟨p 0, 0, none⟩) 7 7), (6, .int .i64 7), (7, .int .i64 (i : Int))]) (fun _ => Jqr p) (fun i => XI i) (fun i => 7 - i) 0 (Nat.zero_le _) (lK rfl) (List.Sublist.refl _) (fun _ _ h => h) ?_; intro i hi1; refine JN 6 rfl ?_; refine cD (fun g => ?_) fun g => ?_
  · refine Jq 6 rfl ?_; refine LR rfl (JI (j := i) (m := 5) (off' := i * 5) rfl rfl rfl rfl rfl (by omega) (by omega)) ?_; refine LR rfl (Jo (n := 5) (vs := wM p i) rfl (Or.inl List.mem_cons_self) rfl rfl (VE (Jqp p) (Jjg (by omega))) rfl) ?_; refine LN rfl fun r1 => ?_
    refine LT 0 rfl rfl ?_; refine Xa 6 [0] rfl rfl ?_; refine LR rfl (Jd rfl (J2 (k := 0) rfl) rfl rfl) ?_; refine LS 4 [0] rfl rfl ?_
    refine J8 17 rfl (fun gb => ?_) (fun gb => ?_) <;> (try simp only [ZZ] at gb) <;> first | (refine LR rfl (Jd rfl (kn 0 rfl) rfl rfl) ?_) | (refine LR rfl (Jd rfl (kn 1 rfl) rfl rfl) ?_) | (refine LR rfl (Jd rfl (J2 (k := 0) rfl) rfl rfl) ?_) | (refine LK rfl ?_)
    all_goals first | refine LR rfl (J9 rfl rfl rfl) ?_ | refine LK rfl ?_
    all_goals refine LW 3 [0] rfl rfl ?_
    all_goals first | (refine J3 (congrArg Value.bool (Ju8 hf (by omega) (by assumption))) ?_) | (refine J3 (congrArg Value.bool (Jyc hf (show i < 7 by omega) (by omega))) ?_)
    all_goals refine jK (B := ZH p i) (XT := XI (i + 1)) (XF := XF) rfl rfl rfl rfl (hY i [.agg (wM p i).toArray, .bool (YB f i)] (ZH p i) (i + 1) ⟨by omega, rfl, p, rfl, rfl⟩) (fun q hq => List.mem_cons_of_mem _ (Jqs (by omega) q hq)) ?_ ?_
    all_goals (
     refine Jw 2 rfl (Y6 1 rfl ?_); refine Jz rfl (fun g => ?_) (fun g => ?_)
     · try exact Bool.noConfusion g
       all_goals try simp only [ZZ] at g
       all_goals (
        refine Ko 5 rfl ?_; refine Jg rfl rfl .nil (fun w1 hs1 => ?_)
        obtain ⟨xs1, hx1⟩ := hs1.now
        exact ⟨⟨_, rfl⟩, hs1.keep, .inr ⟨_, hx1⟩⟩
        skip)
     · try exact Bool.noConfusion g
       all_goals try simp only [ZZ] at g
       all_goals (
        refine Jq 5 rfl ?_; refine Jc (by omega) (by omega) ?_; refine Jw 2 rfl ?_; refine Jx ?_; exact Jt (i + 1) (by omega) (by omega) (lK rfl) (List.sublist_cons_self _ _) (fun _ _ h => h)
        skip)
     skip)
  · refine Ko 4 rfl ?_; refine Kq rfl rfl .nil (fun w1 hs1 => ?_)
    obtain ⟨xs1, hx1⟩ := hs1.now
    exact ⟨⟨_, rfl⟩, hs1.keep, .inl ⟨i, _, (by show i = 7; omega), hx1⟩⟩
theorem Ye {f : Int} {g : Nat → W4} {i : Nat} : ∀ (l : List Nat) (out : Rec), WC f g (l ++ [i]) out = if YB f i then Zx (WC f g l out) (g i) i else WC f g l out
 | [], out => rfl
 | j :: l, out => by rw [List.cons_append, WC, WC, Ye l]
theorem jA {i : Nat} (h : i < 7) : tab.take (i + 1) = tab.take i ++ [i] := by
 rcases lt7 h with rfl | rfl | rfl | rfl | rfl | rfl | rfl <;> rfl
theorem vt {f : Int} : ∀ i v B i', nxT f i v B i' → v.length = 2 := by
 rintro i v B i' ⟨_, _, p, rfl, _⟩; rfl
theorem Jyd {f : Int} (hf : KJ f) (r : Rec) : Pure Tryz.prog 117 [.int .i64 f, r.val].toArray (qw f r).val := by
 refine Jm Tryz.func117 rfl rfl fun w => ?_; refine JA ?_; refine Jq 2 rfl ?_; refine Kh (cs := r.cells.toArray) rfl rfl rfl rfl fun rb => ?_; refine LN rfl fun r1 => ?_; refine JG 4 rfl ?_; refine LN rfl fun r2 => ?_; refine JG 6 rfl ?_; refine JQ rfl rfl rfl Jtm (Jap f) fun b => ?_; refine JK 3 rfl ?_; refine VC [1, 0, 2, 3] (by decide) rfl ?_; refine VU (τ := Unit) (fun i (s : Rec) => i ≤ 7 ∧ s = WC f (XD r) (tab.take i) rec0) (fun s => [(r2, .cells s.cells.toArray 29 (0, 0))]) (fun _ _ => False) (fun _ => []) [(b, .cells #[.int .i64 f] 3 (0, 0)), (r1, .cells rec0.cells.toArray 29 (0, 0)), (rb, .cells r.cells.toArray 29 (0, 0))] rec0 rfl rfl Jh2 (Jaq hf b) vt rfl (by simp) rfl ⟨by decide, rfl⟩ ?_ ?_ ?_
 rintro q Xr Xb w3 i _ _ _ s ⟨hi, rfl, p, rfl, rfl⟩ ⟨-, hs⟩ Kr hKr; refine xj ?_
 refine Jq 2 rfl ?_; refine LN rfl fun r3 => ?_
 refine LT 0 rfl rfl ?_; refine Jw 5 rfl ?_; refine hKr _ _ ?_; refine JA ?_; clear hKr; refine JN 6 rfl ?_; refine cD (fun g => ?_) fun g => ?_
 refine JD 6 (by kernel_rfl) (by kernel_rfl) ?_
 refine Jb rfl rfl rfl (J9 rfl rfl rfl) ?_; refine Jb rfl rfl rfl (Jd rfl (kn 0 rfl) rfl rfl) ?_
 refine Jb rfl rfl rfl (J9 rfl rfl rfl) ?_; refine Jb rfl rfl rfl (Jd rfl (kn 0 rfl) rfl rfl) ?_; refine Jb rfl rfl rfl (Jh (xs := r.cells) (n := 17) rfl (Or.inr (List.mem_append_left _ (List.mem_append_right _ (List.mem_cons_of_mem _ (List.mem_cons_of_mem _ List.mem_cons_self))))) rfl rfl rfl) ?_; refine QM rfl rfl rfl (YU hi) (Jan hi (fun q hq => hq) r) (fun q hq => Or.inr (List.mem_append_left _ (List.mem_append_left _ hq))) ?_; refine JS ?_; refine yU (k := 1) rfl rfl rfl rfl rfl (qF hi) (Jjh hi (fun q hq => hq) s (XD r i)) (fun q hq => Or.inr (List.mem_append_left _ (List.mem_append_left _ hq))) fun _ => ?_; refine Jw 2 rfl ?_
 (refine KZ [0] (L' := [_]) (by decide) rfl ?_
  exact Ki (Zx s (XD r i) i) ⟨by omega, by rw [jA hi, Ye, ← hs, if_pos (by assumption)]⟩ rfl)
 refine Ko 2 rfl ?_
 (refine KZ [1] (L' := [_]) (by decide) rfl ?_
  exact Ki s ⟨by omega, by rw [jA hi, Ye, ← hs, if_neg (by simp_all)]⟩ rfl)
 rintro D i s hfi ⟨-, hs⟩
 obtain rfl : i = 7 := hfi
 refine gqo 4 rfl ?_; refine LR rfl (Jh (xs := s.cells) (n := 17) rfl (kn 1 rfl) rfl rfl rfl) ?_; refine Jk (k := 3) (n := 17) (ys := s.cells) rfl rfl rfl rfl rfl rfl rfl rfl rfl ?_; refine Jw 3 rfl ?_; refine Kw (k := 0) rfl rfl ?_; refine Jg rfl rfl (.cons (Jy (vs := s.cells) rfl (kn 3 rfl) rfl rfl) .nil) (fun w1 hs1 => ?_); exact ⟨by rw [hs]; rfl, hs1.keep⟩
 ·exact fun _ _ _ h => h.elim
theorem Jqt (x y : Rec) : (eqS (uV x.number) (uV y.number) && (eqS (uV x.time) (uV y.time) && (Qs [uV x.base.a, uV x.base.b, uV x.base.c, uV x.base.d] [uV y.base.a, uV y.base.b, uV y.base.c, uV y.base.d] && (Qs [uV x.blob.a, uV x.blob.b, uV x.blob.c, uV x.blob.d] [uV y.blob.a, uV y.blob.b, uV y.blob.c, uV y.blob.d] && (Qs [uV x.overhead.a, uV x.overhead.b, uV x.overhead.c, uV x.overhead.d] [uV y.overhead.a, uV y.overhead.b, uV y.overhead.c, uV y.overhead.d] && (eqS (uV x.scalar) (uV y.scalar) && (eqS (uV x.extra) (uV y.extra) && (eqS (uV x.operator) (uV y.operator) && true)))))))) = decide (x = y) := by
 rw [Bool.eq_iff_iff]; simp only [eqU, eqW, Bool.and_eq_true, decide_eq_true_eq, Bool.and_true]
 obtain ⟨a, b, c, d, e, f, g, h⟩ := x
 obtain ⟨a', b', c', d', e', f', g', h'⟩ := y
 simp only [Rec.mk.injEq]
theorem Ju9 {f : Int} (hf : KJ f) (r : Rec) : (qw f r = r → Wv f r = 0) ∧ (¬ qw f r = r → Wv f r = 2) := by
 unfold Wv
 rw [if_neg (by simpa using hf)]; exact ⟨fun h => if_pos ((vW hf).1 h), fun h => if_neg fun h2 => h ((vW hf).2 h2)⟩
theorem Jye (f : Int) (r : Rec) : Pure Tryz.prog 63 [.int .i64 f, r.val].toArray (.int .i64 (Wv f r)) := by
 by_cases hf : KJ f
 ·obtain ⟨h1, h2⟩ := Ju9 hf r
  refine Jm Tryz.func63 rfl rfl fun w => ?_; refine JA ?_; refine Jq 2 rfl ?_; refine Kh (cs := r.cells.toArray) rfl rfl rfl rfl fun rb => ?_; refine JG 8 rfl ?_; refine Jn rfl rfl rfl Jtl (j9 f) ?_; refine JK 4 rfl ?_; refine Jz rfl (fun g => ?_) (fun g => ?_)
  ·try simp only [ZZ] at g
   refine Ko 8 rfl ?_; refine pT rfl rfl rfl fun w1 hs1 => ?_
   exfalso; first | contradiction | (simp_all; done)
  try simp only [ZZ] at g
  refine JN 1 rfl ?_; refine JD 6 (by kernel_rfl) (by kernel_rfl) ?_; refine Jb rfl rfl rfl (Jf rfl) ?_; refine Jb rfl rfl rfl (Jh (xs := r.cells) (n := 17) rfl (kn 0 rfl) rfl rfl rfl) ?_; refine Kl rfl rfl rfl (enters_of Tryz.func117 (by kernel_rfl) rfl) (Jyd hf r) ?_; refine Jb rfl rfl rfl (Jh (xs := r.cells) (n := 17) rfl (kn 0 rfl) rfl rfl rfl) ?_; refine Jb rfl rfl rfl (vj (xs := (qw f r).cells) (ys := r.cells) rfl rfl rfl (by kernel_rfl) (by kernel_rfl) (.scal (by decide) rfl rfl rfl rfl rfl (.scal (by decide) rfl rfl rfl rfl rfl (.arr (by decide) rfl rfl rfl rfl rfl rfl rfl rfl rfl rfl (.arr (by decide) rfl rfl rfl rfl rfl rfl rfl rfl rfl rfl (.arr (by decide) rfl rfl rfl rfl rfl rfl rfl rfl rfl rfl (.scal (by decide) rfl rfl rfl rfl rfl (.scal (by decide) rfl rfl rfl rfl rfl (.scal (by decide) rfl rfl rfl rfl rfl .nil))))))))) ?_; refine KU (congrArg (fun b => Value.bool (!b)) (Jqt (qw f r) r)) ?_; refine Jb rfl rfl rfl (J6 rfl) ?_; refine JS ?_; refine JK 2 rfl ?_; refine cD (fun g => ?_) fun g => ?_
  refine Ko 8 rfl ?_; refine pT rfl rfl rfl fun w1 hs1 => ?_; rw [h2 (by assumption)]; exact ⟨rfl, hs1.keep⟩
  refine Ko 9 rfl ?_; refine pT rfl rfl rfl fun w1 hs1 => ?_; rw [h1 (by assumption)]; exact ⟨rfl, hs1.keep⟩
 ·have e : Wv f r = 10 := by unfold Wv; rw [if_pos hf]
  rw [e]; refine Jm Tryz.func63 rfl rfl fun w => ?_; refine JA ?_; refine Jq 2 rfl ?_; refine LN rfl fun r1 => ?_; refine JG 8 rfl ?_; refine Jn rfl rfl rfl Jtl (j9 f) ?_; refine JK 4 rfl ?_; refine Jz rfl (fun g => ?_) (fun g => ?_)
  ·try simp only [ZZ] at g
   refine Ko 8 rfl ?_; refine pT rfl rfl rfl fun w1 hs1 => ?_
   first | exact ⟨rfl, hs1.keep⟩ | (exfalso; first | contradiction | (simp_all; done))
  ·try simp only [ZZ] at g
   refine JN 1 rfl ?_; refine JD 6 (by kernel_rfl) (by kernel_rfl) ?_; refine Jb rfl rfl rfl (Jf rfl) ?_; refine Jb rfl rfl rfl (Jo (vs := [_, _, _, _, _, _, _, _, _, _, _, _, _, _, _, _, _]) rfl (kn 0 rfl) rfl rfl rfl rfl) ?_
   exfalso; first | contradiction | (simp_all; done)
theorem J0j (s : BS) : Pure Tryz.prog 110 [J4 s].toArray (.tuple #[wV (uW s).l, .int .i64 (vK s).2]) := by
 rw [Jzq]; exact wh s
theorem Jqu {R : Ji} {f : Int} (hf : KJ f) {a : AcL} (ha : a.In R) : PureR Tryz.prog 54 [.int .i64 f, a.val].toArray (VH f a.er).val R := by
 refine Ja Tryz.func54 rfl rfl fun w => ?_; refine JA ?_; refine Jq 2 rfl ?_; refine Kh (cs := a.cells.toArray) rfl rfl rfl rfl fun rb => ?_; refine LN rfl fun r1 => ?_; refine JG 4 rfl ?_; refine LN rfl fun r2 => ?_; refine JG 6 rfl ?_; refine JQ rfl rfl rfl Jtm (Jap f) fun b => ?_; refine JK 3 rfl ?_; refine VC [1, 0, 2, 3] (by decide) rfl ?_; refine VU (τ := Unit) (fun i (s : Rec) => i ≤ 7 ∧ s = WC f (fun i => uW (KW a.er (Wa (VG i)))) (tab.take i) rec0) (fun s => [(r2, .cells s.cells.toArray 29 (0, 0))]) (fun _ _ => False) (fun _ => []) [(b, .cells #[.int .i64 f] 3 (0, 0)), (r1, .cells rec0.cells.toArray 29 (0, 0)), (rb, .cells a.cells.toArray 48 (0, 0))] rec0 rfl rfl Jh2 (Jaq hf b) vt rfl (by simp) rfl ⟨by decide, rfl⟩ ?_ ?_ ?_
 rintro q Xr Xb w3 i _ _ _ s ⟨hi, rfl, p, rfl, rfl⟩ ⟨-, hs⟩ Kr hKr; refine xj ?_
 refine Jq 2 rfl ?_; refine LN rfl fun r3 => ?_
 refine LT 0 rfl rfl ?_; refine Jw 5 rfl ?_; refine hKr _ _ ?_; refine JA ?_; clear hKr; refine JN 6 rfl ?_; refine cD (fun g => ?_) fun g => ?_
 refine JN 1 rfl ?_
 refine JJ [] [(1, .pure), (3, .pure), (5, .pure), (6, .pure), (7, .pure), (8, .pure), (9, .grow (Vo jR (.cells #[.int .u64 0, .int .u64 0, .int .u64 0, .int .u64 0] 27 (0, 0)))), (10, .turn), (11, .pure)] 12 [0, 1, 2, 3, 4, 5, 6, 7, 8, 9, 10, 11] (by kernel_rfl) (by kernel_rfl) (by first | exact (fun _ h => absurd h List.not_mem_nil) | simp [SubS] | (intro p hp; simp [hp])) ?_; refine Kv (k := 0) rfl rfl rfl rfl rfl (Jh (xs := a.cells) (n := 8) rfl (Or.inr (List.mem_append_left _ (List.mem_append_right _ (List.mem_cons_of_mem _ (List.mem_cons_of_mem _ List.mem_cons_self))))) rfl rfl rfl) ?_
 refine Jj (k := 1) rfl rfl rfl rfl rfl (fun _ hS => (J9 rfl rfl rfl)) ?_; refine Kv (k := 2) rfl rfl rfl rfl rfl (Jd rfl (kn 0 rfl) rfl rfl) ?_; refine Qp (k := 3) rfl rfl rfl rfl rfl Jtn (Jaj (qa i)) ?_; refine KA (k := 4) rfl rfl rfl rfl rfl Jxl (Jf4 ha (Wa (VG i))) (fun q hq => Or.inr (List.mem_append_right _ hq)) ?_; refine Qp (k := 5) rfl rfl rfl rfl rfl (enters_of Tryz.func110 (by kernel_rfl) rfl) (J0j _) ?_; refine Jj (k := 6) rfl rfl rfl rfl rfl (fun _ hS => (Jf rfl)) ?_; refine Jj (k := 7) rfl rfl rfl rfl rfl (fun _ hS => (JL rfl rfl)) ?_; refine Jj (k := 8) rfl rfl rfl rfl rfl (fun _ hS => (JL rfl rfl)) ?_; refine Vu (k := 9) (cs := #[_, _, _, _]) rfl rfl rfl rfl rfl rfl fun r4 => ?_
 refine Qx (k := 10) (q := 0) (n := 4) (ys := [_, _, _, _]) rfl rfl rfl rfl rfl rfl rfl rfl rfl rfl (by first | (simp only [List.set_cons_zero, List.set_cons_succ]; exact rfl) | exact rfl) (by first | exact (fun _ h => absurd h List.not_mem_nil) | simp [SubS] | (intro p hp; simp [hp])) ?_; refine Jj (k := 11) rfl rfl rfl rfl rfl (fun _ hS => (J6 rfl)) ?_; refine Km ?_; refine Xa 6 [1, 0] rfl rfl ?_; refine yU (k := 2) rfl rfl rfl rfl rfl (qF hi) (Jjh hi (fun q hq => hq) s (uW (KW a.er (Wa (VG i))))) (fun q hq => Or.inr (List.mem_append_left _ (List.mem_append_left _ hq))) fun _ => ?_; refine Jw 2 rfl ?_
 (refine KZ [0] (L' := [_]) (by decide) rfl ?_
  exact Ki (Zx s (uW (KW a.er (Wa (VG i)))) i) ⟨by omega, by rw [jA hi, Ye, ← hs, if_pos (by assumption)]⟩ rfl)
 refine Ko 2 rfl ?_
 (refine KZ [1] (L' := [_]) (by decide) rfl ?_
  exact Ki s ⟨by omega, by rw [jA hi, Ye, ← hs, if_neg (by simp_all)]⟩ rfl)
 rintro D i s hfi ⟨-, hs⟩
 obtain rfl : i = 7 := hfi
 refine gqo 4 rfl ?_; refine LR rfl (Jh (xs := s.cells) (n := 17) rfl (kn 1 rfl) rfl rfl rfl) ?_; refine Jk (k := 3) (n := 17) (ys := s.cells) rfl rfl rfl rfl rfl rfl rfl rfl rfl ?_; refine Jw 3 rfl ?_; refine Kw (k := 0) rfl rfl ?_; refine Jg rfl rfl (.cons (Jy (vs := s.cells) rfl (kn 3 rfl) rfl rfl) .nil) (fun w1 hs1 => ?_); exact ⟨by rw [hs]; rfl, hs1.keep⟩
 ·exact fun _ _ _ h => h.elim
theorem Jqv {f : Int} (hf : KJ f) {i : Nat} (hi : i < 2) : Pure Tryz.prog 56 [.int .i64 f, .int .i64 (i : Int)].toArray (.tuple #[J4 (KE f i).1, .bool (KE f i).2]) := by
 have : i = 0 ∨ i = 1 := by omega
 rcases this with rfl | rfl
 ·exact J0h hf
 ·exact J0i hf
def jB (f : Int) (s : List AcE) : Nat → Int
 | 0 => 0
 | i + 1 => if QK f s i then 2 else jB f s i
theorem Jd3 (f : Int) (s : StL) (i : Nat) : QK f s.er i = ((KE f i).2 && !decide ((JW s (Qi i)).code = (KE f i).1)) := by
 unfold QK
 rw [← Zg]
 show ((KE f i).2 && decide (¬ (JW s (Qi i)).code = (KE f i).1)) = _
 rw [decide_not]
theorem Jar (f : Int) (s : StL) (i : Nat) : VO f s.er i = ((KE f i).2 && !Wc s (Qi i)) := by
 unfold VO
 rw [Jct]
 cases JZ s.er (Qi i) <;> rfl
theorem Jqw {f : Int} (hf : KJ f) (s : StL) : Wb f s.er = if KR s.er ≠ 0 then KR s.er else if VO f s.er (0 : Nat) = true ∨ VO f s.er (1 : Nat) = true then 12 else if ¬ jB f s.er 2 = 0 then 2 else if Yo f (JW s A0).er (VH f (JW s A0).er) tab = true then 0 else 8 := by
 unfold Wb
 rw [if_neg (by simpa using hf), Zg]
 have e : (¬ jB f s.er 2 = 0) = ((QK f s.er 0 || QK f s.er 1) = true) := by
  unfold jB jB jB
  show (¬ (if QK f s.er 1 = true then (2 : Int) else if QK f s.er 0 = true then 2 else 0) = 0) = _
  cases QK f s.er 0 <;> cases QK f s.er 1 <;> simp
 simp only [e, Bool.or_eq_true]
 rfl
theorem zy {f : Int} {a : AcE} {r : Rec} {i : Nat} (hi : i < 7) (h : ¬ KW a (Wa (VG i)) = (YC f r i).2) : Yo f a r tab = false := by
 rw [← Bool.not_eq_true, XR]; intro h2; exact h (h2 i (List.mem_of_getElem? (Jjg hi)))
theorem Jji {f : Int} {r : Rec} {i : Nat} (h : YB f i = true) : bW (XD r i) = (YC f r i).2 := by unfold YC; rw [if_pos h]
theorem wO {f : Int} {r : Rec} {i : Nat} (h : YB f i = false) : Vb = (YC f r i).2 := by unfold YC; rw [if_neg (by rw [h]; simp)]
theorem Jd4 {R : Ji} (f : Int) {s : StL} (hs : s.In R) : PureR Tryz.prog 25 [.int .i64 f, s.val].toArray (.int .i64 (Wb f s.er)) R := by
  by_cases hf : KJ f
  · have hc := Yc hs
    have hE := Jqw hf s
    have hA := Zh hs A0
    have hrd := Jqu hf hA
    rw [hE]; refine Ja Tryz.func25 rfl rfl fun w => ?_; refine JA ?_; refine Jq 2 rfl ?_; refine Kh (cs := s.cells.toArray) rfl rfl rfl rfl fun rb => ?_; refine LN rfl fun r1 => ?_; refine JG 6 rfl ?_; refine Jn rfl rfl rfl Jtl (j9 f) ?_; refine JK 3 rfl ?_; refine Jz rfl (fun g => ?_) (fun g => ?_)
    · try simp only [ZZ] at g
      refine Jq 2 rfl ?_
      refine LT 0 rfl rfl ?_; refine Jw 4 rfl ?_
      (refine Jg rfl rfl (.cons (JT rfl (kn 0 rfl) rfl rfl) .nil) (fun w1 hs1 => ?_)
       first
         | (rw [if_pos (by omega)]; exact ⟨rfl, hs1.keep⟩)
         | (rw [if_neg (by omega), if_neg hnl, if_pos (by omega)]
            have h2 : jB f s.er 2 = 2 := by
              have h3 : ¬ jB f s.er 2 = 0 := by omega
              unfold jB jB jB at h3 ⊢
              split at h3 <;> split <;> simp_all
            rw [h2]; exact ⟨rfl, hs1.keep⟩)
         | (exfalso; first | contradiction | (simp_all; done)))
    · try simp only [ZZ] at g
      refine Jq 5 rfl ?_; refine LR rfl (Jo (vs := [_]) rfl (kn 1 rfl) rfl rfl rfl rfl) ?_; refine Je rfl rfl rfl Jof hc oR ?_; refine JK 9 rfl ?_; refine cD (fun g => ?_) fun g => ?_
      · refine Jq 3 rfl ?_
        refine LT 0 rfl rfl ?_; refine Jw 4 rfl ?_
        first
          | (refine Kw (k := 0) rfl rfl ?_
             refine Jg rfl rfl (.cons (JT rfl (kn 1 rfl) rfl rfl) .nil) (fun w1 hs1 => ?_); rw [if_neg (by omega), if_neg hnl, if_neg (by omega)]
             first | (rw [if_pos htab]; exact ⟨rfl, hs1.keep⟩) | (rw [if_neg (by rw [htab]; simp)]; exact ⟨rfl, hs1.keep⟩))
          | (refine Jg rfl rfl (.cons (JT rfl (kn 0 rfl) rfl rfl) .nil) (fun w1 hs1 => ?_)
             first
               | (rw [if_pos (by omega)]; exact ⟨rfl, hs1.keep⟩)
               | (rw [if_neg (by omega), if_neg hnl, if_pos (by omega)]
                  have h2 : jB f s.er 2 = 2 := by
                    have h3 : ¬ jB f s.er 2 = 0 := by omega
                    unfold jB jB jB at h3 ⊢
                    split at h3 <;> split <;> simp_all
                  rw [h2]; exact ⟨rfl, hs1.keep⟩)
               | (exfalso; first | contradiction | (simp_all; done)))
          | (refine Jg rfl rfl (.cons (JT rfl (kn 1 rfl) rfl rfl) .nil) (fun w1 hs1 => ?_)
             rw [if_neg (by omega), if_pos (by have h01 : i = 0 ∨ i = 1 := by omega
                                               rcases h01 with rfl | rfl
                                               exact Or.inl hlk
                                               exact Or.inr hlk)]
             exact ⟨rfl, hs1.keep⟩)
      · refine JN 14 rfl ?_
        have hc0 : KR s.er = 0 := by omega
        refine J0 (σ := Nat) (fun i => i ≤ 2 ∧ ∀ j, j < i → VO f s.er (j : Nat) = false) (fun i => [(0, .int .i64 f), (3, Ql rb 0), (4, Ql r1 0), (6, .int .i64 (jB f s.er i)), (26, .int .i64 (i : Int))]) (fun _ => [(r1, .cells #[.int .i64 0] 37 (0, 0)), (rb, .cells s.cells.toArray 36 (0, 0))]) (fun _ _ _ => True) (fun i => 2 - i) 0 ⟨by omega, fun j hj => absurd hj (by omega)⟩ (lK rfl) (List.Sublist.refl _) (fun _ _ h => h) ?_; rintro i ⟨hi2, hinv⟩; refine JN 6 rfl ?_; refine cD (fun g => ?_) fun g => ?_
        · refine JN 11 rfl ?_
          have hi : i < 2 := by omega
          refine Jq 3 rfl ?_; refine Jn rfl rfl rfl Jxk (Jqv hf hi) ?_; refine JK 8 rfl ?_
          refine JJ [] [(1, .pure), (2, .pure), (4, .pure), (5, .pure), (6, .pure), (7, .grow (Vo jR (.cells #[.string ⟨#[]⟩, .int .u64 0, .int .u64 0, .int .u64 0, .int .u64 0, .int .u64 0, .string ⟨#[]⟩, .slice none 0 0] 48 (0, 0)))), (8, .turn), (9, .pure)] 10 [0, 1, 2, 3, 4, 5, 6, 7, 8, 9] (by kernel_rfl) (by kernel_rfl) (by first | exact (fun _ h => absurd h List.not_mem_nil) | simp [SubS] | (intro p hp; simp [hp])) ?_; refine Kv (k := 0) rfl rfl rfl rfl rfl (Jo (vs := [_]) rfl (kn 1 rfl) rfl rfl rfl rfl) ?_; refine Jj (k := 1) rfl rfl rfl rfl rfl (fun _ hS => (Jf rfl)) ?_; refine Qp (k := 2) rfl rfl rfl rfl rfl Jcz (wJ i) ?_; refine KA (k := 3) rfl rfl rfl rfl rfl Jkz (qg hs (Qi i)) oR ?_; refine Jj (k := 4) rfl rfl rfl rfl rfl (fun _ hS => (Jf rfl)) ?_; refine Jj (k := 5) rfl rfl rfl rfl rfl (fun _ hS => (JL rfl rfl)) ?_; refine Jj (k := 6) rfl rfl rfl rfl rfl (fun _ hS => (JL rfl rfl)) ?_; refine Vu (k := 7) (cs := #[_, _, _, _, _, _, _, _]) rfl rfl rfl rfl rfl rfl fun r2 => ?_; refine Qx (k := 8) (q := 0) (n := 8) (ys := (JW s (Qi i)).cells) rfl rfl rfl rfl rfl rfl rfl rfl rfl rfl rfl (fun _ h => nomatch h) ?_; refine Jj (k := 9) rfl rfl rfl rfl rfl (fun _ hS => (J6 rfl)) ?_; refine Km ?_; refine JG 7 rfl ?_
          refine J8 44 rfl (fun gb => ?_) (fun gb => ?_) <;> (try simp only [ZZ] at gb) <;> first | (refine QL rfl ?_) | (refine LK rfl ?_)
          all_goals (
           refine LW 3 [] rfl rfl (Jw 1 rfl (Y6 1 rfl ?_)); refine Jz rfl (fun g => ?_) (fun g => ?_)
           · try exact Bool.noConfusion g
             all_goals try simp only [ZZ] at g
             all_goals (
              refine JN 1 rfl ?_
              have hlk : VO f s.er i = true := by rw [Jar]; simp_all
              refine Jq 1 rfl ?_
              refine LT 1 rfl rfl ?_; refine Jw 9 rfl ?_
              (refine Jg rfl rfl (.cons (JT rfl (kn 1 rfl) rfl rfl) .nil) (fun w1 hs1 => ?_)
               rw [if_neg (by omega), if_pos (by have h01 : i = 0 ∨ i = 1 := by omega
                                                 rcases h01 with rfl | rfl
                                                 exact Or.inl hlk
                                                 exact Or.inr hlk)]
               exact ⟨rfl, hs1.keep⟩)
              skip)
           · try simp only [ZZ] at g
             refine Jq 4 rfl ?_
             refine J8 50 rfl (fun gb => ?_) (fun gb => ?_) <;> (try simp only [ZZ] at gb) <;> first | (refine LR rfl (J9 rfl rfl rfl) ?_) | (refine LK rfl ?_)
             all_goals refine LW 2 [0] rfl rfl ?_
             all_goals first | refine LR rfl (Yj rfl rfl) ?_ | refine LK rfl ?_
             all_goals (
              refine LW 2 [] rfl rfl (Jw 1 rfl (Y6 1 rfl ?_)); refine Jz rfl (fun g => ?_) (fun g => ?_)
              · try exact Bool.noConfusion g
                all_goals try simp only [ZZ] at g
                all_goals (
                 refine Jq 8 rfl ?_; refine Jc (by omega) (by omega) ?_; refine Jw 2 rfl ?_; refine Jx ?_
                 have hlk : VO f s.er i = false := by rw [Jar]; simp_all
                 have hnx : ∀ j, j < i + 1 → VO f s.er (j : Nat) = false := fun j hj => by
                   rcases Nat.lt_succ_iff_lt_or_eq.1 hj with hj | rfl
                   exact hinv j hj
                   exact hlk
                 (have hw : QK f s.er i = true := by rw [Jd3]; simp_all; done
                  exact Jt (i + 1) ⟨by omega, hnx⟩ (by omega) (.cons rfl (.cons rfl (.cons rfl (.cons (by show _ = some (Value.int .i64 (if QK f s.er i = true then 2 else jB f s.er i)); rw [if_pos hw]; rfl) (.cons rfl .nil))))) (List.sublist_cons_self _ _) (fun _ _ h => h))
                 skip)
              · try simp only [ZZ] at g
                refine Jq 6 rfl ?_; refine Jc (by omega) (by omega) ?_; refine Jw 2 rfl ?_; refine Jx ?_
                have hlk : VO f s.er i = false := by rw [Jar]; simp_all
                have hnx : ∀ j, j < i + 1 → VO f s.er (j : Nat) = false := fun j hj => by
                  rcases Nat.lt_succ_iff_lt_or_eq.1 hj with hj | rfl
                  exact hinv j hj
                  exact hlk
                (have hw : QK f s.er i = false := by rw [Jd3]; simp_all; done
                 exact Jt (i + 1) ⟨by omega, hnx⟩ (by omega) (.cons rfl (.cons rfl (.cons rfl (.cons (by show _ = some (Value.int .i64 (if QK f s.er i = true then 2 else jB f s.er i)); rw [if_neg (by rw [hw]; simp)]; rfl) (.cons rfl .nil))))) (List.sublist_cons_self _ _) (fun _ _ h => h))
              skip)
           skip)
        · refine JN 7 rfl ?_
          obtain rfl : i = 2 := by omega
          have hnl : ¬ (VO f s.er (0 : Nat) = true ∨ VO f s.er (1 : Nat) = true) := fun h => h.elim (fun h => by rw [hinv 0 (by decide)] at h; cases h) (fun h => by rw [hinv 1 (by decide)] at h; cases h)
          refine JN 5 rfl ?_; refine cD (fun g => ?_) fun g => ?_
          · refine Jq 3 rfl ?_
            refine LT 0 rfl rfl ?_; refine Jw 4 rfl ?_
            first
              | (refine Kw (k := 0) rfl rfl ?_
                 refine Jg rfl rfl (.cons (JT rfl (kn 1 rfl) rfl rfl) .nil) (fun w1 hs1 => ?_); rw [if_neg (by omega), if_neg hnl, if_neg (by omega)]
                 first | (rw [if_pos htab]; exact ⟨rfl, hs1.keep⟩) | (rw [if_neg (by rw [htab]; simp)]; exact ⟨rfl, hs1.keep⟩))
              | (refine Jg rfl rfl (.cons (JT rfl (kn 0 rfl) rfl rfl) .nil) (fun w1 hs1 => ?_)
                 first
                   | (rw [if_pos (by omega)]; exact ⟨rfl, hs1.keep⟩)
                   | (rw [if_neg (by omega), if_neg hnl, if_pos (by omega)]
                      have h2 : jB f s.er 2 = 2 := by
                        have h3 : ¬ jB f s.er 2 = 0 := by omega
                        unfold jB jB jB at h3 ⊢
                        split at h3 <;> split <;> simp_all
                      rw [h2]; exact ⟨rfl, hs1.keep⟩)
                   | (exfalso; first | contradiction | (simp_all; done)))
              | (refine Jg rfl rfl (.cons (JT rfl (kn 1 rfl) rfl rfl) .nil) (fun w1 hs1 => ?_)
                 rw [if_neg (by omega), if_pos (by have h01 : i = 0 ∨ i = 1 := by omega
                                                   rcases h01 with rfl | rfl
                                                   exact Or.inl hlk
                                                   exact Or.inr hlk)]
                 exact ⟨rfl, hs1.keep⟩)
          · refine JN 3 rfl ?_
            refine JJ [] [(1, .pure), (3, .pure), (4, .pure), (5, .pure), (6, .grow (Vo jR (.cells #[.string ⟨#[]⟩, .int .u64 0, .int .u64 0, .int .u64 0, .int .u64 0, .int .u64 0, .string ⟨#[]⟩, .slice none 0 0] 48 (0, 0)))), (7, .turn), (8, .pure)] 9 [0, 1, 2, 3, 4, 5, 6, 7, 8] (by kernel_rfl) (by kernel_rfl) (by first | exact (fun _ h => absurd h List.not_mem_nil) | simp [SubS] | (intro p hp; simp [hp])) ?_; refine Kv (k := 0) rfl rfl rfl rfl rfl (Jo (vs := [_]) rfl (kn 1 rfl) rfl rfl rfl rfl) ?_; refine Qp (k := 1) rfl rfl rfl rfl rfl Jcz (wJ 0) ?_; refine KA (k := 2) rfl rfl rfl rfl rfl Jkz (qg hs A0) oR ?_; refine Jj (k := 3) rfl rfl rfl rfl rfl (fun _ hS => (Jf rfl)) ?_; refine Jj (k := 4) rfl rfl rfl rfl rfl (fun _ hS => (JL rfl rfl)) ?_; refine Jj (k := 5) rfl rfl rfl rfl rfl (fun _ hS => (JL rfl rfl)) ?_; refine Vu (k := 6) (cs := #[_, _, _, _, _, _, _, _]) rfl rfl rfl rfl rfl rfl fun r3 => ?_; refine Qx (k := 7) (q := 0) (n := 8) (ys := (JW s A0).cells) rfl rfl rfl rfl rfl rfl rfl rfl rfl rfl rfl (fun _ h => nomatch h) ?_; refine Jj (k := 8) rfl rfl rfl rfl rfl (fun _ hS => (J6 rfl)) ?_; refine Km ?_; refine JG 5 rfl ?_; refine LR rfl (Jh (xs := (JW s A0).cells) (n := 8) rfl (kn 0 rfl) rfl rfl rfl) ?_; refine Je rfl rfl rfl (enters_of Tryz.func54 (by kernel_rfl) rfl) hrd oR ?_; refine LN rfl fun r4 => ?_; refine Jk (k := 0) (n := 17) (ys := (VH f (JW s A0).er).cells) rfl rfl rfl rfl rfl rfl rfl rfl rfl ?_; refine JG 6 rfl ?_; refine JQ rfl rfl rfl Jtm (Jap f) fun b => ?_; refine JK 3 rfl ?_; refine VC [3, 0, 1, 2, 4] (L' := [_, _, _, _, _]) (by decide) rfl ?_; refine VU (τ := Unit) (fun i (_ : Unit) => i ≤ 7 ∧ ∀ j, j < i → KW (JW s A0).er (Wa (VG j)) = (YC f (VH f (JW s A0).er) j).2) (fun _ => [(r1, .cells #[.int .i64 0] 37 (0, 0))]) (fun j _ => j = .ret ∧ Yo f (JW s A0).er (VH f (JW s A0).er) tab = false) (fun _ => [(r1, .cells #[.int .i64 8] 37 (0, 0))]) [(b, .cells #[.int .i64 f] 3 (0, 0)), (r4, .cells (VH f (JW s A0).er).cells.toArray 29 (0, 0)), (r3, .cells (JW s A0).cells.toArray 48 (0, 0)), (rb, .cells s.cells.toArray 36 (0, 0))] () rfl rfl Jh2 (Jaq hf b) vt rfl (fun q hq => .inl (by rw [List.mem_singleton.1 hq]; exact List.mem_cons_self)) rfl ⟨Nat.zero_le _, fun j hj => absurd hj (by omega)⟩ ?_ ?_ ?_
            rintro q Xr Xb w3 i _ _ _ ⟨⟩ ⟨hi, rfl, p, rfl, rfl⟩ ⟨hi7, hrow⟩ Kr hKr; refine xj ?_
            refine Jq 2 rfl ?_; refine LN rfl fun r5 => ?_
            refine LT 0 rfl rfl ?_; refine Jw 5 rfl ?_; refine hKr _ _ ?_; refine JA ?_; clear hKr; refine Jq 3 rfl ?_; refine Jn rfl rfl rfl (enters_of Tryz.func58 (by kernel_rfl) rfl) Ji7 ?_; refine JK 9 rfl ?_; refine cD (fun g => ?_) fun g => ?_
            refine Xs 3 [0] rfl rfl ?_; refine LR rfl (Jh (xs := (VH f (JW s A0).er).cells) (n := 17) rfl (Or.inr (List.mem_append_left _ (List.mem_append_right _ (List.mem_cons_of_mem _ List.mem_cons_self)))) rfl rfl rfl) ?_; refine Je rfl rfl rfl (YU hi) (Jan hi (fun q hq => hq) (VH f (JW s A0).er)) (fun q hq => Or.inr (List.mem_append_left _ (List.mem_append_left _ hq))) ?_; refine Jn rfl rfl rfl xN (Qy (vU (Js5 f _) i).wok) ?_; refine J3 (congrArg J4 (Jji (by assumption))) ?_; refine JK 4 rfl ?_; refine JD 7 (by kernel_rfl) (by kernel_rfl) ?_; refine Jb rfl rfl rfl (Jh (xs := (JW s A0).cells) (n := 8) rfl (Or.inr (List.mem_append_left _ (List.mem_append_right _ (List.mem_cons_of_mem _ (List.mem_cons_of_mem _ List.mem_cons_self))))) rfl rfl rfl) ?_
            refine Jb rfl rfl rfl (J9 rfl rfl rfl) ?_; refine Jb rfl rfl rfl (Jd rfl (kn 0 rfl) rfl rfl) ?_; refine Kl rfl rfl rfl Jtn (Jaj (qa i)) ?_; refine QM rfl rfl rfl Jxl (Jf4 hA (Wa (VG i))) (fun q hq => Or.inr (List.mem_append_right _ hq)) ?_; refine Jb rfl rfl rfl (Jf rfl) ?_; refine Jb rfl rfl rfl (Yj rfl rfl) ?_; refine JS ?_; refine JK 2 rfl ?_; refine cD (fun g => ?_) fun g => ?_
            refine Jq 2 rfl ?_
            refine LT 1 rfl rfl ?_; refine Jw 4 rfl ?_; refine KZ [1] (L' := [_]) (by decide) rfl ?_
            refine XK () ⟨rfl, zy hi (by first | assumption | (rw [← wO (by assumption)]; assumption))⟩ rfl
            refine Ko 2 rfl ?_; refine KZ [1] (L' := [_]) (by decide) rfl ?_; refine Ki () ⟨by omega, fun j hj => ?_⟩ rfl
            rcases Nat.lt_succ_iff_lt_or_eq.1 hj with hj | rfl
            exact hrow j hj
            first | assumption | (rw [← wO (by assumption)]; assumption)
            refine JN 3 rfl ?_; refine JD 7 (by kernel_rfl) (by kernel_rfl) ?_; refine Jb rfl rfl rfl (Jh (xs := (JW s A0).cells) (n := 8) rfl (Or.inr (List.mem_append_left _ (List.mem_append_right _ (List.mem_cons_of_mem _ (List.mem_cons_of_mem _ List.mem_cons_self))))) rfl rfl rfl) ?_
            refine Jb rfl rfl rfl (J9 rfl rfl rfl) ?_; refine Jb rfl rfl rfl (Jd rfl (kn 0 rfl) rfl rfl) ?_; refine Kl rfl rfl rfl Jtn (Jaj (qa i)) ?_; refine QM rfl rfl rfl Jxl (Jf4 hA (Wa (VG i))) (fun q hq => Or.inr (List.mem_append_right _ hq)) ?_; refine Jb rfl rfl rfl (Jf rfl) ?_; refine Jb rfl rfl rfl (Yj rfl rfl) ?_; refine JS ?_; refine JK 2 rfl ?_; refine cD (fun g => ?_) fun g => ?_
            refine Jq 2 rfl ?_
            refine LT 1 rfl rfl ?_; refine Jw 4 rfl ?_; refine KZ [1] (L' := [_]) (by decide) rfl ?_
            refine XK () ⟨rfl, zy hi (by first | assumption | (rw [← wO (by assumption)]; assumption))⟩ rfl
            refine Ko 2 rfl ?_; refine KZ [1] (L' := [_]) (by decide) rfl ?_; refine Ki () ⟨by omega, fun j hj => ?_⟩ rfl
            rcases Nat.lt_succ_iff_lt_or_eq.1 hj with hj | rfl
            exact hrow j hj
            first | assumption | (rw [← wO (by assumption)]; assumption)
            · rintro D i ⟨⟩ hfi ⟨-, hrow⟩
              obtain rfl : i = 7 := hfi
              have htab : Yo f (JW s A0).er (VH f (JW s A0).er) tab = true := XR.2 fun j hj => hrow j (Jxg hj)
              refine gqo 4 rfl ?_
              refine LT 1 rfl rfl ?_; refine Jw 3 rfl ?_
              first
                | (refine Kw (k := 0) rfl rfl ?_
                   refine Jg rfl rfl (.cons (JT rfl (kn 1 rfl) rfl rfl) .nil) (fun w1 hs1 => ?_); rw [if_neg (by omega), if_neg hnl, if_neg (by omega)]
                   first | (rw [if_pos htab]; exact ⟨rfl, hs1.keep⟩) | (rw [if_neg (by rw [htab]; simp)]; exact ⟨rfl, hs1.keep⟩))
                | (refine Jg rfl rfl (.cons (JT rfl (kn 0 rfl) rfl rfl) .nil) (fun w1 hs1 => ?_)
                   first
                     | (rw [if_pos (by omega)]; exact ⟨rfl, hs1.keep⟩)
                     | (rw [if_neg (by omega), if_neg hnl, if_pos (by omega)]
                        have h2 : jB f s.er 2 = 2 := by
                          have h3 : ¬ jB f s.er 2 = 0 := by omega
                          unfold jB jB jB at h3 ⊢
                          split at h3 <;> split <;> simp_all
                        rw [h2]; exact ⟨rfl, hs1.keep⟩)
                     | (exfalso; first | contradiction | (simp_all; done)))
                | (refine Jg rfl rfl (.cons (JT rfl (kn 1 rfl) rfl rfl) .nil) (fun w1 hs1 => ?_)
                   rw [if_neg (by omega), if_pos (by have h01 : i = 0 ∨ i = 1 := by omega
                                                     rcases h01 with rfl | rfl
                                                     exact Or.inl hlk
                                                     exact Or.inr hlk)]
                   exact ⟨rfl, hs1.keep⟩)
            rintro D j ⟨⟩ ⟨rfl, htab⟩
            refine Ko 3 rfl ?_
            (refine Kw (k := 0) rfl rfl ?_
             refine Jg rfl rfl (.cons (JT rfl (kn 1 rfl) rfl rfl) .nil) (fun w1 hs1 => ?_); rw [if_neg (by omega), if_neg hnl, if_neg (by omega)]
             first | (rw [if_pos htab]; exact ⟨rfl, hs1.keep⟩) | (rw [if_neg (by rw [htab]; simp)]; exact ⟨rfl, hs1.keep⟩))
  · have e : Wb f s.er = 10 := by unfold Wb; rw [if_pos hf]
    rw [e]; refine Ja Tryz.func25 rfl rfl fun w => ?_; refine JA ?_; refine Jq 2 rfl ?_; refine LN rfl fun r1 => ?_; refine LN rfl fun r2 => ?_; refine JG 6 rfl ?_; refine Jn rfl rfl rfl Jtl (j9 f) ?_; refine VQ rfl ?_; refine J3 (show _ = Value.bool true from by rw [decide_eq_false hf]; rfl) ?_; refine JK 2 rfl ?_; refine Jz rfl (fun g => ?_) (fun g => ?_)
    try simp only [ZZ] at g
    refine Jq 2 rfl ?_
    refine LT 0 rfl rfl ?_; refine Jw 4 rfl ?_; refine Jg rfl rfl (.cons (JT rfl (kn 0 rfl) rfl rfl) .nil) (fun w1 hs1 => ?_); exact ⟨rfl, hs1.keep⟩
    · try exact Bool.noConfusion g
theorem J0k {R : Ji} {p : Nat → Nat} {i rr e : Nat} {f : Int} (hi : i < 7) {r : Rec} (hr : r.ok) (hR : (rr, Obj.cells r.cells.toArray e (0, 0)) ∈ R) : PureR Tryz.prog 130 (.agg (wM p i).toArray :: .bool (YB f i) :: [Ql rr 0]).toArray (J4 (YC f r i).2) (ZH p i ++ R) := by
 refine Ja Tryz.func130 rfl rfl fun w => ?_; refine JA ?_; refine Jq 2 rfl ?_; refine Kh (cs := (wM p i).toArray) rfl rfl rfl rfl fun rb => ?_; refine JK 10 rfl ?_; refine cD (fun g => ?_) fun g => ?_
 refine Jq 2 rfl ?_; refine Jn rfl rfl rfl (enters_of Tryz.func58 (by kernel_rfl) rfl) Ji7 ?_; refine Jw 5 rfl ?_; refine pT rfl rfl rfl fun w1 hs1 => ?_; refine ⟨?_, hs1.keep⟩; rw [← wO (by assumption)]; rfl
 ·refine Xs 6 [0] rfl rfl ?_; refine LR rfl (Jh (xs := r.cells) (n := 17) rfl (Or.inr (List.mem_append_right _ hR)) rfl rfl rfl) ?_; refine Je rfl rfl rfl (YU hi) (Jan hi (fun q hq => hq) r) (fun q hq => Or.inr (List.mem_append_left _ hq)) ?_; refine Jn rfl rfl rfl xN (Qy (vU hr i).wok) ?_; refine Jw 4 rfl ?_; refine pT rfl rfl rfl fun w1 hs1 => ?_; refine ⟨?_, hs1.keep⟩; rw [← Jji (by assumption)]; rfl
theorem Jyf {R : Ji} {a : AcL} (ha : a.In R) {f : Int} (hf : KJ f) {gv : FuncId} {capsV : List Value} {vals : Nat → BS} (egv : Enters Tryz.prog gv) (hgv : ∀ i, i < 7 → ∀ p, PureR Tryz.prog gv (.agg (wM p i).toArray :: .bool (YB f i) :: capsV).toArray (J4 (vals i)) (ZH p i ++ R)) :
  PureT (α := AcRes R (Q7 a.er (tab.map fun i => (Wa (VG i), vals i)))) Tryz.prog 129 [.int .i64 f, a.val, .func (.func gv) #[] capsV.toArray].toArray (fun x => x.val) [] (fun x => x.L) R := by
 obtain ⟨rows, hrows⟩ : ∃ rows, rows = tab.map fun i => (Wa (VG i), vals i) := ⟨_, rfl⟩
 have hdr : ∀ i, i < 7 → rows.drop i = (Wa (VG i), vals i) :: rows.drop (i + 1) := fun i hi => by rw [hrows]; exact map_drop _ hi
 have hd7 : rows.drop 7 = [] := by rw [hrows]; rfl
 rw [← hrows]; clear hrows; refine Ju Tryz.func129 rfl rfl fun w => ?_; refine JA ?_; refine Jq 2 rfl ?_; refine Kh (cs := a.cells.toArray) rfl rfl rfl rfl fun rb => ?_; refine LN rfl fun rv => ?_; refine LN rfl fun r1 => ?_; refine LN rfl fun r2 => ?_; refine JG 6 rfl ?_; refine JQ rfl rfl rfl Jtm (Jap f) fun b => ?_; refine JK 3 rfl ?_; refine VC [4, 2, 1, 0, 3] (L' := [_, _, _, _, _]) (by decide) rfl ?_; refine VU (τ := AcSt R × Int) (fun i (s : AcSt R) => i ≤ 7 ∧ Q7 a.er rows = Q7 s.a.er (rows.drop i)) (fun s => (rb, .cells s.a.cells.toArray 48 (0, 0)) :: (r1, .cells ac0L.cells.toArray 48 (0, 0)) :: (r2, .cells #[.int .i64 0] 37 (0, 0)) :: s.L) (fun j s => j = .ret ∧ Q7 a.er rows = (s.1.a.er, s.2)) (fun s => (rb, .cells s.1.a.cells.toArray 48 (0, 0)) :: (r1, .cells s.1.a.cells.toArray 48 (0, 0)) :: (r2, .cells #[.int .i64 s.2] 37 (0, 0)) :: s.1.L) [(b, .cells #[.int .i64 f] 3 (0, 0)), (rv, _)] ⟨a, [], ha⟩ rfl rfl Jh2 (Jaq hf b) vt rfl (fun q hq => .inl (by rw [List.mem_singleton.1 hq]; exact List.mem_cons_self)) rfl ⟨Nat.zero_le _, rfl⟩ ?_ ?_ ?_
 ·rintro q Xr Xb w3 i _ _ _ s ⟨hi, rfl, p, rfl, rfl⟩ ⟨hi7, hinv⟩ Kr hKr; refine xj ?_
  rw [hdr i hi, xI] at hinv; refine Jq 2 rfl ?_; refine LN rfl fun r3 => ?_
  refine LT 0 rfl rfl ?_; refine Jw 5 rfl ?_; refine hKr _ _ ?_; refine JA ?_; clear hKr; refine JN 2 rfl ?_; refine JJ s.L [(1, .pure), (3, .pure), (6, .pure), (8, .grow (Qj (Classical.choice (Jn3 s.ok (Wa (VG i)) (vals i))) AcRes.val AcRes.L)), (9, .pure), (10, .pure), (11, .pure), (12, .grow (Vo jR (.cells #[.string ⟨#[]⟩, .int .u64 0, .int .u64 0, .int .u64 0, .int .u64 0, .int .u64 0, .string ⟨#[]⟩, .slice none 0 0] 48 (0, 0)))), (13, .turn), (14, .pure)] 15 [0, 1, 2, 3, 4, 5, 6, 7, 8, 9, 10, 11, 12, 13, 14] (by kernel_rfl) (by kernel_rfl) (fun p hp => List.mem_cons_of_mem _ (List.mem_cons_of_mem _ (List.mem_cons_of_mem _ (List.mem_cons_of_mem _ hp)))) ?_; refine Kv (k := 0) rfl rfl rfl rfl rfl (Jh (xs := s.a.cells) (n := 8) rfl (kn 1 rfl) rfl rfl rfl) ?_
  refine Jj (k := 1) rfl rfl rfl rfl rfl (fun _ hS => (J9 rfl rfl rfl)) ?_; refine Kv (k := 2) rfl rfl rfl rfl rfl (Jd rfl (kn 0 rfl) rfl rfl) ?_; refine Qp (k := 3) rfl rfl rfl rfl rfl Jtn (Jaj (qa i)) ?_; refine Kv (k := 4) rfl rfl rfl rfl rfl (Jd rfl (Or.inr (List.mem_append_left _ (List.mem_append_right _ (List.mem_cons_of_mem _ List.mem_cons_self)))) rfl rfl) ?_; refine Kv (k := 5) rfl rfl rfl rfl rfl (Jh (xs := wM p i) (n := 5) rfl (kn 0 rfl) rfl rfl rfl) ?_; refine Jj (k := 6) rfl rfl rfl rfl rfl (fun _ hS => (Jf rfl)) ?_; refine KA (k := 7) rfl rfl rfl rfl rfl egv (hgv i hi p) (fun q hq => (List.mem_append.1 hq).elim (fun h => Or.inr (List.mem_append_left _ (List.mem_append_left _ h))) (fun h => Or.inr (List.mem_append_right _ h))) ?_; refine Qd (k := 8) rfl rfl rfl rfl rfl (enters_of Tryz.func197 (by kernel_rfl) rfl) (J0f s.ok (Wa (VG i)) (vals i)) (fun q hq => (List.mem_append.1 hq).imp id (fun h => List.mem_append_right _ h)) fun x => ?_; refine Jj (k := 9) rfl rfl rfl rfl rfl (fun _ hS => (Jf rfl)) ?_; refine Jj (k := 10) rfl rfl rfl rfl rfl (fun _ hS => (JL rfl rfl)) ?_; refine Jj (k := 11) rfl rfl rfl rfl rfl (fun _ hS => (JL rfl rfl)) ?_; refine Vu (k := 12) (cs := #[_, _, _, _, _, _, _, _]) rfl rfl rfl rfl rfl rfl fun r4 => ?_; refine Qx (k := 13) (q := 0) (n := 8) (ys := x.a.cells) rfl rfl rfl rfl rfl rfl rfl rfl rfl rfl rfl (fun p hp => List.mem_cons_of_mem _ (List.mem_append_right _ (List.mem_cons_of_mem _ (List.mem_cons_of_mem _ (List.mem_cons_of_mem _ (List.mem_cons_of_mem _ hp)))))) ?_; refine Jj (k := 14) rfl rfl rfl rfl rfl (fun _ hS => (J6 rfl)) ?_; refine Km ?_; refine JK 4 rfl ?_; refine Jhw (L' := (r4, .cells x.a.cells.toArray 48 (0, 0)) :: (r3, .cells (wM p i).toArray 108 (0, 0)) :: (rb, .cells s.a.cells.toArray 48 (0, 0)) :: (r1, .cells ac0L.cells.toArray 48 (0, 0)) :: (r2, .cells #[.int .i64 0] 37 (0, 0)) :: (x.L ++ s.L)) (List.Perm.cons _ (VJ x.L [_, _, _, _] s.L)) ?_
  have hx := x.eq
  have hxe : (VZ s.a.er (Wa (VG i)) (vals i)).2 = x.err := (congrArg Prod.snd hx).symm
  have hxa : (VZ s.a.er (Wa (VG i)) (vals i)).1 = x.a.er := (congrArg Prod.fst hx).symm
  refine JN 5 rfl ?_; refine cD (fun g => ?_) fun g => ?_
  refine Jq 2 rfl ?_; refine LR rfl (Jh (xs := s.a.cells) (n := 8) rfl (kn 2 rfl) rfl rfl rfl) ?_; refine QL rfl (Jk (k := 3) (n := 8) (ys := s.a.cells) rfl rfl rfl rfl rfl rfl rfl rfl rfl ?_)
  refine LT 4 rfl rfl ?_; refine Jw 5 rfl ?_; refine Jgt (L' := (rb, .cells s.a.cells.toArray 48 (0, 0)) :: (r1, .cells s.a.cells.toArray 48 (0, 0)) :: (r2, .cells #[.int .i64 x.err] 37 (0, 0)) :: s.L) (fun _ _ h => h) (.cons _ (.cons _ (.cons_cons _ (.cons_cons _ (.cons_cons _ (List.sublist_append_right _ _)))))) ?_; exact XK (s, x.err) ⟨rfl, by rw [hinv, if_pos (by rw [hxe]; assumption)]; exact (Jn4 (by rw [hxe]; assumption)).trans (congrArg (Prod.mk s.a.er) hxe)⟩ rfl
  ·refine Jq 3 rfl ?_; refine LR rfl (Jh (xs := x.a.cells) (n := 8) rfl (kn 0 rfl) rfl rfl rfl) ?_; refine Jk (k := 2) (n := 8) (ys := x.a.cells) rfl rfl rfl rfl rfl rfl rfl rfl rfl ?_; refine Jw 2 rfl ?_; refine Jgt (L' := (rb, .cells x.a.cells.toArray 48 (0, 0)) :: (r1, .cells ac0L.cells.toArray 48 (0, 0)) :: (r2, .cells #[.int .i64 0] 37 (0, 0)) :: (x.L ++ s.L)) (fun _ _ h => h) (.cons _ (.cons _ (List.Sublist.refl _))) ?_; exact Ki (s.next x) ⟨by omega, by rw [hinv, if_neg (by rw [hxe]; simpa using ‹x.err = 0›), hxa]; rfl⟩ rfl
 rintro D i s hfi ⟨-, hinv⟩
 obtain rfl : i = 7 := hfi
 rw [hd7] at hinv; refine gqo 4 rfl ?_; refine LR rfl (Jh (xs := s.a.cells) (n := 8) rfl (kn 1 rfl) rfl rfl rfl) ?_; refine Jk (k := 2) (n := 8) (ys := s.a.cells) rfl rfl rfl rfl rfl rfl rfl rfl rfl ?_
 refine LT 3 rfl rfl ?_; refine Jw 3 rfl ?_; refine Kw (k := 0) rfl rfl ?_
 (refine Jg rfl rfl (.cons (Jy (vs := s.a.cells) rfl (kn 2 rfl) rfl rfl) (.cons (JT rfl (kn 3 rfl) rfl rfl) .nil)) (fun w1 hs1 => ?_)
  exact ⟨⟨s.a, 0, s.L, s.ok, by rw [hinv]; rfl⟩, rfl, hs1.weakL (.cons _ (.cons _ (.cons _ (.cons _ (List.sublist_append_left _ _)))))⟩)
 ·rintro D j s ⟨rfl, hst⟩
  refine Ko 3 rfl ?_; refine Kw (k := 0) rfl rfl ?_
  (refine Jg rfl rfl (.cons (Jy (vs := s.1.a.cells) rfl (kn 2 rfl) rfl rfl) (.cons (JT rfl (kn 3 rfl) rfl rfl) .nil)) (fun w1 hs1 => ?_)
   exact ⟨⟨s.1.a, s.2, s.1.L, s.1.ok, hst.symm⟩, rfl, hs1.weakL (.cons _ (.cons _ (.cons _ (.cons _ (List.sublist_append_left _ _)))))⟩)
theorem Jva {R : Ji} {a : AcL} (h : a.In R) {c : BS} (hc : c.length ≤ 512) : AcL.In R { a with code := c } := ⟨h.addr, h.nonce, h.bal, (by show c.length ≤ 9223372036854775807; omega), h.len, h.seg, h.slots⟩
theorem Jvb {R : Ji} {a : AcL} (h : a.In R) {c : BS} (hc : c.length ≤ 512) : AcL.In R { a with addr := c } := ⟨(by show c.length ≤ 9223372036854775807; omega), h.nonce, h.bal, h.code, h.len, h.seg, h.slots⟩
theorem Jyg {f : Int} {r : Rec} : (tab.map fun i => (Wa (VG i), (YC f r i).2)) = vY f r := rfl
theorem J0l {R : Ji} {f : Int} (hf : KJ f) {r : Rec} (hr : r.ok) {bf br ef er : Nat} (hbf : (bf, Obj.cells #[.int .i64 f] ef (0, 0)) ∈ R) (hbr : (br, Obj.cells r.cells.toArray er (0, 0)) ∈ R) {w : Nat} (hw : w < 2) {a : AcL} (ha : a.In R) :
  PureT (α := AcRes R (XE f w a.er r)) Tryz.prog 128 (.int .i64 (w : Int) :: a.val :: [Ql bf 0, Ql br 0]).toArray (fun x => x.val) [] (fun x => x.L) R := by
 have hin := Jva ha (Jcj f w)
 have hset := Jyf (gv := 130) (capsV := [Ql br 0]) (vals := fun i => (YC f r i).2) hin hf (enters_of Tryz.func130 (by kernel_rfl) rfl) (fun i hi p => J0k hi hr hbr)
 rw [Jyg] at hset
 have hC : XE f w a.er r = if (w : Int) = 1 then ({ a.er with code := (KE f w).1 }, 0) else Q7 { a.er with code := (KE f w).1 } (vY f r) := by
  unfold XE
  by_cases h : (w : Int) = 1
  rw [if_pos h, if_pos h, h]
  rw [if_neg h, if_neg h]
 rw [hC]; clear hC; refine Ju Tryz.func128 rfl rfl fun w => ?_; refine JA ?_; refine Jq 2 rfl ?_; refine Kh (cs := a.cells.toArray) rfl rfl rfl rfl fun rb => ?_; refine LN rfl fun r1 => ?_; refine JG 5 rfl ?_; refine LR rfl (Jd rfl (Or.inr hbf) rfl rfl) ?_; refine QL rfl (Jn rfl rfl rfl Jxk (Jqv hf hw) (LS 4 [] rfl rfl ?_))
 refine LT 1 rfl rfl ?_; refine JK 9 rfl ?_; refine cD (fun g => ?_) fun g => ?_
 refine Jq 2 rfl ?_; refine LR rfl (Jo (vs := [_, _, _, _, _, _, _, _]) rfl (kn 1 rfl) rfl rfl rfl rfl) ?_
 refine LT 0 rfl rfl ?_; refine Jw 5 rfl ?_; refine Jg rfl rfl (.cons (Jy (vs := [_, _, _, _, _, _, _, _]) rfl (kn 0 rfl) rfl rfl) (.cons (Jl rfl) .nil)) (fun w1 hs1 => ?_)
 (rw [if_pos (by omega)]
  exact ⟨⟨{ a with code := (KE f _).1 }, 0, [], hin, rfl⟩, rfl, hs1.weakL (List.nil_sublist _)⟩)
 ·refine Jq 4 rfl ?_; refine LR rfl (Jd rfl (Or.inr hbf) rfl rfl) ?_; refine LR rfl (Jo (vs := [_, _, _, _, _, _, _, _]) rfl (kn 1 rfl) rfl rfl rfl rfl) ?_; refine LR rfl (JC rfl rfl) ?_; refine Kz rfl rfl rfl (enters_of Tryz.func129 (by kernel_rfl) rfl) hset oR fun x => ?_; refine Kx List.perm_append_comm ?_; change HL _ _ ((21, .tuple #[x.a.val, .int .i64 x.err]) :: _) ((r1, _) :: (rb, _) :: x.L) _ _ _ _; refine LS 2 [] rfl rfl ?_; refine Jk (k := 0) (n := 8) (ys := x.a.cells) rfl rfl rfl rfl rfl rfl rfl rfl rfl ?_; refine Jw 4 rfl ?_; refine Jg rfl rfl (.cons (Jy (vs := [_, _, _, _, _, _, _, _]) rfl (kn 0 rfl) rfl rfl) (.cons (Jl rfl) .nil)) (fun w1 hs1 => ?_)
  (rw [if_neg (by omega)]
   exact ⟨x, rfl, hs1.weakL (List.sublist_append_right [_, _] _)⟩)
theorem Jqx {R : Ji} {s : StL} (hs : s.In R) {f : Int} (hf : KJ f) {gd : FuncId} {capsd : List Value} {go : Int → AcE → AcE × Int} (egd : Enters Tryz.prog gd)
  (hdo : ∀ w : Nat, w < 2 → ∀ (a : AcL) (R' : Ji), (∀ q ∈ R, q ∈ R') → a.In R' → PureT (α := AcRes R' (go w a.er)) Tryz.prog gd (.int .i64 (w : Int) :: a.val :: capsd).toArray (fun x => x.val) [] (fun x => x.L) R') :
  PureT (α := StRes R (Ze f s.er go)) Tryz.prog 127 [.int .i64 f, s.val, .func (.func gd) #[] capsd.toArray].toArray (fun x => x.val) [] (fun x => x.L) R := by
 obtain ⟨res, hres⟩ : ∃ res, res = Ze f s.er go := ⟨_, rfl⟩
 rw [← hres]; refine Ju Tryz.func127 rfl rfl fun w => ?_; refine JA ?_; refine Jq 2 rfl ?_; refine Kh (cs := s.cells.toArray) rfl rfl rfl rfl fun rb => ?_; refine LN rfl fun r1 => ?_; refine JG 5 rfl ?_; refine LR rfl (Jo (vs := [_]) rfl (kn 1 rfl) rfl rfl rfl rfl) ?_; refine LN rfl fun r2 => ?_
 refine LT 0 rfl rfl ?_; refine JK 9 rfl ?_; refine J0 (σ := Nat × StSt R) (fun q => q.1 ≤ 2 ∧ VI f s.er go (([0, 1] : List Int).drop q.1) q.2.s.er = res) (fun q => [(0, .int .i64 f), (2, .func (.func gd) #[] capsd.toArray), (4, Ql rb 0), (6, Ql r1 0), (8, Ql r2 0), (17, .int .i64 (q.1 : Int))]) (fun q => (r2, .cells q.2.s.cells.toArray 36 (0, 0)) :: (r1, .cells st0L.cells.toArray 36 (0, 0)) :: (rb, .cells s.cells.toArray 36 (0, 0)) :: q.2.L) (fun _ _ _ => True) (fun q => 2 - q.1) (0, ⟨s, [], hs⟩) ⟨Nat.zero_le _, hres.symm⟩ (lK rfl) (List.Sublist.refl _) (fun _ _ h => h) ?_; rintro ⟨i, t⟩ ⟨hi2, hinv⟩; simp only at hi2 hinv; change HC _ _ [(0, _), (2, _), (4, _), (6, _), (8, _), (17, .int .i64 (i : Int))] ((r2, .cells t.s.cells.toArray _ (0, 0)) :: (r1, _) :: (rb, _) :: t.L) _ _ _; refine JN 6 rfl ?_; refine cD (fun g => ?_) fun g => ?_
 ·refine JN 12 rfl ?_
  have hi : i < 2 := by omega
  rw [Jcw hi, xJ] at hinv; refine Jq 3 rfl ?_; refine Jn rfl rfl rfl Jxk (Jqv hf hi) ?_; refine JK 13 rfl ?_; refine cD (fun g => ?_) fun g => ?_
  refine Jq 6 rfl ?_; refine Jc (by omega) (by omega) ?_; refine Jw 2 rfl ?_; refine Jx ?_
  (rw [if_pos (by simp_all)] at hinv
   exact Jt (i + 1, t) ⟨by simp only; omega, hinv⟩ (by simp only; omega) (lK rfl) (List.Sublist.refl _) (fun _ _ h => h))
  ·refine JN 3 rfl ?_; rw [if_neg (by simp_all)] at hinv
   refine JJ [] [(1, .pure), (2, .pure), (4, .pure), (5, .pure), (6, .pure), (7, .grow (Vo jR (.cells #[.string ⟨#[]⟩, .int .u64 0, .int .u64 0, .int .u64 0, .int .u64 0, .int .u64 0, .string ⟨#[]⟩, .slice none 0 0] 48 (0, 0)))), (8, .turn), (9, .pure)] 10 [0, 1, 2, 3, 4, 5, 6, 7, 8, 9] (by kernel_rfl) (by kernel_rfl) (by first | exact (fun _ h => absurd h List.not_mem_nil) | simp [SubS] | (intro p hp; simp [hp])) ?_; refine Kv (k := 0) rfl rfl rfl rfl rfl (Jh (xs := t.s.cells) (n := 1) rfl (kn 0 rfl) rfl rfl rfl) ?_; refine Jj (k := 1) rfl rfl rfl rfl rfl (fun _ hS => (Jf rfl)) ?_; refine Qp (k := 2) rfl rfl rfl rfl rfl Jcz (wJ i) ?_; refine KA (k := 3) rfl rfl rfl rfl rfl Jkz (qg t.ok (Qi i)) (fun q hq => (List.mem_append.1 hq).elim (fun h => Or.inl (List.mem_cons_of_mem _ (List.mem_cons_of_mem _ (List.mem_cons_of_mem _ h)))) Or.inr) ?_; refine Jj (k := 4) rfl rfl rfl rfl rfl (fun _ hS => (Jf rfl)) ?_; refine Jj (k := 5) rfl rfl rfl rfl rfl (fun _ hS => (JL rfl rfl)) ?_; refine Jj (k := 6) rfl rfl rfl rfl rfl (fun _ hS => (JL rfl rfl)) ?_; refine Vu (k := 7) (cs := #[_, _, _, _, _, _, _, _]) rfl rfl rfl rfl rfl rfl fun r3 => ?_; refine Qx (k := 8) (q := 0) (n := 8) (ys := (JW t.s (Qi i)).cells) rfl rfl rfl rfl rfl rfl rfl rfl rfl rfl rfl (fun _ h => nomatch h) ?_; refine Jj (k := 9) rfl rfl rfl rfl rfl (fun _ hS => (J6 rfl)) ?_; refine Km ?_; refine JG 5 rfl ?_; refine Jn rfl rfl rfl Jcz (wJ i) ?_; refine LS 1 [] rfl rfl ?_
   refine LT 0 rfl rfl ?_; refine Xa 7 [0] rfl rfl ?_; refine Kz rfl rfl rfl egd (hdo i hi { JW t.s (Qi i) with addr := Qi i } (t.L ++ R) (fun q hq => List.mem_append_right _ hq) (Jvb (Zh t.ok (Qi i)) (Jn6 i))) (fun q hq => (List.mem_append.1 hq).elim (fun h => Or.inl (List.mem_cons_of_mem _ (List.mem_cons_of_mem _ (List.mem_cons_of_mem _ (List.mem_cons_of_mem _ h))))) Or.inr) fun x => ?_; refine Kx (VJ x.L [_, _, _, _] t.L) ?_; change HL _ _ ((42, .tuple #[x.a.val, .int .i64 x.err]) :: _) ((r3, _) :: (r2, _) :: (r1, _) :: (rb, _) :: (x.L ++ t.L)) _ _ _ _
   have hxe : (go i (QN t.s.er i)).2 = x.err := by rw [← Jn5]; exact (congrArg Prod.snd x.eq).symm
   have hxa : (go i (QN t.s.er i)).1 = x.a.er := by rw [← Jn5]; exact (congrArg Prod.fst x.eq).symm
   rw [hxe, hxa] at hinv; refine LS 3 [] rfl rfl ?_; refine LN rfl fun r4 => ?_; refine Jk (k := 0) (n := 8) (ys := x.a.cells) rfl rfl rfl rfl rfl rfl rfl rfl rfl ?_; refine JK 10 rfl ?_; refine cD (fun g => ?_) fun g => ?_
   ·refine Jq 1 rfl ?_; refine LR rfl (Jh (xs := t.s.cells) (n := 1) rfl (kn 2 rfl) rfl rfl rfl) ?_; refine LR rfl (Jh (xs := x.a.cells) (n := 8) rfl (kn 0 rfl) rfl rfl rfl) ?_; refine Kz rfl rfl rfl (enters_of Tryz.func196 (by kernel_rfl) rfl) (J0g (R := x.L ++ (t.L ++ R)) (t.ok.mono fun q hq => List.mem_append_right _ hq) x.ok) (fun q hq => (List.mem_append.1 hq).elim (fun h => Or.inl (List.mem_cons_of_mem _ (List.mem_cons_of_mem _ (List.mem_cons_of_mem _ (List.mem_cons_of_mem _ (List.mem_cons_of_mem _ (List.mem_append_left _ h))))))) fun hq => (List.mem_append.1 hq).elim (fun h => Or.inl (List.mem_cons_of_mem _ (List.mem_cons_of_mem _ (List.mem_cons_of_mem _ (List.mem_cons_of_mem _ (List.mem_cons_of_mem _ (List.mem_append_right _ h))))))) Or.inr) fun y => ?_; refine Kx (VJ y.L [_, _, _, _, _] (x.L ++ t.L)) ?_; change HL _ _ ((50, .tuple #[y.s.val, .int .i64 y.err]) :: _) ((r4, _) :: (r3, _) :: (r2, _) :: (r1, _) :: (rb, _) :: (y.L ++ (x.L ++ t.L))) _ _ _ _
    have hye : (jY t.s.er x.a.er).2 = y.err := (congrArg Prod.snd y.eq).symm
    have hys : (jY t.s.er x.a.er).1 = y.s.er := (congrArg Prod.fst y.eq).symm
    rw [hye, hys] at hinv; refine LS 3 [] rfl rfl ?_; refine Jk (k := 2) (n := 1) (ys := y.s.cells) rfl rfl rfl rfl rfl rfl rfl rfl rfl ?_; refine JK 9 rfl ?_; refine cD (fun g => ?_) fun g => ?_
    refine Jq 2 rfl ?_; refine LR rfl (Jh (xs := s.cells) (n := 1) rfl (kn 4 rfl) rfl rfl rfl) ?_; refine QL rfl (Jk (k := 3) (n := 1) (ys := s.cells) rfl rfl rfl rfl rfl rfl rfl rfl rfl (Jw 9 rfl ?_)); refine Jg rfl rfl (.cons (Jy (vs := [_]) rfl (kn 3 rfl) rfl rfl) (.cons (Jl rfl) .nil)) (fun w1 hs1 => ?_)
    (rw [if_neg (show ¬ (x.err ≠ 0) by omega), if_pos (show y.err ≠ 0 by omega)] at hinv
     exact ⟨⟨s, y.err, [], hs, hinv⟩, rfl, hs1.weakL (List.nil_sublist _)⟩)
    ·refine Jq 5 rfl ?_; refine Jc (by omega) (by omega) ?_; refine Jw 2 rfl ?_; refine Jx ?_
     (rw [if_neg (show ¬ (x.err ≠ 0) by omega), if_neg (show ¬ (y.err ≠ 0) by omega)] at hinv
      exact Jt (i + 1, t.next y) ⟨by simp only; omega, hinv⟩ (by simp only; omega) (lK rfl) (.cons _ (.cons _ (List.Sublist.refl _))) (fun _ _ h => h))
   refine JN 8 rfl ?_; refine cD (fun g => ?_) fun g => ?_
   refine Jq 2 rfl ?_; refine LR rfl (Jh (xs := s.cells) (n := 1) rfl (kn 4 rfl) rfl rfl rfl) ?_; refine QL rfl (Jk (k := 3) (n := 1) (ys := s.cells) rfl rfl rfl rfl rfl rfl rfl rfl rfl (Jw 9 rfl ?_)); refine Jg rfl rfl (.cons (Jy (vs := [_]) rfl (kn 3 rfl) rfl rfl) (.cons (Jl rfl) .nil)) (fun w1 hs1 => ?_)
   (rw [if_pos (show x.err ≠ 0 by omega)] at hinv
    exact ⟨⟨s, x.err, [], hs, hinv⟩, rfl, hs1.weakL (List.nil_sublist _)⟩)
   refine Jq 5 rfl ?_; refine Jc (by omega) (by omega) ?_; refine Jw 2 rfl ?_; refine Jx ?_
   exfalso; omega
 ·refine Jq 7 rfl ?_; refine LR rfl (Jh (xs := t.s.cells) (n := 1) rfl (kn 0 rfl) rfl rfl rfl) ?_; refine Jk (k := 1) (n := 1) (ys := t.s.cells) rfl rfl rfl rfl rfl rfl rfl rfl rfl ?_; refine Jw 4 rfl ?_; refine Jg rfl rfl (.cons (Jy (vs := [_]) rfl (kn 1 rfl) rfl rfl) (.cons (Jl rfl) .nil)) (fun w1 hs1 => ?_)
  (obtain rfl : i = 2 := by omega
   exact ⟨⟨t.s, 0, t.L, t.ok, hinv⟩, rfl, hs1.weakL (.cons _ (.cons _ (.cons _ (List.Sublist.refl _))))⟩)
theorem Jvc {R : Ji} (f : Int) {s : StL} (hs : s.In R) {r : Rec} (hr : r.ok) : PureT (α := StRes R (QJ f s.er r)) Tryz.prog 81 [.int .i64 f, s.val, r.val].toArray (fun x => x.val) [] (fun x => x.L) R := by
 have hc := Yc hs
 obtain ⟨res, hres⟩ : ∃ res, res = Ze f s.er fun w a => XE f w a r := ⟨_, rfl⟩
 have hwr : QJ f s.er r = if Wv f r ≠ 0 then (s.er, Wv f r) else if KR s.er ≠ 0 then (s.er, KR s.er) else res := by rw [hres]; rfl
 rw [hwr]; refine Ju Tryz.func81 rfl rfl fun w => ?_; refine JA ?_; refine Jq 2 rfl ?_; refine LN rfl fun r1 => ?_; refine Kh (cs := s.cells.toArray) rfl rfl rfl rfl fun rs => ?_; refine Kh (cs := r.cells.toArray) rfl rfl rfl rfl fun rr => ?_; refine LN rfl fun r2 => ?_; refine JG 6 rfl ?_; refine LR rfl (Jd rfl (kn 3 rfl) rfl rfl) ?_; refine LR rfl (Jh (xs := r.cells) (n := 17) rfl (kn 1 rfl) rfl rfl rfl) ?_; refine Jn rfl rfl rfl (enters_of Tryz.func63 (by kernel_rfl) rfl) (Jye f r) ?_; refine JK 9 rfl ?_; refine cD (fun g => ?_) fun g => ?_
 refine Xs 4 [2] rfl rfl ?_
 refine LT 0 rfl rfl ?_; refine Jw 5 rfl ?_; refine Jg rfl rfl (.cons (Jy (vs := [_]) rfl (kn 0 rfl) rfl rfl) (.cons (Jl rfl) .nil)) (fun w1 hs1 => ?_); rw [if_pos (by omega)]; exact ⟨⟨s, Wv f r, [], hs, rfl⟩, rfl, hs1.weakL (List.nil_sublist _)⟩
 ·refine Jq 5 rfl ?_; refine LR rfl (Jo (vs := [_]) rfl (kn 2 rfl) rfl rfl rfl rfl) ?_; refine Je rfl rfl rfl Jof hc oR ?_; refine JK 9 rfl ?_; refine cD (fun g => ?_) fun g => ?_
  refine Xs 4 [2] rfl rfl ?_
  refine LT 0 rfl rfl ?_; refine Jw 5 rfl ?_; refine Jg rfl rfl (.cons (Jy (vs := [_]) rfl (kn 0 rfl) rfl rfl) (.cons (Jl rfl) .nil)) (fun w1 hs1 => ?_); rw [if_neg (by omega), if_pos (by omega)]; exact ⟨⟨s, KR s.er, [], hs, rfl⟩, rfl, hs1.weakL (List.nil_sublist _)⟩
  ·refine JN 3 rfl ?_
   have hf : KJ f := (Jhq (show Wv f r = 0 by omega)).1
   have hch := Jqx (R := (rr, Obj.cells r.cells.toArray 29 (0, 0)) :: (r1, Obj.cells #[.int .i64 f] 3 (0, 0)) :: R) (hs.mono fun q hq => List.mem_cons_of_mem _ (List.mem_cons_of_mem _ hq)) hf (gd := 128) (capsd := [Ql r1 0, Ql rr 0]) (go := fun w a => XE f w a r) (enters_of Tryz.func128 (by kernel_rfl) rfl) (fun w hw a R2 hR2 ha => J0l hf hr (hR2 _ (List.mem_cons_of_mem _ List.mem_cons_self)) (hR2 _ List.mem_cons_self) hw ha)
   refine Xs 3 [3, 2] rfl rfl ?_; refine LR rfl (JC rfl rfl) ?_
   refine Kz (Rl := (rr, Obj.cells r.cells.toArray 29 (0, 0)) :: (r1, Obj.cells #[.int .i64 f] 3 (0, 0)) :: R) rfl rfl rfl (enters_of Tryz.func127 (by kernel_rfl) rfl) hch (fun q hq => by
    rcases List.mem_cons.1 hq with rfl | hq
    exact Or.inl (by simp)
    rcases List.mem_cons.1 hq with rfl | hq
    exact Or.inl (by simp)
    exact Or.inr hq) fun x => ?_
   refine Kx List.perm_append_comm ?_; change HL _ _ ((26, .tuple #[x.s.val, .int .i64 x.err]) :: _) ((r2, _) :: (rr, _) :: (rs, _) :: (r1, _) :: x.L) _ _ _ _; refine LS 2 [] rfl rfl ?_; refine Jk (k := 0) (n := 1) (ys := x.s.cells) rfl rfl rfl rfl rfl rfl rfl rfl rfl ?_; refine Jw 4 rfl ?_; refine Jg rfl rfl (.cons (Jy (vs := [_]) rfl (kn 0 rfl) rfl rfl) (.cons (Jl rfl) .nil)) (fun w1 hs1 => ?_)
   (rw [if_neg (by omega), if_neg (by omega), hres]
    exact ⟨⟨x.s, x.err, x.L ++ [(rr, Obj.cells r.cells.toArray 29 (0, 0)), (r1, Obj.cells #[.int .i64 f] 3 (0, 0))], x.ok.mono fun q hq => by simp only [List.mem_append, List.mem_cons, List.not_mem_nil, or_false] at hq ⊢; rcases hq with h | h | h | h <;> simp [h], x.eq⟩, rfl, (hs1.perm (L' := x.L ++ [_, _, _, _]) (List.perm_append_comm (l₁ := [_, _, _, _]))).weakL ((List.Sublist.refl _).append (.cons _ (.cons_cons _ (.cons _ (List.Sublist.refl _)))))⟩)
theorem Jvd {R : Ji} (f : Int) {s : StL} (hs : s.In R) : PureR Tryz.prog 24 [.int .i64 f, s.val].toArray (.tuple #[(ju f s.er).1.val, .int .i64 (ju f s.er).2]) R := by
 have hc := Jd4 f hs
 have hA := Zh hs A0
 have hrs : ju f s.er = if Wb f s.er ≠ 0 then (rec0, Wb f s.er) else (VH f (JW s A0).er, 0) := by rw [Zg]; rfl
 rw [hrs]; refine Ja Tryz.func24 rfl rfl fun w => ?_; refine JA ?_; refine Jq 2 rfl ?_; refine Kh (cs := s.cells.toArray) rfl rfl rfl rfl fun rs => ?_; refine LN rfl fun r1 => ?_; refine Xa 8 [1] rfl rfl ?_; refine Je rfl rfl rfl (enters_of Tryz.func25 (by kernel_rfl) rfl) hc oR ?_; refine JK 9 rfl ?_; refine cD (fun g => ?_) fun g => ?_
 refine Jq 2 rfl ?_; refine LR rfl (Js (r := [_, _, _, _, _, _, _, _, _, _, _, _, _, _, _, _, _]) rfl rfl) ?_; refine QL rfl ?_
 refine LT 0 rfl rfl ?_; refine Jw 5 rfl ?_; refine Jg rfl rfl (.cons (Jy (vs := [_, _, _, _, _, _, _, _, _, _, _, _, _, _, _, _, _]) rfl (kn 0 rfl) rfl rfl) (.cons (Jl rfl) .nil)) (fun w1 hs1 => ?_); rw [if_pos (by omega)]; exact ⟨rfl, hs1.keep⟩
 ·refine JN 3 rfl ?_
  have hrd := Jqu (f := f) (by
   obtain ⟨a, ha⟩ := wa.1 (show Wb f s.er = 0 by omega)
   exact ha.forked) hA
  refine JJ [] [(1, .pure), (3, .pure), (4, .pure), (5, .pure), (6, .grow (Vo jR (.cells #[.string ⟨#[]⟩, .int .u64 0, .int .u64 0, .int .u64 0, .int .u64 0, .int .u64 0, .string ⟨#[]⟩, .slice none 0 0] 48 (0, 0)))), (7, .turn), (8, .pure)] 9 [0, 1, 2, 3, 4, 5, 6, 7, 8] (by kernel_rfl) (by kernel_rfl) (by first | exact (fun _ h => absurd h List.not_mem_nil) | simp [SubS] | (intro p hp; simp [hp])) ?_; refine Kv (k := 0) rfl rfl rfl rfl rfl (Jo (vs := [_]) rfl (kn 1 rfl) rfl rfl rfl rfl) ?_; refine Qp (k := 1) rfl rfl rfl rfl rfl Jcz (wJ 0) ?_; refine KA (k := 2) rfl rfl rfl rfl rfl Jkz (qg hs A0) oR ?_; refine Jj (k := 3) rfl rfl rfl rfl rfl (fun _ hS => (Jf rfl)) ?_; refine Jj (k := 4) rfl rfl rfl rfl rfl (fun _ hS => (JL rfl rfl)) ?_; refine Jj (k := 5) rfl rfl rfl rfl rfl (fun _ hS => (JL rfl rfl)) ?_; refine Vu (k := 6) (cs := #[_, _, _, _, _, _, _, _]) rfl rfl rfl rfl rfl rfl fun r2 => ?_; refine Qx (k := 7) (q := 0) (n := 8) (ys := (JW s A0).cells) rfl rfl rfl rfl rfl rfl rfl rfl rfl rfl rfl (fun _ h => nomatch h) ?_; refine Jj (k := 8) rfl rfl rfl rfl rfl (fun _ hS => (J6 rfl)) ?_; refine Km ?_; refine JG 5 rfl ?_; refine LR rfl (Jh (xs := (JW s A0).cells) (n := 8) rfl (kn 0 rfl) rfl rfl rfl) ?_; refine Je rfl rfl rfl (enters_of Tryz.func54 (by kernel_rfl) rfl) hrd oR ?_; refine Jk (k := 1) (n := 17) (ys := (VH f (JW s A0).er).cells) rfl rfl rfl rfl rfl rfl rfl rfl rfl ?_; refine Jw 4 rfl ?_; refine Jg rfl rfl (.cons (Jy (vs := [_, _, _, _, _, _, _, _, _, _, _, _, _, _, _, _, _]) rfl (kn 1 rfl) rfl rfl) (.cons (Jl rfl) .nil)) (fun w1 hs1 => ?_); rw [if_neg (by omega)]; exact ⟨rfl, hs1.keep⟩
def XH (a : AcE) : Bool := !((decide (100 < a.addr.length) || (decide (60 < a.code.length) && decide (a.code.length ≤ 512))) || decide (20 < a.slots.length)) && a.slots.all fun x => !(decide (100 < x.1.length) || decide (100 < x.2.length))
def Zu : Nat → Int → List AcE → Bool × Int
 | _, n, [] => (true, n)
 | i, n, a :: l => if 40 < i then (true, n) else if XH a = false then (false, n) else Zu (i + 1) (n + (a.slots.length : Int)) l
def ZI (s : List AcE) : Bool := (Zu 0 0 s).1 && (decide (s.length ≤ 40) && decide ((Zu 0 0 s).2 ≤ 40))
theorem Jve {a : AcE} {i : Nat} {x : BS × BS} (hx : a.slots[i]? = some x) (h : x.1.length > 100 ∨ x.2.length > 100) : XH a = false := by
 unfold XH
 have : (a.slots.all fun x => !(decide (100 < x.1.length) || decide (100 < x.2.length))) = false := by
  rw [List.all_eq_false]
  exact ⟨x, List.mem_of_getElem? hx, by rcases h with h | h <;> simp [h]⟩
 rw [this, Bool.and_false]
theorem Jvf {a : AcE} (h : XH a = true) : a.slots.length ≤ 20 := by
 unfold XH at h
 simp only [Bool.and_eq_true, Bool.not_eq_true', Bool.or_eq_false_iff, decide_eq_false_iff_not] at h; omega
theorem Jqy {i : Nat} {n : Int} {s : List AcE} {a : AcE} (h : s[i]? = some a) (hi : i ≤ 40) (hf : XH a = true) : Zu i n (s.drop i) = Zu (i + 1) (n + (a.slots.length : Int)) (s.drop (i + 1)) := by
 obtain ⟨hlt, e⟩ := List.getElem?_eq_some_iff.1 h
 rw [List.drop_eq_getElem_cons hlt, e]
 unfold Zu
 rw [if_neg (by omega), if_neg (by rw [hf]; simp)]
 cases s.drop (i + 1) <;> rfl
theorem Jqz {i : Nat} {n : Int} {s : List AcE} (h : 40 < i ∨ s.length ≤ i) : Zu i n (s.drop i) = (true, n) := by
 rcases h with h | h
 ·cases s.drop i with
  | nil => rfl
  | cons a l => unfold Zu; rw [if_pos h]
 ·rw [List.drop_of_length_le h]; rfl
theorem Jq0 {i : Nat} {n : Int} {s : List AcE} {a : AcE} (h : s[i]? = some a) (hi : i ≤ 40) (hf : XH a = false) : (Zu i n (s.drop i)).1 = false := by
 obtain ⟨hlt, e⟩ := List.getElem?_eq_some_iff.1 h
 rw [List.drop_eq_getElem_cons hlt, e]
 unfold Zu
 rw [if_neg (by omega), if_pos hf]
theorem Jlo {R : Ji} {a : AcL} (ha : a.In R) : PureR Tryz.prog 69 [a.val].toArray (.bool (XH a.er)) R := by
  have hl := ha.len
  have hseg := ha.seg
  obtain ⟨res, hres⟩ : ∃ b, b = XH a.er := ⟨_, rfl⟩
  rw [← hres]
  have h1 : (100 < (a.addr.length : Int) ∨ (60 < (a.code.length : Int) ∧ (a.code.length : Int) ≤ 512) ∨ 20 < (a.slots.length : Int)) → res = false := fun h => by
    rw [hres]; unfold XH
    have : ((decide (100 < a.addr.length) || (decide (60 < a.code.length) && decide (a.code.length ≤ 512))) || decide (20 < a.slots.length)) = true := by
      simp only [Bool.or_eq_true, Bool.and_eq_true, decide_eq_true_eq]; omega
    show (!((decide (100 < a.addr.length) || (decide (60 < a.code.length) && decide (a.code.length ≤ 512))) || decide (20 < a.slots.length)) && _) = false
    rw [this]; rfl
  have h2 : ¬ (100 < (a.addr.length : Int) ∨ (60 < (a.code.length : Int) ∧ (a.code.length : Int) ≤ 512) ∨ 20 < (a.slots.length : Int)) → (∀ (j : Nat) (x : BS × BS), a.slots[j]? = some x → x.1.length ≤ 100 ∧ x.2.length ≤ 100) → res = true := fun h h' => by
    rw [hres]; unfold XH
    have e : ((decide (100 < a.addr.length) || (decide (60 < a.code.length) && decide (a.code.length ≤ 512))) || decide (20 < a.slots.length)) = false := by
      simp only [Bool.or_eq_false_iff, Bool.and_eq_false_iff, decide_eq_false_iff_not]; omega
    show (!((decide (100 < a.addr.length) || (decide (60 < a.code.length) && decide (a.code.length ≤ 512))) || decide (20 < a.slots.length)) && _) = true
    rw [e]; simp only [Bool.not_false, Bool.true_and, List.all_eq_true]; intro x hx
    obtain ⟨j, hj⟩ := List.getElem?_of_mem hx
    obtain ⟨g1, g2⟩ := h' j x hj
    simp; omega
  refine Ja Tryz.func69 rfl rfl fun w => ?_; refine JA ?_; refine Jq 2 rfl ?_; refine Kh (cs := a.cells.toArray) rfl rfl rfl rfl fun r1 => ?_; refine Xa 8 [0] rfl rfl ?_; refine LR rfl (Qh rfl rfl) ?_; refine LS 2 [] rfl rfl ?_
  refine J8 8 rfl (fun gb => ?_) (fun gb => ?_) <;> (try simp only [ZZ] at gb) <;> first | (refine LR rfl (J9 rfl rfl rfl) ?_) | (refine LK rfl ?_)
  all_goals refine LW 1 [0] rfl rfl ?_
  all_goals first | refine LR rfl (Qh rfl rfl) ?_ | refine LK rfl ?_
  all_goals refine LW 2 [] rfl rfl ?_
  all_goals first | refine LK rfl ?_ | (refine J8 13 rfl (fun gb => ?_) (fun gb => ?_) <;> (try simp only [ZZ] at gb) <;> first | (refine LR rfl (J9 rfl rfl rfl) ?_) | (refine LK rfl ?_))
  all_goals refine LW 1 [0] rfl rfl ?_
  all_goals first | refine LR rfl (Qh rfl rfl) ?_ | refine LK rfl ?_
  all_goals refine LW 4 [] rfl rfl ?_
  all_goals first | refine LR rfl (J9 rfl rfl rfl) ?_ | refine LK rfl ?_ | (refine J8 20 rfl (fun gb => ?_) (fun gb => ?_) <;> (try simp only [ZZ] at gb) <;> first | (refine LR rfl (J9 rfl rfl rfl) ?_) | (refine LK rfl ?_))
  all_goals refine LW 1 [0] rfl rfl ?_
  all_goals first | refine LR rfl (J1 rfl hseg rfl) ?_ | refine LK rfl ?_
  all_goals (
   refine LW 2 [] rfl rfl (Jw 1 rfl (Y6 1 rfl ?_)); refine Jz rfl (fun g => ?_) (fun g => ?_)
   try simp only [ZZ] at g
   refine Ko 7 rfl ?_; refine pT rfl rfl rfl fun w1 hs1 => ?_; rw [h1 (by omega)]; exact ⟨rfl, hs1.keep⟩
   · try exact Bool.noConfusion g
     all_goals try simp only [ZZ] at g
     all_goals (
      refine JN 9 rfl ?_
      have h0 : ¬ (100 < (a.addr.length : Int) ∨ (60 < (a.code.length : Int) ∧ (a.code.length : Int) ≤ 512) ∨ 20 < (a.slots.length : Int)) := by
        simp_all
        all_goals first | done | omega | trace_state
      refine J0 (σ := Nat) (fun i => i ≤ a.slots.length ∧ ∀ (j : Nat) (x : BS × BS), j < i → a.slots[j]? = some x → x.1.length ≤ 100 ∧ x.2.length ≤ 100) (fun i => [(1, .pointer (some ⟨r1, 0, none⟩)), (3, .int .i64 (i : Int))]) (fun _ => [(r1, .cells a.cells.toArray 48 (0, 0))]) (fun _ _ _ => True) (fun i => a.slots.length - i) 0 ⟨Nat.zero_le _, fun _ _ h => absurd h (Nat.not_lt_zero _)⟩ (lK rfl) (List.Sublist.refl _) (fun _ _ h => h) ?_; rintro i ⟨hi1, hinv⟩; refine Xs 6 [0] rfl rfl ?_; refine LR rfl (J1 rfl hseg rfl) ?_; refine JK 3 rfl ?_; refine cD (fun g => ?_) fun g => ?_
      · refine JN 5 rfl ?_
        obtain ⟨x, hx, hmx⟩ := Q4 (show i < a.slots.length by omega)
        have hxl := ha.slots x hmx
        refine Xs 4 [0] rfl rfl ?_
        refine LR rfl (Jp (j := i) rfl hseg rfl rfl rfl (by first | rfl | omega) (by omega)) ?_; refine LR rfl (KM (off' := jT a.p + (i * 2 + 0)) rfl rfl (by show jT a.p + i * 2 + 0 = _; omega)) ?_; refine LR rfl (Wu Kf (k := 0) (v := J4 x.1) oR rfl hseg hx rfl rfl) ?_; refine LR rfl (Qh rfl rfl) ?_; refine LS 2 [] rfl rfl ?_
        refine J8 41 rfl (fun gb => ?_) (fun gb => ?_) <;> (try simp only [ZZ] at gb) <;> first | (refine LR rfl (J9 rfl rfl rfl) ?_) | (refine LK rfl ?_)
        all_goals refine LW 2 [0] rfl rfl ?_
        all_goals first | (refine LR rfl (Jp (j := i) rfl hseg rfl rfl rfl (by first | rfl | omega) (by omega)) ?_) | refine LK rfl ?_
        all_goals first | (refine LR rfl (KM (off' := jT a.p + (i * 2 + 1)) rfl rfl (by show jT a.p + i * 2 + 1 = _; omega)) ?_) | refine LK rfl ?_
        all_goals first | refine LR rfl (Wu Kf (k := 1) (v := J4 x.2) oR rfl hseg hx rfl rfl) ?_ | refine LK rfl ?_
        all_goals first | refine LR rfl (Qh rfl rfl) ?_ | refine LK rfl ?_
        all_goals (
         refine LW 2 [] rfl rfl (Jw 1 rfl (Y6 1 rfl ?_)); refine Jz rfl (fun g => ?_) (fun g => ?_)
         try simp only [ZZ] at g
         refine Ko 11 rfl ?_; refine pT rfl rfl rfl fun w1 hs1 => ?_; rw [hres, Jve hx (by omega)]; exact ⟨rfl, hs1.keep⟩
         · try exact Bool.noConfusion g
           all_goals try simp only [ZZ] at g
           all_goals (
            refine Jq 6 rfl ?_; refine Jc (by omega) (by omega) ?_; refine Jw 2 rfl ?_; refine Jx ?_
            exact Jt (i + 1) ⟨by omega, fun j y hj hy => by
              rcases Nat.lt_succ_iff_lt_or_eq.1 hj with h | rfl
              exact hinv j y h hy
              · obtain rfl := Option.some.inj (hx.symm.trans hy); simp_all; all_goals first | done | omega | trace_state⟩ (by omega) (lK rfl) (List.Sublist.refl _) (fun _ _ h => h)
            skip)
         skip)
      refine Ko 11 rfl ?_; refine pT rfl rfl rfl fun w1 hs1 => ?_; rw [h2 h0 (fun j y hy => hinv j y (by have := (List.getElem?_eq_some_iff.1 hy).1; omega) hy)]; exact ⟨rfl, hs1.keep⟩
      skip)
   skip)
theorem Jvg {R : Ji} {s : StL} (hs : s.In R) : PureR Tryz.prog 29 [s.val].toArray (.bool (ZI s.er)) R := by
  have hl := hs.len
  have hseg := hs.seg
  obtain ⟨⟨rb, rn⟩, hres⟩ : ∃ b, b = Zu 0 0 s.er := ⟨_, rfl⟩
  have hfs : ZI s.er = (rb && (decide (s.accts.length ≤ 40) && decide (rn ≤ 40))) := by unfold ZI; rw [← hres, s.er_len]
  rw [hfs]; refine Ja Tryz.func29 rfl rfl fun w => ?_; refine JA ?_; refine Jq 2 rfl ?_; refine Kh (cs := s.cells.toArray) rfl rfl rfl rfl fun r1 => ?_; refine JK 15 rfl ?_; refine J0 (σ := Nat × Int) (fun q => q.1 ≤ s.accts.length ∧ 0 ≤ q.2 ∧ q.2 ≤ 20 * q.1 ∧ q.1 ≤ 41 ∧ Zu q.1 q.2 (s.er.drop q.1) = (rb, rn)) (fun q => [(1, .pointer (some ⟨r1, 0, none⟩)), (3, .int .i64 q.2), (4, .int .i64 (q.1 : Int))]) (fun _ => [(r1, .cells s.cells.toArray 36 (0, 0))]) (fun _ _ _ => True) (fun q => s.accts.length - q.1) (0, 0) ⟨Nat.zero_le _, by omega, by omega, by omega, hres.symm⟩ (lK rfl) (List.Sublist.refl _) (fun _ _ h => h) ?_; rintro ⟨i, n⟩ ⟨hi1, hn0, hn1, hi41, hinv⟩; simp only at hi1 hn0 hn1 hi41 hinv; change HC _ _ [(1, _), (3, .int .i64 n), (4, .int .i64 (i : Int))] _ _ _ _; refine Xs 6 [0] rfl rfl ?_; refine LR rfl (J1 rfl hseg rfl) ?_; refine LS 2 [] rfl rfl ?_
  refine J8 11 rfl (fun gb => ?_) (fun gb => ?_) <;> (try simp only [ZZ] at gb) <;> first | (refine QL rfl ?_) | (refine LK rfl ?_)
  all_goals (
   refine LW 2 [] rfl rfl (Jw 1 rfl (Y6 1 rfl ?_)); refine Jz rfl (fun g => ?_) (fun g => ?_)
   · try exact Bool.noConfusion g
     all_goals try simp only [ZZ] at g
     all_goals (
      refine JN 5 rfl ?_
      obtain ⟨a, ha, hma⟩ := Q4 (show i < s.accts.length by omega)
      have ha2 := hs.accts a hma
      have hi40 : i ≤ 40 := by simp_all <;> omega
      refine Xs 4 [0] rfl rfl ?_
      refine LR rfl (Jp (j := i) rfl hseg rfl rfl rfl (by first | rfl | omega) (by omega)) ?_; refine LR rfl (Ka AcL.len oR rfl hseg ha rfl rfl) ?_; refine Je rfl rfl rfl (enters_of Tryz.func69 (by kernel_rfl) rfl) (Jlo ha2) oR ?_; refine JK 10 rfl ?_; refine cD (fun g => ?_) fun g => ?_
      refine Ko 12 rfl ?_; refine pT rfl rfl rfl fun w1 hs1 => ?_
      (have hff : XH a.er = false := by simp_all
       have h1 := Jq0 (n := n) (Yr ha) hi40 hff
       rw [hinv] at h1
       rw [show rb = false from h1]; exact ⟨rfl, hs1.keep⟩)
      refine JN 2 rfl ?_
      have hft : XH a.er = true := by simp_all
      have h20 := Jvf hft
      have h20 : a.slots.length ≤ 20 := h20
      rw [Jqy (Yr ha) hi40 hft] at hinv; refine Xs 5 [0] rfl rfl ?_
      refine LR rfl (Jp (j := i) rfl hseg rfl rfl rfl (by first | rfl | omega) (by omega)) ?_; refine LR rfl (KM (off' := jT s.p + (i * 8 + 7)) rfl rfl (by show jT s.p + i * 8 + 7 = _; omega)) ?_; refine LR rfl (Wu AcL.len (k := 7) (v := KL a.slots.length a.p) oR rfl hseg ha rfl rfl) ?_; refine LR rfl (J1 rfl ha2.seg rfl) ?_; refine VQ rfl (Jc (by omega) (by omega) (JG 7 rfl ?_)); refine Jc (by omega) (by omega) ?_; refine Jw 2 rfl ?_; refine Jx ?_; exact Jt (i + 1, n + (a.slots.length : Int)) ⟨by simp only; omega, by simp only; omega, by simp only; omega, by simp only; omega, hinv⟩ (by simp only; omega) (lK rfl) (List.Sublist.refl _) (fun _ _ h => h)
      skip)
   · try simp only [ZZ] at g
     refine Xs 9 [0] rfl rfl ?_; refine LR rfl (J1 rfl hseg rfl) ?_; refine LS 2 [] rfl rfl ?_
     refine J8 38 rfl (fun gb => ?_) (fun gb => ?_) <;> (try simp only [ZZ] at gb) <;> first | (refine QL rfl ?_) | (refine LK rfl ?_)
     all_goals (
      refine LW 3 [] rfl rfl (Jw 1 rfl (ZK 2 rfl ?_)); refine pT rfl rfl rfl fun w1 hs1 => ?_
      first
        | (have hff : XH a.er = false := by simp_all
           have h1 := Jq0 (n := n) (Yr ha) hi40 hff
           rw [hinv] at h1
           rw [show rb = false from h1]; exact ⟨rfl, hs1.keep⟩)
        | (rw [Jqz (by rw [s.er_len]; omega)] at hinv
           obtain ⟨rfl, rfl⟩ := Prod.mk.inj hinv
           refine ⟨?_, hs1.keep⟩
           simp [JB]
           all_goals first | done | omega | trace_state)
        | trace_state
      skip)
   skip)
def rw1 : Rec := ⟨5, 6, ⟨7, 0, 0, 0⟩, w40, w40, 8, 0, 0⟩
theorem qk {n : Nat} (h : n < 1000) : VM n := by unfold VM; omega
theorem Jvh {f : Int} {s : List AcE} {r : Rec} {e : Int} (h : ju f s = (r, e)) : Value.tuple #[(ju f s).1.val, .int .i64 (ju f s).2] = .tuple #[r.val, .int .i64 e] := by rw [h]
theorem Jf6 {a b : Int} (h : a = b) : Value.int .i64 a = .int .i64 b := congrArg _ h
theorem jC {a b : Bool} (h : a = b) : Value.bool a = .bool b := congrArg _ h
theorem wP (a b : AcL) : a.er = b.er ↔ a.addr = b.addr ∧ a.nonce = b.nonce ∧ a.bal = b.bal ∧ a.code = b.code ∧ a.slots = b.slots := by
 unfold AcL.er
 simp
theorem jD {a b : AcL} (h : ¬ a.addr = b.addr ∨ ¬ a.nonce = b.nonce ∨ ¬ a.bal = b.bal ∨ ¬ a.code = b.code ∨ ¬ a.slots.length = b.slots.length) : ¬ a.er = b.er := fun e => by
 obtain ⟨h1, h2, h3, h4, h5⟩ := (wP a b).1 e
 rcases h with h | h | h | h | h
 ·exact h h1
 ·exact h h2
 ·exact h h3
 ·exact h h4
 ·exact h (by rw [h5])
theorem Jf7 {R : Ji} {a b : AcL} (ha : a.In R) (hb : b.In R) : PureR Tryz.prog 26 [a.val, b.val].toArray (.bool (decide (a.er = b.er))) R := by
  have hl : a.slots.length ≤ 9223372036854775807 := ha.len
  have hl2 : b.slots.length ≤ 9223372036854775807 := hb.len
  have h1 := ha.seg
  have h2 := hb.seg
  refine Ja Tryz.func26 rfl rfl fun w => ?_; refine JA ?_; refine Jq 2 rfl ?_; refine Kh (cs := a.cells.toArray) rfl rfl rfl rfl fun ra => ?_; refine Kh (cs := b.cells.toArray) rfl rfl rfl rfl fun rb => ?_; refine Xa 10 [1, 0] rfl rfl ?_; refine LR rfl (Yj rfl rfl) ?_; refine QL rfl ?_
  refine J8 11 rfl (fun gb => ?_) (fun gb => ?_) <;> (try simp only [ZZ] at gb) <;> first | (refine LR rfl (J9 rfl rfl rfl) ?_) | (refine LK rfl ?_)
  all_goals refine LW 1 [1] rfl rfl ?_
  all_goals first | refine LR rfl (J9 rfl rfl rfl) ?_ | refine LK rfl ?_
  all_goals refine LW 2 [0] rfl rfl ?_
  all_goals first | (refine J3 (congrArg (fun b => Value.bool (!b)) (eqU a.nonce b.nonce)) ?_) | skip
  all_goals refine LW 2 [] rfl rfl ?_
  all_goals first | refine LK rfl ?_ | (refine J8 18 rfl (fun gb => ?_) (fun gb => ?_) <;> (try simp only [ZZ] at gb) <;> first | (refine LR rfl (J9 rfl rfl rfl) ?_) | (refine LK rfl ?_))
  all_goals refine LW 1 [1] rfl rfl ?_
  all_goals first | refine LR rfl (J9 rfl rfl rfl) ?_ | refine LK rfl ?_
  all_goals refine LW 1 [0] rfl rfl ?_
  all_goals first | (refine LR rfl (Jg0 rfl rfl rfl rfl rfl (by kernel_rfl) rfl rfl rfl rfl) ?_) | refine LK rfl ?_
  all_goals first | (refine J3 (congrArg (fun b => Value.bool (!b)) (eqW a.bal b.bal)) ?_) | skip
  all_goals refine LW 2 [] rfl rfl ?_
  all_goals first | refine LK rfl ?_ | (refine J8 25 rfl (fun gb => ?_) (fun gb => ?_) <;> (try simp only [ZZ] at gb) <;> first | (refine LR rfl (J9 rfl rfl rfl) ?_) | (refine LK rfl ?_))
  all_goals refine LW 1 [1] rfl rfl ?_
  all_goals first | refine LR rfl (J9 rfl rfl rfl) ?_ | refine LK rfl ?_
  all_goals refine LW 1 [0] rfl rfl ?_
  all_goals first | refine LR rfl (Yj rfl rfl) ?_ | refine LK rfl ?_
  all_goals refine LW 2 [] rfl rfl ?_
  all_goals first | refine LK rfl ?_ | (refine J8 32 rfl (fun gb => ?_) (fun gb => ?_) <;> (try simp only [ZZ] at gb) <;> first | (refine LR rfl (J9 rfl rfl rfl) ?_) | (refine LK rfl ?_))
  all_goals refine LW 1 [1] rfl rfl ?_
  all_goals first | refine LR rfl (J1 rfl h1 rfl) ?_ | refine LK rfl ?_
  all_goals first | refine LR rfl (J9 rfl rfl rfl) ?_ | refine LK rfl ?_
  all_goals refine LW 1 [0] rfl rfl ?_
  all_goals first | refine LR rfl (J1 rfl h2 rfl) ?_ | refine LK rfl ?_
  all_goals (
   refine LW 2 [] rfl rfl (Jw 1 rfl (Y6 1 rfl ?_)); refine Jz rfl (fun g => ?_) (fun g => ?_)
   try simp only [ZZ] at g
   refine Ko 7 rfl ?_; refine pT rfl rfl rfl fun w1 hs1 => ?_; refine ⟨?_, hs1.keep⟩
   first | (rw [decide_eq_false (jD (.inl (by assumption)))]; rfl) | (rw [decide_eq_false (jD (.inr (.inl (by assumption))))]; rfl) | (rw [decide_eq_false (jD (.inr (.inr (.inl (by assumption)))))]; rfl) | (rw [decide_eq_false (jD (.inr (.inr (.inr (.inl (by assumption))))))]; rfl) | (rw [decide_eq_false (jD (.inr (.inr (.inr (.inr (by omega))))))]; rfl)
   · try exact Bool.noConfusion g
     all_goals try simp only [ZZ] at g
     all_goals (
      refine JN 9 rfl ?_
      have hll : a.slots.length = b.slots.length := by omega
      have hflat : a.addr = b.addr ∧ a.nonce = b.nonce ∧ a.bal = b.bal ∧ a.code = b.code := by simp_all
      refine J0 (σ := Nat) (fun i => i ≤ a.slots.length ∧ ∀ j, j < i → a.slots[j]? = b.slots[j]?) (fun i => [(2, Value.pointer (some ⟨ra, 0, none⟩)), (3, Value.pointer (some ⟨rb, 0, none⟩)), (5, .int .i64 (i : Int))]) (fun _ => [(rb, .cells b.cells.toArray 48 (0, 0)), (ra, .cells a.cells.toArray 48 (0, 0))]) (fun _ _ _ => True) (fun i => a.slots.length - i) 0 ⟨by omega, fun j hj => absurd hj (by omega)⟩ (lK rfl) (List.Sublist.refl _) (fun _ _ h => h) ?_; rintro i ⟨hi1, hinv⟩; refine Xs 6 [1] rfl rfl ?_; refine LR rfl (J1 rfl h1 rfl) ?_; refine JK 3 rfl ?_; refine cD (fun g => ?_) fun g => ?_
      refine JN 5 rfl ?_
      obtain ⟨x, hx, hmx⟩ := Q4 (show i < a.slots.length by omega)
      obtain ⟨y, hy, hmy⟩ := Q4 (show i < b.slots.length by omega)
      refine JD 11 (by kernel_rfl) (by kernel_rfl) ?_
      refine Jb rfl rfl rfl (J9 rfl rfl rfl) ?_; refine Jb rfl rfl rfl (Jd rfl (kn 1 rfl) rfl rfl) ?_; refine Jb rfl rfl rfl (Jf rfl) ?_
      refine Jb rfl rfl rfl (Jp (j := i) rfl h1 rfl rfl rfl (by first | rfl | omega) (by omega)) ?_; refine Jb rfl rfl rfl (Ka Kf oR rfl h1 hx rfl rfl) ?_
      refine Jb rfl rfl rfl (J9 rfl rfl rfl) ?_; refine Jb rfl rfl rfl (Jd rfl (kn 0 rfl) rfl rfl) ?_; refine Jb rfl rfl rfl (Jf rfl) ?_
      refine Jb rfl rfl rfl (Jp (j := i) rfl h2 rfl rfl rfl (by first | rfl | omega) (by omega)) ?_; refine Jb rfl rfl rfl (Ka Kf oR rfl h2 hy rfl rfl) ?_; refine Jb rfl rfl rfl (vj rfl rfl rfl (by kernel_rfl) (by kernel_rfl) (.scal (by decide) rfl rfl rfl rfl rfl (.scal (by decide) rfl rfl rfl rfl rfl .nil))) ?_; refine KU (congrArg (fun b => Value.bool (!b)) (Jhv x y)) ?_; refine JS ?_; refine JK 2 rfl ?_; refine cD (fun g => ?_) fun g => ?_
      refine Ko 11 rfl ?_; refine pT rfl rfl rfl fun w1 hs1 => ?_; refine ⟨?_, hs1.keep⟩; rw [decide_eq_false (show ¬ a.er = b.er from fun e => Jn2 hx hy (by simp_all) ((wP a b).1 e).2.2.2.2)]; rfl
      refine Jq 6 rfl ?_; refine Jc (by omega) (by omega) ?_; refine Jw 2 rfl ?_; refine Jx ?_
      exact Jt (i + 1) ⟨by omega, fun j hj => by
        rcases Nat.lt_succ_iff_lt_or_eq.1 hj with hj | rfl
        exact hinv j hj
        rw [hx, hy]; simp_all⟩ (by omega) (lK rfl) (List.Sublist.refl _) (fun _ _ h => h)
      refine Ko 11 rfl ?_; refine pT rfl rfl rfl fun w1 hs1 => ?_; refine ⟨?_, hs1.keep⟩; rw [decide_eq_true ((wP a b).2 ⟨hflat.1, hflat.2.1, hflat.2.2.1, hflat.2.2.2, Jn1 hll (by omega) hinv⟩)]; rfl
      skip)
   skip)
structure Stay (s t : StL) (a key : BS) : Prop where
  there : Wc s a = true → Wc t a = true
  oth : a ≠ A0 → a ≠ A1 → Wc s a = Wc t a ∧ (JW s a).er = (JW t a).er
  nonce : (JW s a).nonce = (JW t a).nonce
  bal : (JW s a).bal = (JW t a).bal
  slot : (a = A0 → ¬ xF key) → KW (JW s a).er key = KW (JW t a).er key
theorem Jyh {α : Type} {p : α → Bool} {l : List α} {j : Nat} {x : α} (h : l[j]? = some x) (hp : p x = true) : l.any p = true := List.any_eq_true.2 ⟨x, List.mem_of_getElem? h, hp⟩
theorem Jq1 {α : Type} {p : α → Bool} {l : List α} (h : ∀ (j : Nat) x, l[j]? = some x → p x = false) : l.any p = false := by
 rw [List.any_eq_false]; intro x hx
 obtain ⟨j, hj⟩ := List.getElem?_of_mem hx
 rw [h j x hj]; simp
structure RackI (a : AcL) (rb : Bool) (i : Nat) (rs sp : Bool) : Prop where
  le : i ≤ a.slots.length
  odd : ∀ (j : Nat) x, j < i → a.slots[j]? = some x → qO x = false
  rs : rs = true ↔ rb = true ∧ ∀ (j : Nat) x y, j + 1 < i → a.slots[j]? = some x → a.slots[j + 1]? = some y → Op.bytesLess x.1 y.1 = true
  sp : sp = true ↔ ∃ (j : Nat) (x : BS × BS), j < i ∧ a.slots[j]? = some x ∧ x.2 = Vb
theorem RackI.zero (a : AcL) (rb : Bool) : RackI a rb 0 rb false := ⟨Nat.zero_le _, fun _ _ h => absurd h (Nat.not_lt_zero _), by simp, by simp⟩
theorem RackI.next {a : AcL} {rb : Bool} {i : Nat} {rs sp rs' sp' : Bool} {x : BS × BS} (h : RackI a rb i rs sp) (hx : a.slots[i]? = some x) (ho : x.1.length = 32 ∧ x.2.length = 32)
  (hr : rs' = (rs && (decide (i = 0) || Op.bytesLess ((a.slots[i - 1]?.map Prod.fst).getD []) x.1))) (hp : sp' = (sp || decide (x.2 = Vb))) : RackI a rb (i + 1) rs' sp' := by
 have hlt := (List.getElem?_eq_some_iff.1 hx).1
 refine ⟨hlt, fun j y hj hy => ?_, ?_, ?_⟩
 ·rcases Nat.lt_succ_iff_lt_or_eq.1 hj with hj | rfl
  ·exact h.odd j y hj hy
  ·rw [hx] at hy; cases hy
   unfold qO; simp [ho.1, ho.2]
 ·rw [hr, Bool.and_eq_true, h.rs, Bool.or_eq_true, decide_eq_true_eq]
  constructor
  ·rintro ⟨⟨h1, h2⟩, h3⟩
   refine ⟨h1, fun j u v hj hu hv => ?_⟩
   rcases Nat.lt_succ_iff_lt_or_eq.1 hj with hj | hj
   ·exact h2 j u v hj hu hv
   ·subst hj
    rw [hx] at hv; cases hv; rw [show j + 1 - 1 = j by omega, hu] at h3; exact h3.resolve_left (by omega)
  ·rintro ⟨h1, h2⟩
   refine ⟨⟨h1, fun j u v hj hu hv => h2 j u v (by omega) hu hv⟩, ?_⟩
   rcases Nat.eq_zero_or_pos i with h0 | h0
   ·exact .inl h0
   ·obtain ⟨j, rfl⟩ : ∃ j, i = j + 1 := ⟨i - 1, by omega⟩
    obtain ⟨u, hu, -⟩ := Q4 (show j < a.slots.length by omega)
    rw [show j + 1 - 1 = j by omega, hu]; exact .inr (h2 j u x (by omega) hu hx)
 ·rw [hp, Bool.or_eq_true, h.sp, decide_eq_true_eq]
  constructor
  ·rintro (⟨j, u, hj, hu, e⟩ | e)
   ·exact ⟨j, u, by omega, hu, e⟩
   ·exact ⟨i, x, by omega, hx, e⟩
  ·rintro ⟨j, u, hj, hu, e⟩
   rcases Nat.lt_succ_iff_lt_or_eq.1 hj with hj | rfl
   ·exact .inl ⟨j, u, hj, hu, e⟩
   ·rw [hx] at hu; cases hu; exact .inr e
theorem RackI.done {a : AcL} {rb : Bool} {rs sp : Bool} (h : RackI a rb a.slots.length rs sp) : a.slots.any qO = false ∧ rs = (rb && QI Prod.fst a.slots) ∧ sp = a.slots.any XC := by
 have hlt : ∀ (j : Nat) (x : BS × BS), a.slots[j]? = some x → j < a.slots.length := fun j x hx => (List.getElem?_eq_some_iff.1 hx).1
 refine ⟨Jq1 fun j x hx => h.odd j x (hlt j x hx) hx, ?_, ?_⟩
 ·rw [Bool.eq_iff_iff, h.rs, Bool.and_eq_true]
  refine and_congr_right fun _ => ⟨fun hh => Zf fun j x y hx hy => hh j x y (hlt _ _ hy) hx hy, fun hh j x y _ hx hy => ?_⟩
  cases hb : Op.bytesLess x.1 y.1
  ·rw [jv hx hy hb] at hh; cases hh
  ·rfl
 ·rw [Bool.eq_iff_iff, h.sp]
  constructor
  ·rintro ⟨j, x, _, hx, e⟩
   exact Jyh hx (by unfold XC; rw [e]; simp)
  ·intro hh
   obtain ⟨x, hx, e⟩ := List.any_eq_true.1 hh
   obtain ⟨j, hj⟩ := List.getElem?_of_mem hx
   exact ⟨j, x, hlt j x hj, hj, by simpa [XC] using e⟩
theorem chk_one (e : AcE) : KR [e] = WB e := by
 unfold KR goS
 rw [if_neg (by show ¬ 1 > 32; decide), yT]
 split
 ·rfl
 ·rename_i h
  rw [goS]; exact (Decidable.not_not.1 h).symm
structure OutI {α : Type} (f : α → List Value) (sz : Nat) (acc : List α) (n : Nat) (xs : List Value) (row : QU) : Prop where
  num : n = acc.length
  cells : xs = acc.flatMap f
  ok : rowOk sz n xs row
theorem OutI.nil {α : Type} {f : α → List Value} {sz : Nat} : OutI f sz [] 0 [] none := ⟨rfl, rfl, rfl, rfl⟩
theorem one_seg {a : AcL} {r : Nat} : Seg [(r, .cells a.cells.toArray 48 (0, 0))] [a].length ([a].flatMap AcL.cells) (some (⟨r, 0, none⟩, 1)) := by
 have h := KF (row := some (r, 1, [])) (sz := 8) (n := 1) (e := 48) (cs := a.cells) ⟨rfl, rfl⟩ (by decide)
 simpa [JP, Vc] using h
theorem Jq2 {R : Ji} {a : AcL} (ha : a.In R) (r : Nat) : StL.In ((r, .cells a.cells.toArray 48 (0, 0)) :: R) ⟨[a], some (⟨r, 0, none⟩, 1)⟩ :=
 ⟨by show 1 ≤ _; decide, one_seg.mono fun q hq => by rw [List.mem_singleton.1 hq]; exact List.mem_cons_self, fun x hx => by rw [List.mem_singleton.1 hx]; exact ha.mono fun q hq => List.mem_cons_of_mem _ hq⟩
open Go.Proofs (Enters enters_of)
theorem jE {k n : Int} {p : Pl} {x : Ty} {l : List Vl} (hk : (k = 3 ∧ (l.length : Int) = n) ∨ (k = 4 ∧ (l.length : Int) ≤ n)) (h : ∀ v ∈ l, KK v x = 0) : KK (KY l 0) (.mk k n p [x]) = 0 := by
 have hL : ∀ (l : List Vl) (i : Nat), (∀ v ∈ l, KK v x = 0) → QC l k 0 [x] i = 0 := by
  intro l
  induction l with
  | nil => intro i _; rw [QC]
  | cons v l ih =>
   intro i h
   have e : JR k 0 [x] i = x := by unfold JR Xy; rcases hk with ⟨rfl, _⟩ | ⟨rfl, _⟩ <;> rfl
   rw [QC, e, if_pos (h v (by simp)), ih _ (fun w hw => h w (by simp [hw]))]
 unfold KY
 rw [qd ?_ ?_, hL l 0 h]
 ·rcases hk with ⟨rfl, h1⟩ | ⟨rfl, h1⟩ <;> simp <;> omega
 ·rw [Vp k n _ 0 0 0 0 [] none l none 0 _ rfl]
  rcases hk with ⟨rfl, h1⟩ | ⟨rfl, h1⟩ <;> simp [Ve, h1]
theorem wQ {a b c d : Nat} {n : Int} {p : Pl} (h : ((W5 [a, b, c, d]).length : Int) ≤ n) : KK (.mk a b c d [] none [] none 0) (.mk 1 n p []) = 0 := by
 rw [qd (by simp) (by rw [Vp 1 n _ a b c d [] none [] none 0 _ rfl]; simp [Ve, h]), QC]
theorem Jyi : ∀ i : Fin 256, (W5 [i.val, 0, 0, 0]).length ≤ 1 := by decide +kernel
theorem Jq3 (b : UInt8) : KK (ZN b) byT = 0 := wQ (by have := Jyi ⟨b.toNat, XL b⟩; simp only at this; omega)
theorem Jas {s : BS} {n : Int} (h : (s.length : Int) = n) : KK (yA s) (Xv 3 n) = 0 := jE (.inl ⟨rfl, by rw [List.length_map]; exact h⟩) fun v hv => by obtain ⟨b, _, rfl⟩ := List.mem_map.1 hv; exact Jq3 b
theorem Jvi {s : BS} {n : Int} (h : (s.length : Int) ≤ n) : KK (yA s) (Xv 4 n) = 0 := jE (.inr ⟨rfl, by rw [List.length_map]; exact h⟩) fun v hv => by obtain ⟨b, _, rfl⟩ := List.mem_map.1 hv; exact Jq3 b
theorem Jvj {x : BS × BS} (h1 : x.1.length = 32) (h2 : x.2.length = 32) : KK (wH x) Jad = 0 := by
 unfold wH Jad KY
 rw [qd (by simp) (by rw [Vp 7 0 _ 0 0 0 0 [] none _ none 0 _ rfl]; simp [Ve]), QC, show JR 7 0 [Xv 3 32, Xv 3 32] 0 = Xv 3 32 from rfl, if_pos (Jas (by omega)), QC, show JR 7 0 [Xv 3 32, Xv 3 32] (0 + 1) = Xv 3 32 from rfl, if_pos (Jas (by omega)), QC]
theorem Jvk {n : Nat} (h : VM n) : (W5 [n, 0, 0, 0]).length ≤ 8 := by
 have h1 := Jk3 (l := [n, 0, 0, 0]) (Jxs h)
 rw [Jo5] at h1; exact of_decide_eq_true h1.symm
theorem Jyj {a : AcE} (h : WB a = 0) (hn : VM a.nonce) : KK (acV a) acT = 0 := by
 obtain ⟨h1, h2, _, h4, h5⟩ := QQ h
 obtain ⟨I, hI⟩ : ∃ I, I = [Xv 3 20, .mk 1 8 none [], .mk 1 32 none [], Xv 4 512, .mk 4 16 none [Jad]] := ⟨_, rfl⟩
 have e0 : JR 7 0 I 0 = Xv 3 20 := by rw [hI]; rfl
 have e1 : JR 7 0 I (0 + 1) = .mk 1 8 none [] := by rw [hI]; rfl
 have e2 : JR 7 0 I (0 + 1 + 1) = .mk 1 32 none [] := by rw [hI]; rfl
 have e3 : JR 7 0 I (0 + 1 + 1 + 1) = Xv 4 512 := by rw [hI]; rfl
 have e4 : JR 7 0 I (0 + 1 + 1 + 1 + 1) = .mk 4 16 none [Jad] := by rw [hI]; rfl
 have hl : I.length = 5 := by rw [hI]; rfl
 have hsl : KK (Vl.mk 0 0 0 0 [] none (a.slots.map wH) none 0) (.mk 4 16 none [Jad]) = 0 := jE (.inr ⟨rfl, by rw [List.length_map]; omega⟩) fun v hv => by
  obtain ⟨x, hx, rfl⟩ := List.mem_map.1 hv
  exact Jvj (h2 x hx).1 (h2 x hx).2.1
 unfold acV acT KY
 rw [← hI, qd (by simp) (by rw [hl, Vp 7 0 _ 0 0 0 0 [] none _ none 0 _ rfl]; simp [Ve]), QC, e0, if_pos (Jas (by omega)), QC, e1, if_pos (wQ (by have := Jvk hn; omega)), QC, e2, if_pos (wQ (by have := Jfu [a.bal.a, a.bal.b, a.bal.c, a.bal.d]; omega)),
  QC, e3, if_pos (Jvi (by omega)), QC, e4, if_pos hsl, QC]
theorem Jat {l : List AcE} (h : KR l = 0) (hn : ∀ a ∈ l, VM a.nonce) : Vx qf (YR l) = 0 := by
 obtain ⟨h1, h2, _⟩ := W1.1 h
 unfold Vx
 rw [if_pos Ji5]
 exact jE (.inr ⟨rfl, by rw [List.length_map]; omega⟩) fun v hv => by
  obtain ⟨a, ha, rfl⟩ := List.mem_map.1 hv
  exact Jyj (h2 a ha) (hn a ha)
theorem Jjj {s : StL} (h : KR s.er = 0) : s.accts.length ≤ 100000 ∧ ∀ a ∈ s.accts, Ac1 a := by
 obtain ⟨h1, h2, _⟩ := W1.1 h
 rw [s.er_len] at h1; refine ⟨by omega, fun a ha => ?_⟩
 obtain ⟨g1, g2, _, g4, g5⟩ := QQ (h2 a.er (List.mem_map.2 ⟨a, ha, rfl⟩))
 change a.addr.length = 20 at g1; change a.code.length ≤ 512 at g4; change a.slots.length ≤ 16 at g5; exact ⟨by omega, by omega, by omega, fun x hx => by obtain ⟨e1, e2, _⟩ := g2 x hx; omega⟩
theorem Jyk {R : Ji} {s : StL} (hs : s.In R) (h : KR s.er = 0) : Vx qf (YR s.er) = 0 := Jat h fun a ha => by
 obtain ⟨b, hb, rfl⟩ := List.mem_map.1 ha
 exact (hs.accts b hb).nonce
theorem Jd5 : ∀ l : List Vl, (∀ x ∈ l, Nonempty (VR x)) → ∃ (ys : List Vl) (L : Ji), ys.map Zy = l ∧ ∀ y ∈ ys, y.In L
 | [], _ => ⟨[], [], rfl, fun y hy => nomatch hy⟩
 | x :: l, h => by
  obtain ⟨ys, L, h1, h2⟩ := Jd5 l fun y hy => h y (List.mem_cons_of_mem _ hy)
  obtain ⟨v⟩ := h x List.mem_cons_self
  refine ⟨v.x :: ys, v.L ++ L, by rw [List.map_cons, v.er, h1], fun y hy => ?_⟩
  rcases List.mem_cons.1 hy with rfl | hy
  ·exact v.ok.mono fun q hq => List.mem_append_left _ hq
  ·exact (h2 y hy).mono fun q hq => List.mem_append_right _ hq
theorem Zp {l : List Vl} (h : ∀ x ∈ l, Nonempty (VR x)) (hl : l.length ≤ 100000) : Nonempty (VR (KY l 0)) := by
 obtain ⟨ys, L, h1, h2⟩ := Jd5 l h
 have hy : ys.length = l.length := by rw [← h1, List.length_map]
 exact ⟨⟨.mk 0 0 0 0 [] none ys (some (⟨0, 0, none⟩, ys.length)) 0, (0, .cells (Q3 ys).toArray 0 (0, 0)) :: L, .mk u0 u0 u0 u0 (by decide) rfl (by omega) ⟨Nat.le_refl _, fun _ => ⟨rfl, _, 0, (0, 0), List.mem_cons_self, by rw [List.drop_zero, List.toList_toArray, List.take_length]⟩⟩ i0 fun x hx => (h2 x hx).mono fun q hq => List.mem_cons_of_mem _ hq, by rw [W8, WN, h1]; rfl⟩⟩
theorem Jjk {a b c d : Nat} (ha : VM a) (hb : VM b) (hc : VM c) (hd : VM d) : Nonempty (VR (.mk a b c d [] none [] none 0)) :=
 ⟨⟨.mk a b c d [] none [] none 0, [], .mk ha hb hc hd (by decide) rfl (by decide) rfl i0 (fun x hx => nomatch hx), by rw [W8, vq]⟩⟩
theorem Jau {s : BS} (hl : s.length ≤ 100000) : Nonempty (VR (yA s)) := ⟨Jp3 hl⟩
theorem Jyl {a : AcL} (h : Ac1 a) (hn : VM a.nonce) (hb : a.bal.ok) : Nonempty (VR (acV a.er)) := by
 obtain ⟨h1, h2, h3, h4⟩ := h
 refine Zp (fun x hx => ?_) (by show 5 ≤ 100000; decide); simp only [List.mem_cons, List.not_mem_nil, or_false] at hx
 rcases hx with rfl | rfl | rfl | rfl | rfl
 ·exact Jau h1
 ·exact Jjk hn u0 u0 u0
 ·exact Jjk hb.a hb.b hb.c hb.d
 ·exact Jau h2
 ·refine Zp (fun x hx => ?_) (by rw [List.length_map]; exact h3)
  obtain ⟨⟨k, v⟩, hy, rfl⟩ := List.mem_map.1 hx
  refine Zp (fun x hx => ?_) (by show 2 ≤ 100000; decide); simp only [List.mem_cons, List.not_mem_nil, or_false] at hx
  rcases hx with rfl | rfl
  ·exact Jau (h4 _ hy).1
  ·exact Jau (h4 _ hy).2
theorem Jym {R : Ji} {s : StL} (hs : s.In R) (h : KR s.er = 0) : Nonempty (VR (YR s.er)) := by
 obtain ⟨hn, hb⟩ := Jjj h
 refine Zp (fun x hx => ?_) (by rw [List.length_map, s.er_len]; exact hn)
 obtain ⟨a, ha, rfl⟩ := List.mem_map.1 hx
 obtain ⟨b, hb2, rfl⟩ := List.mem_map.1 ha
 exact Jyl (hb b hb2) (hs.accts b hb2).nonce (hs.accts b hb2).bal
def J0m : TR qf := ⟨Jpr 0 0 0 0 0 0 0 0, [(0, Jle 0), (0, .cells #[.int .i64 3, .int .i64 32, .slice (some ⟨0, 0, none⟩) 1 1, .int .i64 3, .int .i64 32, .slice (some ⟨0, 0, none⟩) 1 1] 0 (0, 0)), (0, .cells #[.int .i64 7, .int .i64 0, .slice (some ⟨0, 0, none⟩) 2 2] 0 (0, 0)),
 (0, .cells #[.int .i64 3, .int .i64 20, .slice (some ⟨0, 0, none⟩) 1 1, .int .i64 1, .int .i64 8, .slice none 0 0, .int .i64 1, .int .i64 32, .slice none 0 0, .int .i64 4, .int .i64 512, .slice (some ⟨0, 0, none⟩) 1 1, .int .i64 4, .int .i64 16, .slice (some ⟨0, 0, none⟩) 1 1] 0 (0, 0)),
 (0, .cells #[.int .i64 7, .int .i64 0, .slice (some ⟨0, 0, none⟩) 5 5] 0 (0, 0))], Jiv (e := 0) (by simp) (by simp) (by simp) (by simp) (by simp) (by simp) (by simp) (by simp), Jiw ..⟩
theorem Jq4 (t : Ty) (v : Vl) : Yb t (Zy v) = Yb t v := by unfold Yb Vx; rw [Jx4, Jun]
theorem Jq5 {T : Ty} {V : Vl} (t : TR T) (v : VR V) : Yb t.x v.x = Yb T V := by obtain ⟨x, L, ok, rfl⟩ := t; obtain ⟨y, M, ok2, rfl⟩ := v; rw [Jlj, Jq4]
theorem Jd6 {l : List AcE} (h : KR l = 0) (hf : Vx qf (YR l) = 0) : Qz l = (KS (YR l) qf, 0) := by
 unfold Qz Yb
 rw [if_neg (by omega), if_neg (by omega)]
theorem wR {R : Ji} {s : StL} (hs : s.In R) (hw : KR s.er = 0 → Y1 (YR s.er) ≤ 20000) : PureR Tryz.prog 20 [s.val].toArray (Zs (Qz s.er)) R := by
 have hC := Yc hs
 have hac := Jjj (s := s)
 have hlay := Jym hs
 have hfit := Jyk hs
 have hb0 : KR s.er ≠ 0 → Qz s.er = ([], KR s.er) := fun h => by unfold Qz; rw [if_pos h]
 have hb1 : KR s.er = 0 → Qz s.er = Yb qf (YR s.er) := fun h => by unfold Qz; rw [if_neg (by omega)]
 obtain ⟨accts, p⟩ := s
 generalize hz0 : KR (StL.er ⟨accts, p⟩) = z at *
 refine Ja Tryz.func20 rfl rfl fun w => ?_; refine JA ?_; refine Jq 2 rfl ?_; refine LN rfl fun r1 => ?_; refine JG 7 rfl ?_; refine LR rfl (Jo (vs := [_]) rfl (kn 0 rfl) rfl rfl rfl rfl) ?_; refine Je rfl rfl rfl Jof hC oR ?_; refine JK 9 rfl ?_; refine cD (fun g => ?_) fun g => ?_
 refine Ko 9 rfl ?_; refine Jg rfl rfl (.cons (Jl rfl) (.cons (Jl rfl) .nil)) (fun w1 hs1 => ?_); refine ⟨?_, hs1.keep⟩; rw [hb0 (by assumption)]; rfl
 ·refine JN 3 rfl ?_
  have hz : z = 0 := by assumption
  obtain ⟨hn, hb⟩ := hac hz
  obtain ⟨v0⟩ := hlay hz
  have hww := hw hz
  refine JJ [(r1, .cells #[KL accts.length p] 36 (0, 0))] [(0, .grow (Qj J0m (fun y => y.x.val) (fun y => y.L))), (1, .pure), (2, .pure), (3, .grow (Qj v0 (fun y => y.x.val) (fun y => y.L))), (5, .pure), (6, .pure)] 7 [1, 2, 0, 3, 4, 5, 6] (by kernel_rfl) (by kernel_rfl) (by first | exact (fun _ h => absurd h List.not_mem_nil) | simp [SubS] | (intro p hp; simp [hp])) ?_
  refine Jj (k := 1) rfl rfl rfl rfl rfl (fun _ hS => (J9 rfl rfl rfl)) ?_; refine Jj (k := 2) rfl rfl rfl rfl rfl (fun _ hS => (Jd rfl (.inl (hS _ (Jr (n := 0) rfl))) rfl rfl)) ?_; refine Qd (k := 0) rfl rfl rfl rfl rfl (enters_of Tryz.func46 (by kernel_rfl) rfl) Juo oN fun t => ?_; refine Qd (k := 3) rfl rfl rfl rfl rfl (enters_of Tryz.func47 (by kernel_rfl) rfl) (Juv hs hn hb) oR fun v => ?_
  refine KA (k := 4) (Rl := v.L ++ t.L) rfl rfl rfl rfl rfl (enters_of Tryz.func45 (by kernel_rfl) rfl) (Juq (t.ok.mono fun q hq => List.mem_append_right _ hq) (v.ok.mono fun q hq => List.mem_append_left _ hq) (by rw [← J0a v.x, v.er]; exact hww)) (fun q hq => .inl (by rcases List.mem_append.1 hq with h | h <;> simp [h])) ?_; refine VN (congrArg Zs (Jq5 t v)) ?_; refine Jj (k := 5) rfl rfl rfl rfl rfl (fun _ hS => (JL rfl rfl)) ?_; refine Jj (k := 6) rfl rfl rfl rfl rfl (fun _ hS => (JL rfl rfl)) ?_; refine Km ?_; refine Jw 5 rfl ?_; refine Jg rfl rfl (.cons (Jl rfl) (.cons (Jl rfl) .nil)) (fun w1 hs1 => ?_); refine ⟨?_, hs1.keep⟩; rw [hb1 hz]; rfl
structure Num8 (s : BS) (x : Nat) : Prop where
  len : s.length = 8
  u : VM x
  at_ : ∀ i, i < 8 → (s.getD i 0).toNat = x / 256 ^ (7 - i) % 256
theorem zz {c : Cx} {l : Ks} {E : Ji} {X : XP} {d : List Deferred} {ops : Array Oper} {rest : List Nat} {k : Nat} {tb : ZL} {S : Ji} {T : Ji → Act → Prop} {t ty : TypeId} {ps : String} {af : Array Edge} {gd : Option (Nat × Bool)} {x y : Operand} {q r off n : Nat} {cs cs' : Array Value} {vs : Array Value} {e : TypeId} {E' : Ji} (hko : WP ops.toList k = some ⟨none, .store t x y, ty, ps, af, gd⟩) (hg : Kc l ops ⟨none, .store t x y, ty, ps, af, gd⟩ = some true) (hA : tb k = .turn)
  (hx : JX l x = some (.pointer (some ⟨r, off, none⟩))) (hk : E[q]? = some (r, .cells cs e (0, 0))) (hy : JX l y = some (.agg vs)) (ht : KH c.P t = some n) (hn : vs.size = n) (ho : vs.toList.all Q2 = true) (hc : off + n ≤ cs.size)
  (hcs : (cs.toList.take off ++ vs.toList ++ cs.toList.drop (off + n)).toArray = cs') (hL : E.set q (r, .cells cs' e (0, 0)) = E') (hS : SubS S E')
  (h : HB c d l E' X S ops tb rest T) : HB c d l E X S ops tb (k :: rest) T :=
 jl hko hg rfl hA (fun a w hf hs => ⟨w.setRow r cs', by
  simp only [execOp]; rw [hf.eval hx, hf.eval hy]
  have h1 := run_storeCells_at (P := c.P) r off e vs.toList 0 cs w (hs.get hk) (by simp [hn]; omega) (fun u hu => by rw [WD]; exact List.all_eq_true.1 ho u hu)
  simp only [Nat.add_zero, Array.length_toList, hn] at h1; rw [hcs] at h1
  simp [Instr.storeAt, Instr.sureAddr, Sem.run_bind, Result.andThen, storeVar, QP ht, Value.cells, hn, h1], by
  subst hL
  exact hs.set hk (Keep.setRow r cs') (setRow_heap _ _ _ _ _ _ (hs.get hk))⟩) hS h
theorem _root_.Go.SL.PureT.ne {α : Type} {P : Program} {f : FuncId} {args : Array Value} {V : α → Value} {LL : α → Ji} {Rl : Ji} (h : PureT P f args V [] LL Rl) {w : World} (hR : Has Rl w) : Nonempty α := by
 obtain ⟨e, w', fr, ⟨x, _⟩, _⟩ := h.run w (fun p hp => by cases hp) hR List.Pairwise.nil (fun p _ q hq => by cases hq) []
 exact ⟨x⟩
theorem Jav {α : Type} {P : Program} {f : FuncId} {fn : Func} {code : Code} {vs : List Value} {V : α → Value} {T Rl : Ji} {LL : α → Ji} (hf : P.funcs[f]? = some fn) (hb : fn.body = some code) (hlen : Nat.ble vs.length fn.ntmps = true)
  (h : ∀ w, Has Rl w → HC (cxT P w T Rl fn.ntmps) [] (V0 0 vs) T (fun _ _ => True) code (bodyPostM (FW none) 0 P fn (fun e w' => ∃ x, e = .returned (V x) ∧ St (cxT P w T Rl fn.ntmps) (LL x) (fun _ _ => True) w'))) : PureT P f vs.toArray V T LL Rl := ⟨fun w hT hR hd hne =>
 (Qv (cxT P w T Rl fn.ntmps) hf hb rfl rfl rfl hlen (St.startT hT hR hd hne) (h w hR)).mono fun _ _ ⟨x, he, hs⟩ => ⟨x, he, by have := hs.keep; simpa [cxT] using this, fun p hp => ⟨(hs.own p hp).1, (hs.own p hp).2.2⟩, hs.distinct⟩⟩
def m1 : Rec := ⟨7, 0, w40, w40, ⟨5, 0, 0, 0⟩, 3, 0, 0⟩
def m2 : Rec := ⟨7, 0, w40, ⟨1, 0, 0, 0⟩, w40, 3, 0, 0⟩
def m3 : Rec := ⟨7, 0, w40, ⟨1, 0, 0, 0⟩, w40, 3, 0, 1⟩
def qG (k v : Int) : Int × Int × Bool :=
 if k = 1 then (if v = 4 then (5, 5, true) else (0, 5, (v == 0 || v == 1 || v == 2 || v == 126)))
 else if k = 2 then (if v = 2 then (2, 5, true) else (v, v, (v == 0 || v == 1)))
 else if k = 3 then (IntKind.i64.wrap (3 * v), 5, (v == 0 || v == 1))
 else if k = 4 then (IntKind.i64.wrap (2 * v), 5, (v == 0 || v == 2))
 else if k = 5 then (IntKind.i64.wrap (5 * v), IntKind.i64.wrap (4 + v), (v == 0 || v == 1))
 else (0, 0, false)
def KG (a b : Int) : Value := .agg [.int .i64 a, .int .i64 b].toArray
def Jaw (v : Value) : Prop := ∃ a b, v = KG a b
def wT : Value → List Int
 | .agg cs => cs.toList.map fun | .int _ n => n | _ => 0
 | _ => []
def Wf (x y : Value) : Bool := decide (wT x = wT y)
theorem zA (a b c d : Int) : Wf (KG a b) (KG c d) = (a == c && b == d) := by
 unfold Wf KG wT
 by_cases h1 : a = c <;> by_cases h2 : b = d <;> simp [h1, h2]
theorem Jq6 : KeyL Tryz.prog 201 Jaw Wf where
 now := ⟨_, rfl, fun a b ⟨a1, a2, ha⟩ ⟨b1, b2, hb⟩ => by subst ha hb; exact .inl rfl⟩
 equal := by
  rintro _ _ w ⟨a, b, rfl⟩ ⟨c, d, rfl⟩; rw [zA]
  show (Op.equalIn (9999 + 1) _ (.agg _) (.agg _)).run _ _ = _
  rw [run_equalIn_struct w 9999 _ _ _ (by kernel_rfl) (by kernel_rfl)]
  simp [go_sem]
  by_cases h1 : a = c <;> by_cases h2 : b = d <;> simp [h1, h2]
 check := by
  rintro _ b w ⟨x, y, rfl⟩; exact ja (by kernel_rfl) (by simp) b 9998 w
def tableKV : List (Value × Value) :=
 [(KG 1 0, KG 0 5), (KG 1 1, KG 0 5), (KG 1 2, KG 0 5), (KG 1 126, KG 0 5), (KG 1 4, KG 5 5), (KG 2 0, KG 0 0), (KG 2 1, KG 1 1), (KG 2 2, KG 2 5),
  (KG 3 0, KG 0 5), (KG 3 1, KG 3 5), (KG 4 0, KG 0 5), (KG 4 2, KG 4 5), (KG 5 0, KG 0 4), (KG 5 1, KG 5 5)]
def J1z : Type := { p : Nat × Array MapEntry // (p.2.toList.map QX).Perm tableKV ∧ p.2.toList.map (·.born) = List.range p.2.size }
theorem Zz : PureE (α := J1z) Tryz.prog 172 [].toArray (fun x => .map (some x.1.1)) (fun x => [(x.1.1, .map x.1.2 x.1.2.size)]) := by
 refine Ke Tryz.func172 rfl rfl fun w => ?_; refine JA ?_; refine JN 6 rfl ?_; refine Jj8 (t := 198) 1 [(1, 2, .agg [.int .i64 1, .int .i64 0].toArray), (2, 3, .agg [.int .i64 0, .int .i64 5].toArray), (4, 4, .agg [.int .i64 1, .int .i64 1].toArray), (5, 5, .agg [.int .i64 0, .int .i64 5].toArray), (7, 6, .agg [.int .i64 1, .int .i64 2].toArray), (8, 7, .agg [.int .i64 0, .int .i64 5].toArray), (10, 8, .agg [.int .i64 1, .int .i64 126].toArray), (11, 9, .agg [.int .i64 0, .int .i64 5].toArray), (13, 10, .agg [.int .i64 1, .int .i64 4].toArray), (14, 11, .agg [.int .i64 5, .int .i64 5].toArray), (16, 12, .agg [.int .i64 2, .int .i64 0].toArray), (17, 13, .agg [.int .i64 0, .int .i64 0].toArray), (19, 14, .agg [.int .i64 2, .int .i64 1].toArray), (20, 15, .agg [.int .i64 1, .int .i64 1].toArray), (22, 16, .agg [.int .i64 2, .int .i64 2].toArray), (23, 17, .agg [.int .i64 2, .int .i64 5].toArray), (25, 18, .agg [.int .i64 3, .int .i64 0].toArray), (26, 19, .agg [.int .i64 0, .int .i64 5].toArray), (28, 20, .agg [.int .i64 3, .int .i64 1].toArray), (29, 21, .agg [.int .i64 3, .int .i64 5].toArray), (31, 22, .agg [.int .i64 4, .int .i64 0].toArray), (32, 23, .agg [.int .i64 0, .int .i64 5].toArray), (34, 24, .agg [.int .i64 4, .int .i64 2].toArray), (35, 25, .agg [.int .i64 4, .int .i64 5].toArray), (37, 26, .agg [.int .i64 5, .int .i64 0].toArray), (38, 27, .agg [.int .i64 0, .int .i64 4].toArray), (40, 28, .agg [.int .i64 5, .int .i64 1].toArray), (41, 29, .agg [.int .i64 5, .int .i64 5].toArray)] [(3, .agg [.int .i64 1, .int .i64 0].toArray, .agg [.int .i64 0, .int .i64 5].toArray), (6, .agg [.int .i64 1, .int .i64 1].toArray, .agg [.int .i64 0, .int .i64 5].toArray), (9, .agg [.int .i64 1, .int .i64 2].toArray, .agg [.int .i64 0, .int .i64 5].toArray), (12, .agg [.int .i64 1, .int .i64 126].toArray, .agg [.int .i64 0, .int .i64 5].toArray), (15, .agg [.int .i64 1, .int .i64 4].toArray, .agg [.int .i64 5, .int .i64 5].toArray), (18, .agg [.int .i64 2, .int .i64 0].toArray, .agg [.int .i64 0, .int .i64 0].toArray), (21, .agg [.int .i64 2, .int .i64 1].toArray, .agg [.int .i64 1, .int .i64 1].toArray), (24, .agg [.int .i64 2, .int .i64 2].toArray, .agg [.int .i64 2, .int .i64 5].toArray), (27, .agg [.int .i64 3, .int .i64 0].toArray, .agg [.int .i64 0, .int .i64 5].toArray), (30, .agg [.int .i64 3, .int .i64 1].toArray, .agg [.int .i64 3, .int .i64 5].toArray), (33, .agg [.int .i64 4, .int .i64 0].toArray, .agg [.int .i64 0, .int .i64 5].toArray), (36, .agg [.int .i64 4, .int .i64 2].toArray, .agg [.int .i64 4, .int .i64 5].toArray), (39, .agg [.int .i64 5, .int .i64 0].toArray, .agg [.int .i64 0, .int .i64 4].toArray), (42, .agg [.int .i64 5, .int .i64 1].toArray, .agg [.int .i64 5, .int .i64 5].toArray)] [(43, 30), (44, 0)] [] Jq6 rfl (by kernel_rfl) ?hops (by kernel_rfl) rfl (by decide) rfl (fun i v h => by cases h) (by decide) rfl (by simp only [List.forall_mem_cons]; exact ⟨⟨_, _, rfl⟩, ⟨_, _, rfl⟩, ⟨_, _, rfl⟩, ⟨_, _, rfl⟩, ⟨_, _, rfl⟩, ⟨_, _, rfl⟩, ⟨_, _, rfl⟩, ⟨_, _, rfl⟩, ⟨_, _, rfl⟩, ⟨_, _, rfl⟩, ⟨_, _, rfl⟩, ⟨_, _, rfl⟩, ⟨_, _, rfl⟩, ⟨_, _, rfl⟩, by simp⟩) (by decide) ?_
 case hops =>
  intro i o h
  match i, h with
  | 0, h => cases Option.some.inj h; exact MLit.mk
  | 1, h => cases Option.some.inj h; exact MLit.pure (s := 2) (v := .agg [.int .i64 1, .int .i64 0].toArray) (Jr (n := 0) rfl) rfl rfl rfl (Js (r := [_, _]) rfl rfl)
  | 2, h => cases Option.some.inj h; exact MLit.pure (s := 3) (v := .agg [.int .i64 0, .int .i64 5].toArray) (Jr (n := 1) rfl) rfl rfl rfl (Js (r := [_, _]) rfl rfl)
  | 3, h => cases Option.some.inj h; exact MLit.ins (j1 := 1) (j2 := 2) (k := .agg [.int .i64 1, .int .i64 0].toArray) (v := .agg [.int .i64 0, .int .i64 5].toArray) (Jr (n := 0) rfl) (Jr (n := 0) rfl) (Jr (n := 1) rfl) rfl rfl rfl
  | 4, h => cases Option.some.inj h; exact MLit.pure (s := 4) (v := .agg [.int .i64 1, .int .i64 1].toArray) (Jr (n := 2) rfl) rfl rfl rfl (Js (r := [_, _]) rfl rfl)
  | 5, h => cases Option.some.inj h; exact MLit.pure (s := 5) (v := .agg [.int .i64 0, .int .i64 5].toArray) (Jr (n := 3) rfl) rfl rfl rfl (Js (r := [_, _]) rfl rfl)
  | 6, h => cases Option.some.inj h; exact MLit.ins (j1 := 4) (j2 := 5) (k := .agg [.int .i64 1, .int .i64 1].toArray) (v := .agg [.int .i64 0, .int .i64 5].toArray) (Jr (n := 1) rfl) (Jr (n := 2) rfl) (Jr (n := 3) rfl) rfl rfl rfl
  | 7, h => cases Option.some.inj h; exact MLit.pure (s := 6) (v := .agg [.int .i64 1, .int .i64 2].toArray) (Jr (n := 4) rfl) rfl rfl rfl (Js (r := [_, _]) rfl rfl)
  | 8, h => cases Option.some.inj h; exact MLit.pure (s := 7) (v := .agg [.int .i64 0, .int .i64 5].toArray) (Jr (n := 5) rfl) rfl rfl rfl (Js (r := [_, _]) rfl rfl)
  | 9, h => cases Option.some.inj h; exact MLit.ins (j1 := 7) (j2 := 8) (k := .agg [.int .i64 1, .int .i64 2].toArray) (v := .agg [.int .i64 0, .int .i64 5].toArray) (Jr (n := 2) rfl) (Jr (n := 4) rfl) (Jr (n := 5) rfl) rfl rfl rfl
  | 10, h => cases Option.some.inj h; exact MLit.pure (s := 8) (v := .agg [.int .i64 1, .int .i64 126].toArray) (Jr (n := 6) rfl) rfl rfl rfl (Js (r := [_, _]) rfl rfl)
  | 11, h => cases Option.some.inj h; exact MLit.pure (s := 9) (v := .agg [.int .i64 0, .int .i64 5].toArray) (Jr (n := 7) rfl) rfl rfl rfl (Js (r := [_, _]) rfl rfl)
  | 12, h => cases Option.some.inj h; exact MLit.ins (j1 := 10) (j2 := 11) (k := .agg [.int .i64 1, .int .i64 126].toArray) (v := .agg [.int .i64 0, .int .i64 5].toArray) (Jr (n := 3) rfl) (Jr (n := 6) rfl) (Jr (n := 7) rfl) rfl rfl rfl
  | 13, h => cases Option.some.inj h; exact MLit.pure (s := 10) (v := .agg [.int .i64 1, .int .i64 4].toArray) (Jr (n := 8) rfl) rfl rfl rfl (Js (r := [_, _]) rfl rfl)
  | 14, h => cases Option.some.inj h; exact MLit.pure (s := 11) (v := .agg [.int .i64 5, .int .i64 5].toArray) (Jr (n := 9) rfl) rfl rfl rfl (Js (r := [_, _]) rfl rfl)
  | 15, h => cases Option.some.inj h; exact MLit.ins (j1 := 13) (j2 := 14) (k := .agg [.int .i64 1, .int .i64 4].toArray) (v := .agg [.int .i64 5, .int .i64 5].toArray) (Jr (n := 4) rfl) (Jr (n := 8) rfl) (Jr (n := 9) rfl) rfl rfl rfl
  | 16, h => cases Option.some.inj h; exact MLit.pure (s := 12) (v := .agg [.int .i64 2, .int .i64 0].toArray) (Jr (n := 10) rfl) rfl rfl rfl (Js (r := [_, _]) rfl rfl)
  | 17, h => cases Option.some.inj h; exact MLit.pure (s := 13) (v := .agg [.int .i64 0, .int .i64 0].toArray) (Jr (n := 11) rfl) rfl rfl rfl (Js (r := [_, _]) rfl rfl)
  | 18, h => cases Option.some.inj h; exact MLit.ins (j1 := 16) (j2 := 17) (k := .agg [.int .i64 2, .int .i64 0].toArray) (v := .agg [.int .i64 0, .int .i64 0].toArray) (Jr (n := 5) rfl) (Jr (n := 10) rfl) (Jr (n := 11) rfl) rfl rfl rfl
  | 19, h => cases Option.some.inj h; exact MLit.pure (s := 14) (v := .agg [.int .i64 2, .int .i64 1].toArray) (Jr (n := 12) rfl) rfl rfl rfl (Js (r := [_, _]) rfl rfl)
  | 20, h => cases Option.some.inj h; exact MLit.pure (s := 15) (v := .agg [.int .i64 1, .int .i64 1].toArray) (Jr (n := 13) rfl) rfl rfl rfl (Js (r := [_, _]) rfl rfl)
  | 21, h => cases Option.some.inj h; exact MLit.ins (j1 := 19) (j2 := 20) (k := .agg [.int .i64 2, .int .i64 1].toArray) (v := .agg [.int .i64 1, .int .i64 1].toArray) (Jr (n := 6) rfl) (Jr (n := 12) rfl) (Jr (n := 13) rfl) rfl rfl rfl
  | 22, h => cases Option.some.inj h; exact MLit.pure (s := 16) (v := .agg [.int .i64 2, .int .i64 2].toArray) (Jr (n := 14) rfl) rfl rfl rfl (Js (r := [_, _]) rfl rfl)
  | 23, h => cases Option.some.inj h; exact MLit.pure (s := 17) (v := .agg [.int .i64 2, .int .i64 5].toArray) (Jr (n := 15) rfl) rfl rfl rfl (Js (r := [_, _]) rfl rfl)
  | 24, h => cases Option.some.inj h; exact MLit.ins (j1 := 22) (j2 := 23) (k := .agg [.int .i64 2, .int .i64 2].toArray) (v := .agg [.int .i64 2, .int .i64 5].toArray) (Jr (n := 7) rfl) (Jr (n := 14) rfl) (Jr (n := 15) rfl) rfl rfl rfl
  | 25, h => cases Option.some.inj h; exact MLit.pure (s := 18) (v := .agg [.int .i64 3, .int .i64 0].toArray) (Jr (n := 16) rfl) rfl rfl rfl (Js (r := [_, _]) rfl rfl)
  | 26, h => cases Option.some.inj h; exact MLit.pure (s := 19) (v := .agg [.int .i64 0, .int .i64 5].toArray) (Jr (n := 17) rfl) rfl rfl rfl (Js (r := [_, _]) rfl rfl)
  | 27, h => cases Option.some.inj h; exact MLit.ins (j1 := 25) (j2 := 26) (k := .agg [.int .i64 3, .int .i64 0].toArray) (v := .agg [.int .i64 0, .int .i64 5].toArray) (Jr (n := 8) rfl) (Jr (n := 16) rfl) (Jr (n := 17) rfl) rfl rfl rfl
  | 28, h => cases Option.some.inj h; exact MLit.pure (s := 20) (v := .agg [.int .i64 3, .int .i64 1].toArray) (Jr (n := 18) rfl) rfl rfl rfl (Js (r := [_, _]) rfl rfl)
  | 29, h => cases Option.some.inj h; exact MLit.pure (s := 21) (v := .agg [.int .i64 3, .int .i64 5].toArray) (Jr (n := 19) rfl) rfl rfl rfl (Js (r := [_, _]) rfl rfl)
  | 30, h => cases Option.some.inj h; exact MLit.ins (j1 := 28) (j2 := 29) (k := .agg [.int .i64 3, .int .i64 1].toArray) (v := .agg [.int .i64 3, .int .i64 5].toArray) (Jr (n := 9) rfl) (Jr (n := 18) rfl) (Jr (n := 19) rfl) rfl rfl rfl
  | 31, h => cases Option.some.inj h; exact MLit.pure (s := 22) (v := .agg [.int .i64 4, .int .i64 0].toArray) (Jr (n := 20) rfl) rfl rfl rfl (Js (r := [_, _]) rfl rfl)
  | 32, h => cases Option.some.inj h; exact MLit.pure (s := 23) (v := .agg [.int .i64 0, .int .i64 5].toArray) (Jr (n := 21) rfl) rfl rfl rfl (Js (r := [_, _]) rfl rfl)
  | 33, h => cases Option.some.inj h; exact MLit.ins (j1 := 31) (j2 := 32) (k := .agg [.int .i64 4, .int .i64 0].toArray) (v := .agg [.int .i64 0, .int .i64 5].toArray) (Jr (n := 10) rfl) (Jr (n := 20) rfl) (Jr (n := 21) rfl) rfl rfl rfl
  | 34, h => cases Option.some.inj h; exact MLit.pure (s := 24) (v := .agg [.int .i64 4, .int .i64 2].toArray) (Jr (n := 22) rfl) rfl rfl rfl (Js (r := [_, _]) rfl rfl)
  | 35, h => cases Option.some.inj h; exact MLit.pure (s := 25) (v := .agg [.int .i64 4, .int .i64 5].toArray) (Jr (n := 23) rfl) rfl rfl rfl (Js (r := [_, _]) rfl rfl)
  | 36, h => cases Option.some.inj h; exact MLit.ins (j1 := 34) (j2 := 35) (k := .agg [.int .i64 4, .int .i64 2].toArray) (v := .agg [.int .i64 4, .int .i64 5].toArray) (Jr (n := 11) rfl) (Jr (n := 22) rfl) (Jr (n := 23) rfl) rfl rfl rfl
  | 37, h => cases Option.some.inj h; exact MLit.pure (s := 26) (v := .agg [.int .i64 5, .int .i64 0].toArray) (Jr (n := 24) rfl) rfl rfl rfl (Js (r := [_, _]) rfl rfl)
  | 38, h => cases Option.some.inj h; exact MLit.pure (s := 27) (v := .agg [.int .i64 0, .int .i64 4].toArray) (Jr (n := 25) rfl) rfl rfl rfl (Js (r := [_, _]) rfl rfl)
  | 39, h => cases Option.some.inj h; exact MLit.ins (j1 := 37) (j2 := 38) (k := .agg [.int .i64 5, .int .i64 0].toArray) (v := .agg [.int .i64 0, .int .i64 4].toArray) (Jr (n := 12) rfl) (Jr (n := 24) rfl) (Jr (n := 25) rfl) rfl rfl rfl
  | 40, h => cases Option.some.inj h; exact MLit.pure (s := 28) (v := .agg [.int .i64 5, .int .i64 1].toArray) (Jr (n := 26) rfl) rfl rfl rfl (Js (r := [_, _]) rfl rfl)
  | 41, h => cases Option.some.inj h; exact MLit.pure (s := 29) (v := .agg [.int .i64 5, .int .i64 5].toArray) (Jr (n := 27) rfl) rfl rfl rfl (Js (r := [_, _]) rfl rfl)
  | 42, h => cases Option.some.inj h; exact MLit.ins (j1 := 40) (j2 := 41) (k := .agg [.int .i64 5, .int .i64 1].toArray) (v := .agg [.int .i64 5, .int .i64 5].toArray) (Jr (n := 13) rfl) (Jr (n := 26) rfl) (Jr (n := 27) rfl) rfl rfl rfl
  | 43, h => cases Option.some.inj h; exact MLit.mv (s := 30) (x := 1) (Jr (n := 0) rfl) rfl rfl (Or.inl rfl) rfl (Or.inl rfl)
  | 44, h => cases Option.some.inj h; exact MLit.mv (s := 0) (x := 30) (Jr (n := 1) rfl) rfl rfl (Or.inr rfl) rfl (Or.inr ⟨43, Jr (n := 0) rfl, rfl⟩)
  | n + 45, h => simp at h
 intro mr mes hmes hborn; refine ZK 2 rfl ?_; refine pT rfl rfl rfl fun w1 hs1 => ?_; exact ⟨⟨(mr, mes), hmes, hborn⟩, rfl, hs1⟩
end Go.Proofs.YtfaagelglpgpkaaGreatDoor
