import Derived.Test.YtfaagelglpgpkaaGreatDoorZtOrderd
import Derived.Test.YtfaagelglpgpkaaGreatDoorProg
set_option maxRecDepth 100000
namespace Go.Proofs.YtfaagelglpgpkaaGreatDoor
set_option linter.all false
open Go.SL Go.RowKit Go.Shelf
theorem Joz {R : Ji} {xs : List (BS × BS)} {p : Pl} (hl : xs.length ≤ 1000) (hs : Seg R xs.length (xs.flatMap Qw) p) :
  PureT (α := { row : QK // rowOk 2 xs.length (xs.flatMap Qw) row }) Tryz.prog 325 [Kz xs.length p].toArray (fun x => J9 xs.length x.1) [] (fun x => JH 97 (xs.flatMap Qw) x.1) R := by
 cases p with
 | none =>
  have h0 : xs = [] := List.length_eq_zero_iff.1 hs
  subst h0; refine Ju Tryz.func325 rfl rfl fun w => ?_; refine JB ?_; refine JP 12 rfl ?_; refine cD (fun g => ?_) fun g => ?_
  refine Km 7 rfl ?_; refine pT rfl rfl rfl fun w1 hs1 => ?_; exact ⟨⟨none, rfl, rfl⟩, rfl, hs1⟩
  try exact Bool.noConfusion g
 | some q =>
  refine Ju Tryz.func325 rfl rfl fun w => ?_; refine JB ?_; refine JP 12 rfl ?_; refine J1 rfl (fun g => ?_) (fun g => ?_)
  try exact Bool.noConfusion g
  ·refine Jq 4 rfl ?_; refine WQ rfl rfl rfl rfl fun r1 => ?_; refine QI rfl (vE (k := 0) (b := 32) (sz := 2) rfl rfl rfl rfl rfl rfl hs oR rfl rfl rfl rfl rfl (by decide) (Ke Kf xs) (Yg jc xs) (by omega) (by omega) fun row hrow => (Jy 4 rfl ?_)); refine pT rfl rfl rfl fun w1 hs1 => ?_; exact ⟨⟨row, hrow⟩, rfl, hs1.weakL (List.sublist_append_left _ _)⟩
theorem Jkd {R : Ji} {xs : List (BS × BS)} {row : QK} (hl : xs.length ≤ 1000) (hrow : rowOk 2 xs.length (xs.flatMap Qw) row) {i : Nat} (hi : i ≤ xs.length) {y : (BS × BS)} {rv : Nat} (hv : (rv, Obj.cells (Qw y).toArray 97 (0, 0)) ∈ R) :
  PureT (α := { row' : QK // rowOk 2 (xs.length + 1) ((xs.take i ++ y :: xs.drop i).flatMap Qw) row' }) Tryz.prog 326 [J9 xs.length row, .int .i64 (i : Int), .slice (some ⟨rv, 0, none⟩) 1 1].toArray (fun x => J9 (xs.length + 1) x.1) (JH 97 (xs.flatMap Qw) row) (fun x => JH 97 ((xs.take i ++ y :: xs.drop i).flatMap Qw) x.1) R := by
 obtain ⟨A, hA⟩ : ∃ A, A = (xs.take i).flatMap Qw := ⟨_, rfl⟩
 obtain ⟨B, hB⟩ : ∃ B, B = (xs.drop i).flatMap Qw := ⟨_, rfl⟩
 obtain ⟨n, hn⟩ : ∃ n, n = xs.length := ⟨_, rfl⟩
 have e1 : xs.flatMap Qw = A ++ B := by rw [hA, hB, ← List.flatMap_append, List.take_append_drop]
 have e2 : (xs.take i ++ y :: xs.drop i).flatMap Qw = A ++ (Qw y ++ B) := by rw [List.flatMap_append, List.flatMap_cons, hA, hB]
 have lA : A.length = i * 2 := by rw [hA, Ke Kf, List.length_take, Nat.min_eq_left hi]
 have lB : B.length = (n - i) * 2 := by rw [hB, Ke Kf, List.length_drop, hn]
 have lF : (Qw y).length = 2 := Kf y
 have oF : (Qw y).all Qt = true := jc y
 have oA : A.all Qt = true := by rw [hA]; exact Yg jc _
 have oB : B.all Qt = true := by rw [hB]; exact Yg jc _
 rw [e1] at hrow; rw [e1, e2]; rw [← hn] at hl hi hrow ⊢; clear hA hB e1 e2 hn
 cases row with
 | none =>
  obtain ⟨rfl, hAB⟩ := hrow
  obtain rfl : i = 0 := by omega
  obtain ⟨rfl, rfl⟩ := List.append_eq_nil_iff.1 hAB
  refine Ju Tryz.func326 rfl rfl fun w => ?_; refine JB ?_; refine Jq 15 rfl ?_; refine LR rfl (JQ rfl rfl) ?_; refine JM 10 rfl ?_; refine cD (fun g => ?_) fun g => ?_
  first | exact Bool.noConfusion g | omega
  refine Jq 5 rfl ?_; refine LR rfl (JQ rfl rfl) ?_; refine JM 11 rfl ?_; refine J1 rfl (fun g => ?_) (fun g => ?_)
  try simp only [ZZ] at g
  refine Jq 4 rfl ?_; refine VF (n := 0) (m := 1) (b := 32) (sz := 2) (news := Qw y) (xs := []) (L0 := []) rfl rfl rfl rfl (Or.inr hv) rfl rfl rfl rfl rfl (by decide) rfl rfl oF (by decide) SlOwn.nil (by decide) (by decide) fun r1 cap1 sp1 hsp1 => ?_; refine Jy 5 rfl ?_; refine pT rfl rfl rfl fun w1 hs1 => ?_; exact ⟨⟨some (r1, cap1, sp1), by simp [lF], hsp1⟩, rfl, by simpa [JH] using hs1⟩
  try exact Bool.noConfusion g
 | some q =>
  obtain ⟨r, cap, sp⟩ := q
  obtain ⟨hr1, hr2⟩ := hrow
  have hcap : n ≤ cap := by omega
  refine Ju Tryz.func326 rfl rfl fun w => ?_; refine JB ?_; change HC _ _ _ [(r, .cells ((A ++ B) ++ sp).toArray 97 (0, 0))] _ _ _; refine Jq 9 rfl ?_; refine LR rfl (JL (m := i) (kl := some i) (kh := none) (km := none) (q := n) (z := cap) rfl rfl rfl ⟨_, rfl⟩ trivial trivial rfl rfl rfl (by omega) (by omega) (by omega) (fun _ => rfl) rfl) ?_; refine JG 5 rfl ?_; refine LR rfl (JQ rfl rfl) ?_; refine JM 10 rfl ?_; refine J1 rfl (fun g => ?_) (fun g => ?_)
  try exact Bool.noConfusion g
  ·refine Jq 5 rfl ?_; refine LR rfl (JQ rfl rfl) ?_; refine JM 11 rfl ?_; refine J1 rfl (fun g => ?_) (fun g => ?_)
   try simp only [ZZ] at g
   refine Jq 4 rfl ?_
   obtain rfl : B = [] := List.length_eq_zero_iff.1 (by omega)
   refine VF (n := n) (m := 1) (b := 32) (sz := 2) (news := Qw y) (xs := A ++ []) (L0 := []) rfl rfl rfl rfl (Or.inr hv) rfl rfl rfl rfl rfl (by decide) rfl lF oF (by decide) (SlOwn.own (k := 0) rfl (by simp only [List.toList_toArray]; rw [List.take_left' hr1]) hr1 (by rw [List.size_toArray, List.length_append, hr1]; omega) rfl) (by omega) (by omega) fun r1 cap1 sp1 hsp1 => ?_; refine Jy 5 rfl ?_; refine pT rfl rfl rfl fun w1 hs1 => ?_; exact ⟨⟨some (r1, cap1, sp1), by simp only [List.length_append, List.length_nil, lF]; omega, hsp1⟩, rfl, by simpa [JH] using hs1⟩
   ·try simp only [ZZ] at g
    refine Jq 8 rfl ?_; refine Jc (by omega) (by omega) ?_; refine QI rfl (LR rfl (Jgp rfl rfl) (JM 3 rfl ?_)); refine cD (fun g => ?_) fun g => ?_
    ·refine Jq 4 rfl ?_
     refine LR rfl (JL (sz := 2) (q := i) (kl := none) (kh := some (i)) (km := none) (m := 0) (z := cap) (off' := 0) rfl rfl rfl trivial ⟨_, rfl⟩ trivial rfl rfl rfl (by omega) (by omega) (by omega) (fun h => by cases h) (by split <;> omega)) ?_; refine LS 3 [] rfl rfl ?_; refine Jc (by omega) (by omega) ?_; refine JG 2 rfl ?_; refine J3 (show _ = Value.int .i64 ((n + 1 - i : Nat) : Int) from by rw [wrap_i64 (by omega) (by omega)]; congr 1 <;> omega) ?_; refine vw (r := r) (off := 0) (n := i) (cap := cap) (m := n + 1 - i) (sz := 2) (b := 32) (xs := A) rfl rfl rfl rfl (kn 0 rfl) rfl rfl rfl rfl rfl rfl (by decide) (by simp only [List.toList_toArray, List.drop_zero]; rw [List.append_assoc, List.take_left' lA]) lA (by omega) (by omega) (by omega) (by omega) (by omega) fun r2 cap2 Z sp2 hZ hsp2 => ?_; rw [show i + (n + 1 - i) = n + 1 by omega] at hsp2 ⊢
     obtain ⟨Z1, Z2, rfl, lZ1⟩ := cut (l := Z) (a := 2) (by omega)
     have lZ2 : Z2.length = (n - i) * 2 := by rw [List.length_append, lZ1] at hZ; omega
     rw [show A ++ (Z1 ++ Z2) ++ sp2 = A ++ (Z1 ++ (Z2 ++ sp2)) by simp only [List.append_assoc]]; refine JG 7 rfl ?_; refine LR rfl (JL (sz := 2) (m := i) (kl := some (i)) (kh := none) (km := none) (q := n + 1) (z := cap2) (off' := i * 2) rfl rfl rfl ⟨_, rfl⟩ trivial trivial rfl rfl rfl (by omega) (by omega) (by omega) (fun _ => rfl) (by rw [if_neg (by omega)]; omega)) ?_; refine QI rfl ?_
     refine Xl (k := 0) (n := 1) (sz := 2) (vs := Qw y) (cs' := A ++ (Qw y ++ (Z2 ++ sp2))) rfl rfl rfl rfl rfl (Or.inr hv) rfl rfl (by simp only [Nat.min_def]; split <;> omega) rfl lF oF (by simp only [List.size_toArray, List.length_append]; omega) (WR lA (by rw [lZ1])) rfl ?_; refine JM 3 rfl ?_; refine JJ 8 (by kernel_rfl) (by kernel_rfl) ?_; refine Jb rfl rfl rfl (Jg rfl) ?_; refine Jb rfl rfl rfl (Jg rfl) ?_; refine Jb rfl rfl rfl (Jg rfl) ?_
     refine Jb rfl rfl rfl (Jv rfl rfl rfl) ?_; refine Qa (show _ = Value.int .i64 ((i + 1 : Nat) : Int) from by rw [wrap_i64 (by omega) (by omega)]; congr 1 <;> omega) ?_; refine Jb rfl rfl rfl (JL (sz := 2) (m := i + 1) (kl := some (i + 1)) (kh := none) (km := none) (q := n + 1) (z := cap2) (off' := (i + 1) * 2) rfl rfl rfl ⟨_, rfl⟩ trivial trivial rfl rfl rfl (by omega) (by omega) (by omega) (fun _ => rfl) (by rw [if_neg (by omega)]; omega)) ?_; refine Jb rfl rfl rfl (Jg rfl) ?_; refine Jb rfl rfl rfl (Jg rfl) ?_; refine Jb rfl rfl rfl (JL (sz := 2) (m := i) (kl := some (i)) (kh := none) (km := none) (q := n) (z := cap) (off' := i * 2) rfl rfl rfl ⟨_, rfl⟩ trivial trivial rfl rfl rfl (by omega) (by omega) (by omega) (fun _ => rfl) (by rw [if_neg (by omega)]; omega)) ?_; refine JW ?_; rw [show A ++ (Qw y ++ (Z2 ++ sp2)) = (A ++ Qw y) ++ (Z2 ++ sp2) by simp only [List.append_assoc]]
     refine Xl (k := 0) (n := n - i) (sz := 2) (vs := B) (cs' := (A ++ Qw y) ++ (B ++ sp2)) rfl rfl rfl rfl rfl (kn 1 rfl) rfl rfl (by simp only [Nat.min_def]; split <;> omega) (by simp only [List.toList_toArray]; rw [List.append_assoc, List.drop_left' lA, List.take_left' lB]) lB oB (by simp only [List.size_toArray, List.length_append]; omega) (WR (by rw [List.length_append, lA, lF]; omega) lZ2) rfl ?_; refine Jy 10 rfl ?_; refine pT rfl rfl rfl fun w1 hs1 => ?_; exact ⟨⟨some (r2, cap2, sp2), by simp only [List.length_append]; omega, hsp2⟩, rfl, hs1.weakL (by simp [JH])⟩
    ·refine Jq 8 rfl ?_; refine J3 (show _ = Value.int .i64 ((n + 1 : Nat) : Int) from by rw [wrap_i64 (by omega) (by omega)]; congr 1 <;> omega) ?_
     refine LR rfl (JL (sz := 2) (q := n + 1) (kl := none) (kh := some (n + 1)) (km := none) (m := 0) (z := cap) (off' := 0) rfl rfl rfl trivial ⟨_, rfl⟩ trivial rfl rfl rfl (by omega) (by omega) (by omega) (fun h => by cases h) (by split <;> omega)) ?_; refine JG 11 rfl ?_; refine J3 (show _ = Value.int .i64 ((i + 1 : Nat) : Int) from by rw [wrap_i64 (by omega) (by omega)]; congr 1 <;> omega) ?_; refine LR rfl (JL (sz := 2) (m := i + 1) (kl := some (i + 1)) (kh := none) (km := none) (q := n + 1) (z := cap) (off' := (i + 1) * 2) rfl rfl rfl ⟨_, rfl⟩ trivial trivial rfl rfl rfl (by omega) (by omega) (by omega) (fun _ => rfl) (by rw [if_neg (by omega)]; omega)) ?_; refine LR rfl (qf (k := 0) rfl rfl rfl hv rfl rfl rfl (by simp only [List.size_toArray, List.length_append]; omega) Tryz.func356 rfl rfl rfl rfl) ?_; refine JM 3 rfl ?_; refine J1 rfl (fun g => ?_) (fun g => ?_)
     ·try simp only [ZZ] at g
      refine JP 1 rfl ?_; refine JJ 8 (by kernel_rfl) (by kernel_rfl) ?_; refine Jb rfl rfl rfl (Jg rfl) ?_; refine Jb rfl rfl rfl (Jg rfl) ?_; refine Jb rfl rfl rfl (Jg rfl) ?_
      refine Jb rfl rfl rfl (Jv rfl rfl rfl) ?_; refine Qa (show _ = Value.int .i64 ((i + 1 : Nat) : Int) from by rw [wrap_i64 (by omega) (by omega)]; congr 1 <;> omega) ?_; refine Jb rfl rfl rfl (JL (sz := 2) (m := i + 1) (kl := some (i + 1)) (kh := none) (km := none) (q := n + 1) (z := cap) (off' := (i + 1) * 2) rfl rfl rfl ⟨_, rfl⟩ trivial trivial rfl rfl rfl (by omega) (by omega) (by omega) (fun _ => rfl) (by rw [if_neg (by omega)]; omega)) ?_; refine Jb rfl rfl rfl (Jg rfl) ?_; refine Jb rfl rfl rfl (Jg rfl) ?_; refine Jb rfl rfl rfl (JL (sz := 2) (m := i) (kl := some (i)) (kh := none) (km := none) (q := n + 1) (z := cap) (off' := i * 2) rfl rfl rfl ⟨_, rfl⟩ trivial trivial rfl rfl rfl (by omega) (by omega) (by omega) (fun _ => rfl) (by rw [if_neg (by omega)]; omega)) ?_; refine JW ?_
      obtain ⟨X1, X2, hX, lX1⟩ := cut (l := B ++ sp) (a := 2) (by rw [List.length_append]; omega)
      obtain ⟨X3, X4, rfl, lX3⟩ := cut (l := X2) (a := (n - i) * 2) (by have := congrArg List.length hX; simp only [List.length_append] at this; omega)
      rw [show (A ++ B) ++ sp = (A ++ X1) ++ (X3 ++ X4) by rw [List.append_assoc, hX]; simp only [List.append_assoc]]
      refine Xl (k := 0) (n := n - i) (sz := 2) (vs := B) (cs' := (A ++ X1) ++ (B ++ X4)) rfl rfl rfl rfl rfl (kn 0 rfl) rfl rfl (by simp only [Nat.min_def]; split <;> omega) (by simp only [List.toList_toArray]; rw [List.append_assoc, List.drop_left' lA, ← hX, List.take_left' lB]) lB oB (by have := congrArg List.length hX; simp only [List.size_toArray, List.length_append] at this ⊢; omega) (WR (by rw [List.length_append, lA, lX1]; omega) lX3) rfl ?_; refine JG 6 rfl ?_; refine LR rfl (JL (sz := 2) (m := i) (kl := some (i)) (kh := none) (km := none) (q := n + 1) (z := cap) (off' := i * 2) rfl rfl rfl ⟨_, rfl⟩ trivial trivial rfl rfl rfl (by omega) (by omega) (by omega) (fun _ => rfl) (by rw [if_neg (by omega)]; omega)) ?_; refine QI rfl ?_; rw [show (A ++ X1) ++ (B ++ X4) = A ++ (X1 ++ (B ++ X4)) by simp only [List.append_assoc]]
      refine Xl (k := 0) (n := 1) (sz := 2) (vs := Qw y) (cs' := A ++ (Qw y ++ (B ++ X4))) rfl rfl rfl rfl rfl (Or.inr hv) rfl rfl (by simp only [Nat.min_def]; split <;> omega) rfl lF oF (by simp only [List.size_toArray, List.length_append]; omega) (WR lA (by rw [lX1])) rfl ?_; refine Jy 10 rfl ?_; refine pT rfl rfl rfl fun w1 hs1 => ?_; exact ⟨⟨some (r, cap, X4), by simp only [List.length_append]; omega, by have := congrArg List.length hX; simp only [List.length_append] at this; omega⟩, rfl, by simpa [JH] using hs1⟩
     ·try exact Bool.noConfusion g
theorem Jtr {R : Ji} {xs : List AcL} {p : Pl} (hl : xs.length ≤ 1000) (hs : Seg R xs.length (xs.flatMap AcL.cells) p) (hso : Ks AcL.addr xs) (y : AcL) :
  PureT (α := { row : QK // rowOk 8 (KU AcL.addr y xs).length ((KU AcL.addr y xs).flatMap AcL.cells) row }) Tryz.prog 256 [Kz xs.length p, vA y, fV 98].toArray (fun x => J9 (KU AcL.addr y xs).length x.1) [] (fun x => JH 48 ((KU AcL.addr y xs).flatMap AcL.cells) x.1) R := by
 have hins := Jmr (x := y) hso
 obtain ⟨j, hj⟩ : ∃ j, j = Zz AcL.addr (AcL.addr y) xs := ⟨_, rfl⟩
 have hjl : j ≤ xs.length := hj ▸ Jmp _ _
 have hpl := Jox (k := AcL.addr y) hl hs hso
 have hlt : Vv AcL.addr (AcL.addr y) xs = true → j < xs.length := fun h => hj ▸ Jbv h
 rw [← hj] at hins hpl
 obtain ⟨b, hb⟩ : ∃ b, b = Vv AcL.addr (AcL.addr y) xs := ⟨_, rfl⟩
 rw [← hb] at hins hpl hlt; clear hj hb; refine Ju Tryz.func256 rfl rfl fun w => ?_; refine JB ?_; refine Jq 2 rfl ?_; refine LN rfl fun r1 => ?_; refine XB 8 [0] rfl rfl ?_; refine Jo rfl rfl rfl Jsj (xz y) ?_; refine QI rfl (Je rfl rfl rfl (enters_of Tryz.func322 (by kernel_rfl) rfl) hpl oR (JG 10 rfl ?_)); refine Kl rfl rfl rfl (enters_of Tryz.func79 (by kernel_rfl) rfl) (Jc6 hl hs) oR fun x => ?_
 obtain ⟨row, hrow⟩ := x
 change HL _ _ ((20, J9 xs.length row) :: _) (JH 48 (xs.flatMap AcL.cells) row ++ [(r1, _)]) _ _ _ _; refine JM 9 rfl ?_; refine cD (fun g => ?_) fun g => ?_
 refine JP 1 rfl ?_
 have hltb := hlt (by assumption)
 obtain ⟨r2, cap2, sp2, rfl⟩ := row_some hrow (by omega)
 change HC _ _ _ [(r2, .cells (xs.flatMap AcL.cells ++ sp2).toArray 48 (0, 0)), (r1, _)] _ _ _; refine Jq 3 rfl ?_; refine LR rfl (Jp (vs := AcL.cells y) rfl (kn 1 rfl) rfl rfl rfl rfl) ?_; refine LR rfl (JF (j := j) (m := 8) rfl rfl rfl rfl rfl (by omega) rfl) ?_; refine Qz (k := 0) (n := 8) (vs := (AcL.cells y).toArray) (cs' := ((xs.set j y).flatMap AcL.cells ++ sp2).toArray) rfl rfl rfl rfl rfl rfl (AcL.one y) (by have := hrow.1; simp only [List.size_toArray, List.length_append, Ke AcL.len]; omega) (by apply Array.toList_inj.1; simp only [List.toList_toArray, Nat.zero_add]; exact zO AcL.len hltb y sp2) rfl ?_; refine Jy 10 rfl ?_; refine pT rfl rfl rfl fun w1 hs1 => ?_
 (rw [if_pos (by assumption)] at hins
  rw [hins, List.length_set]
  exact ⟨⟨some (r2, cap2, sp2), hrow.same (by rw [Ke AcL.len, Ke AcL.len, List.length_set])⟩, rfl, hs1.weakL (by simp [JH])⟩)
 ·refine Jq 6 rfl ?_; refine LR rfl (Jp (vs := AcL.cells y) rfl (Or.inl (List.mem_append_right _ List.mem_cons_self)) rfl rfl rfl rfl) ?_; refine JK (n := 1) (sz := 8) (vs := [_]) (zs := [_, _, _, _, _, _, _, _]) (r := AcL.cells y) rfl rfl rfl rfl rfl rfl rfl rfl rfl (by rw [Kh]; exact rfl) rfl fun rv => ?_; refine Qk (T := JH 48 (xs.flatMap AcL.cells) row) (L0 := [(rv, _), (r1, _)]) (Rl := [(rv, Obj.cells (AcL.cells y).toArray 48 (0, 0))]) (by exact List.perm_middle.symm) rfl rfl rfl (enters_of Tryz.func323 (by kernel_rfl) rfl) (Jkc (i := j) (y := y) hl hrow hjl List.mem_cons_self) (fun q hq => Or.inl (by rw [List.mem_singleton.1 hq]; exact List.mem_cons_self)) fun x => ?_
  obtain ⟨row2, hrow2⟩ := x
  refine Jy 4 rfl ?_; refine pT rfl rfl rfl fun w1 hs1 => ?_
  (rw [if_neg (by simp_all)] at hins
   have hln : (xs.take j ++ y :: xs.drop j).length = xs.length + 1 := by simp only [List.length_append, List.length_take, List.length_cons, List.length_drop]; omega
   rw [hins, hln]
   exact ⟨⟨row2, hrow2⟩, rfl, hs1.weakL (List.sublist_append_left _ _)⟩)
theorem Jts {R : Ji} {xs : List (BS × BS)} {p : Pl} (hl : xs.length ≤ 1000) (hs : Seg R xs.length (xs.flatMap Qw) p) (hso : Ks Prod.fst xs) (y : (BS × BS)) :
  PureT (α := { row : QK // rowOk 2 (KU Prod.fst y xs).length ((KU Prod.fst y xs).flatMap Qw) row }) Tryz.prog 257 [Kz xs.length p, vS y, fV 156].toArray (fun x => J9 (KU Prod.fst y xs).length x.1) [] (fun x => JH 97 ((KU Prod.fst y xs).flatMap Qw) x.1) R := by
 have hins := Jmr (x := y) hso
 obtain ⟨j, hj⟩ : ∃ j, j = Zz Prod.fst (Prod.fst y) xs := ⟨_, rfl⟩
 have hjl : j ≤ xs.length := hj ▸ Jmp _ _
 have hpl := Joy (k := Prod.fst y) hl hs hso
 have hlt : Vv Prod.fst (Prod.fst y) xs = true → j < xs.length := fun h => hj ▸ Jbv h
 rw [← hj] at hins hpl
 obtain ⟨b, hb⟩ : ∃ b, b = Vv Prod.fst (Prod.fst y) xs := ⟨_, rfl⟩
 rw [← hb] at hins hpl hlt; clear hj hb; refine Ju Tryz.func257 rfl rfl fun w => ?_; refine JB ?_; refine Jq 2 rfl ?_; refine LN rfl fun r1 => ?_; refine XB 8 [0] rfl rfl ?_; refine Jo rfl rfl rfl Jgz (xA y) ?_; refine QI rfl (Je rfl rfl rfl (enters_of Tryz.func324 (by kernel_rfl) rfl) hpl oR (JG 10 rfl ?_)); refine Kl rfl rfl rfl (enters_of Tryz.func325 (by kernel_rfl) rfl) (Joz hl hs) oR fun x => ?_
 obtain ⟨row, hrow⟩ := x
 change HL _ _ ((20, J9 xs.length row) :: _) (JH 97 (xs.flatMap Qw) row ++ [(r1, _)]) _ _ _ _; refine JM 9 rfl ?_; refine cD (fun g => ?_) fun g => ?_
 refine JP 1 rfl ?_
 have hltb := hlt (by assumption)
 obtain ⟨r2, cap2, sp2, rfl⟩ := row_some hrow (by omega)
 change HC _ _ _ [(r2, .cells (xs.flatMap Qw ++ sp2).toArray 97 (0, 0)), (r1, _)] _ _ _; refine Jq 3 rfl ?_; refine LR rfl (Jp (vs := Qw y) rfl (kn 1 rfl) rfl rfl rfl rfl) ?_; refine LR rfl (JF (j := j) (m := 2) rfl rfl rfl rfl rfl (by omega) rfl) ?_; refine Qz (k := 0) (n := 2) (vs := (Qw y).toArray) (cs' := ((xs.set j y).flatMap Qw ++ sp2).toArray) rfl rfl rfl rfl rfl rfl (jc y) (by have := hrow.1; simp only [List.size_toArray, List.length_append, Ke Kf]; omega) (by apply Array.toList_inj.1; simp only [List.toList_toArray, Nat.zero_add]; exact zO Kf hltb y sp2) rfl ?_; refine Jy 10 rfl ?_; refine pT rfl rfl rfl fun w1 hs1 => ?_
 (rw [if_pos (by assumption)] at hins
  rw [hins, List.length_set]
  exact ⟨⟨some (r2, cap2, sp2), hrow.same (by rw [Ke Kf, Ke Kf, List.length_set])⟩, rfl, hs1.weakL (by simp [JH])⟩)
 ·refine Jq 6 rfl ?_; refine LR rfl (Jp (vs := Qw y) rfl (Or.inl (List.mem_append_right _ List.mem_cons_self)) rfl rfl rfl rfl) ?_; refine JK (n := 1) (sz := 2) (vs := [_]) (zs := [_, _]) (r := Qw y) rfl rfl rfl rfl rfl rfl rfl rfl rfl (by rw [Kh]; exact rfl) rfl fun rv => ?_; refine Qk (T := JH 97 (xs.flatMap Qw) row) (L0 := [(rv, _), (r1, _)]) (Rl := [(rv, Obj.cells (Qw y).toArray 97 (0, 0))]) (by exact List.perm_middle.symm) rfl rfl rfl (enters_of Tryz.func326 (by kernel_rfl) rfl) (Jkd (i := j) (y := y) hl hrow hjl List.mem_cons_self) (fun q hq => Or.inl (by rw [List.mem_singleton.1 hq]; exact List.mem_cons_self)) fun x => ?_
  obtain ⟨row2, hrow2⟩ := x
  refine Jy 4 rfl ?_; refine pT rfl rfl rfl fun w1 hs1 => ?_
  (rw [if_neg (by simp_all)] at hins
   have hln : (xs.take j ++ y :: xs.drop j).length = xs.length + 1 := by simp only [List.length_append, List.length_take, List.length_cons, List.length_drop]; omega
   rw [hins, hln]
   exact ⟨⟨row2, hrow2⟩, rfl, hs1.weakL (List.sublist_append_left _ _)⟩)
theorem Jtt (x : BS × BS) : q7 x = (((x.1.length : Int) != 32) || ((x.2.length : Int) != 32)) := by
 have key : ∀ n : Nat, decide (n ≠ 32) = ((n : Int) != 32) := fun n => by
  by_cases h : n = 32
  ·subst h; rfl
  ·have h2 : ¬ (n : Int) = 32 := by omega
   simp [h, h2]
 unfold q7
 rw [key, key]
theorem Jzb (x : BS × BS) : Pure Tryz.prog 152 [vS x].toArray (.bool (q7 x)) := by
 refine Jl Tryz.func152 rfl rfl fun w => ?_; refine JB ?_; refine Jq 2 rfl ?_; refine LN rfl fun r1 => ?_; refine XB 7 [0] rfl rfl ?_; refine LR rfl (Qg rfl rfl) ?_; refine LS 2 [] rfl rfl ?_
 refine J7 7 rfl (fun gb => ?_) (fun gb => ?_) <;> (try simp only [ZZ] at gb) <;> first | (refine LR rfl (JE rfl rfl rfl) ?_) | (refine LK rfl ?_)
 all_goals refine LW 1 [0] rfl rfl ?_
 all_goals first | refine LR rfl (Qg rfl rfl) ?_ | refine LK rfl ?_
 all_goals (
  refine LW 3 [] rfl rfl (Jy 1 rfl (Zx 2 rfl ?_)); refine pT rfl rfl rfl fun w1 hs1 => ?_; refine ⟨?_, hs1.keep⟩; rw [Jtt]
  simp_all [J8]
  skip)
theorem Jtu (x : BS × BS) : Pure Tryz.prog 153 [vS x].toArray (.bool (X0 x)) := by
 refine Jl Tryz.func153 rfl rfl fun w => ?_; refine JB ?_; refine Jq 2 rfl ?_; refine LN rfl fun r1 => ?_; refine JM 4 rfl ?_; refine JJ 5 (by kernel_rfl) (by kernel_rfl) ?_
 refine Jb rfl rfl rfl (JE rfl rfl rfl) ?_; refine Jb rfl rfl rfl (Jd rfl (kn 0 rfl) rfl rfl) ?_; refine Ky rfl rfl rfl (enters_of Tryz.func116 (by kernel_rfl) rfl) Jow ?_; refine Jb rfl rfl rfl (Xg rfl rfl) ?_; refine Jb rfl rfl rfl (JA rfl) ?_; refine JW ?_; refine Jy 3 rfl ?_; refine pT rfl rfl rfl fun w1 hs1 => ?_; exact ⟨rfl, hs1.keep⟩
theorem qp {R : Ji} {xs : List (BS × BS)} {p : Pl} (hl : xs.length ≤ 9223372036854775807) (hs : Seg R xs.length (xs.flatMap Qw) p) {g : FuncId} {caps : List Value} {pr : BS × BS → Bool} (eg : Enters Tryz.prog g) (hg : ∀ x ∈ xs, PureR Tryz.prog g (vS x :: caps).toArray (.bool (pr x)) R) :
  PureR Tryz.prog 154 [Kz xs.length p, .func (.func g) #[] caps.toArray].toArray (.bool (xs.any pr)) R := by
 have h := Jc5 hl hs eg hg
 refine Ja Tryz.func154 rfl rfl fun w => ?_; refine JB ?_; refine Jq 9 rfl ?_; refine Je rfl rfl rfl (enters_of Tryz.func114 (by kernel_rfl) rfl) h oR ?_; refine Wi rfl (J3 (congrArg Value.bool Jr3) (Jy 4 rfl ?_)); refine pT rfl rfl rfl fun w1 hs1 => ?_; exact ⟨rfl, hs1.keep⟩
theorem Je8 {R : Ji} {a : AcL} (ha : a.In R) : PureR Tryz.prog 96 [a.val].toArray (.int .i64 (Wu a.er)) R := by
  have h1 := qp (g := 152) (caps := []) ha.len ha.seg (enters_of Tryz.func152 (by kernel_rfl) rfl) (fun x _ => (Jzb x).toR)
  have h2 := qp (g := 153) (caps := []) ha.len ha.seg (enters_of Tryz.func153 (by kernel_rfl) rfl) (fun x _ => (Jtu x).toR)
  have h3 := Jou ha.len ha.seg
  have hl := ha.len
  have hseg := ha.seg
  have hE : Wu a.er = if ¬ ((a.addr.length : Int) = 20) ∨ a.slots.any q7 = true then 2 else if Q9 Prod.fst a.slots = false then 11 else if (512 < (a.code.length : Int)) ∨ (16 < (a.slots.length : Int)) then 5 else if a.slots.any X0 = true then 8 else 0 := by
    exact ite_congr (propext (or_congr (by show ¬ a.addr.length = 20 ↔ _; omega) Iff.rfl)) (fun _ => rfl) (fun _ => ite_congr rfl (fun _ => rfl) (fun _ => ite_congr (propext (or_congr (by show a.code.length > 512 ↔ _; omega) (by show a.slots.length > 16 ↔ _; omega))) (fun _ => rfl) (fun _ => rfl)))
  rw [hE]; clear hE
  generalize a.slots.any q7 = oB at h1 ⊢
  generalize a.slots.any X0 = sBo at h2 ⊢
  generalize Q9 Prod.fst a.slots = rB at h3 ⊢
  refine Ja Tryz.func96 rfl rfl fun w => ?_; refine JB ?_; refine Jq 2 rfl ?_; refine LN rfl fun r1 => ?_; refine XB 19 [0] rfl rfl ?_; refine LR rfl (Qg rfl rfl) ?_; refine LS 2 [] rfl rfl ?_
  refine J7 10 rfl (fun gb => ?_) (fun gb => ?_) <;> (try simp only [ZZ] at gb) <;> first | (refine LR rfl (JE rfl rfl rfl) ?_) | (refine LK rfl ?_)
  all_goals refine LW 2 [0] rfl rfl ?_
  all_goals first | (refine Je rfl rfl rfl (enters_of Tryz.func154 (by kernel_rfl) rfl) h1 oR ?_) | refine LK rfl ?_
  all_goals (
   refine LW 2 [] rfl rfl (Jy 1 rfl (Zr 1 rfl ?_)); refine J1 rfl (fun h10 => ?_) (fun h10 => ?_)
   try simp only [ZZ] at h10
   refine Km 8 rfl ?_; refine pT rfl rfl rfl fun w1 hs1 => ?_; refine ⟨?_, hs1.keep⟩; simp only [J8]
   simp_all
   · try exact Bool.noConfusion h10
     all_goals try simp only [ZZ] at h10
     all_goals (
      refine XA 4 [0] rfl rfl ?_; refine Je rfl rfl rfl (enters_of Tryz.func155 (by kernel_rfl) rfl) h3 oR ?_; refine JM 4 rfl ?_; refine cD (fun h13 => ?_) fun h13 => ?_
      refine Km 8 rfl ?_; refine pT rfl rfl rfl fun w1 hs1 => ?_; refine ⟨?_, hs1.keep⟩; simp only [J8]
      simp_all
      · refine XA 4 [0] rfl rfl ?_; refine LR rfl (Qg rfl rfl) ?_; refine LS 2 [] rfl rfl ?_
        refine J7 26 rfl (fun gb => ?_) (fun gb => ?_) <;> (try simp only [ZZ] at gb) <;> first | (refine LR rfl (JE rfl rfl rfl) ?_) | (refine LK rfl ?_)
        all_goals refine LW 1 [0] rfl rfl ?_
        all_goals first | refine LR rfl (J0 rfl hseg rfl) ?_ | refine LK rfl ?_
        all_goals (
         refine LW 3 [] rfl rfl (Jy 1 rfl (Zr 1 rfl ?_)); refine J1 rfl (fun h20 => ?_) (fun h20 => ?_)
         try simp only [ZZ] at h20
         refine Km 8 rfl ?_; refine pT rfl rfl rfl fun w1 hs1 => ?_; refine ⟨?_, hs1.keep⟩; simp only [J8]
         simp_all
         · try exact Bool.noConfusion h20
           all_goals try simp only [ZZ] at h20
           all_goals (
            refine XA 5 [0] rfl rfl ?_; refine Je rfl rfl rfl (enters_of Tryz.func154 (by kernel_rfl) rfl) h2 oR ?_; refine JM 3 rfl ?_; refine cD (fun h23 => ?_) fun h23 => ?_
            refine Km 8 rfl ?_; refine pT rfl rfl rfl fun w1 hs1 => ?_; refine ⟨?_, hs1.keep⟩; simp only [J8]
            simp_all
            refine Km 9 rfl ?_; refine pT rfl rfl rfl fun w1 hs1 => ?_; refine ⟨?_, hs1.keep⟩; simp only [J8]
            simp_all
            skip)
         skip)
      skip)
   skip)
theorem Jtv {R : Ji} {rb e : Nat} {k : BS} (hb : (rb, Obj.cells #[J6 k] e (0, 0)) ∈ R) (a : AcL) : PureR Tryz.prog 43 [vA a, .pointer (some ⟨rb, 0, none⟩)].toArray (.bool (decide (a.addr = k))) R := by
 refine Ja Tryz.func43 rfl rfl fun w => ?_; refine JB ?_; refine Jq 2 rfl ?_; refine LN rfl fun r1 => ?_; refine XB 7 [0] rfl rfl ?_; refine LR rfl (Jd rfl (Or.inr hb) rfl rfl) ?_; refine LR rfl (Xg rfl rfl) ?_; refine Jy 4 rfl ?_; refine pT rfl rfl rfl fun w1 hs1 => ?_; exact ⟨rfl, hs1.keep⟩
theorem Jw6 {R : Ji} {rb e : Nat} {k : BS} (hb : (rb, Obj.cells #[J6 k] e (0, 0)) ∈ R) (x : BS × BS) : PureR Tryz.prog 259 [vS x, .pointer (some ⟨rb, 0, none⟩)].toArray (.bool (decide (x.1 = k))) R := by
 refine Ja Tryz.func259 rfl rfl fun w => ?_; refine JB ?_; refine Jq 2 rfl ?_; refine LN rfl fun r1 => ?_; refine XB 7 [0] rfl rfl ?_; refine LR rfl (Jd rfl (Or.inr hb) rfl rfl) ?_; refine LR rfl (Xg rfl rfl) ?_; refine Jy 4 rfl ?_; refine pT rfl rfl rfl fun w1 hs1 => ?_; exact ⟨rfl, hs1.keep⟩
theorem Jo0 {R : Ji} {s : StL} (hs : s.In R) (k : BS) : PureR Tryz.prog 18 [s.val, J6 k].toArray (.tuple #[(Q6 s k).val, .bool (Yh s k)]) R := by
 have hl := hs.len
 have hseg := hs.seg
 refine Ja Tryz.func18 rfl rfl fun w => ?_; refine JB ?_; refine Jq 2 rfl ?_; refine LN rfl fun r1 => ?_; refine LN rfl fun r2 => ?_; refine LN rfl fun r3 => ?_; refine XB 7 [2] rfl rfl ?_; refine LR rfl (JD rfl rfl) ?_; refine Je (Rl := (r2, Obj.cells #[J6 k] 9 (0, 0)) :: R) rfl rfl rfl (enters_of Tryz.func42 (by kernel_rfl) rfl) (Jos (caps := [.pointer (some ⟨r2, 0, none⟩)]) (pr := fun a => decide (a.addr = k)) hl (hseg.mono fun q hq => List.mem_cons_of_mem _ hq) (enters_of Tryz.func43 (by kernel_rfl) rfl) (fun a _ => Jtv List.mem_cons_self a)) (fun q hq => (List.mem_cons.1 hq).elim (fun h => Or.inl (by rw [h]; simp)) Or.inr) ?_; refine JM 10 rfl ?_; refine cD (fun g => ?_) fun g => ?_
 refine JP 1 rfl ?_
 have hf := Jbq (by assumption)
 refine Jq 1 rfl ?_; refine LR rfl (Js (r := [_, _, _, _, _, _, _, _]) rfl rfl) ?_
 refine LT 0 rfl rfl ?_; refine Jy 5 rfl ?_; refine Jh rfl rfl (.cons (J2 (vs := [_, _, _, _, _, _, _, _]) rfl (kn 0 rfl) rfl rfl) (.cons (Jj rfl) .nil)) (fun w1 hs1 => ?_); refine ⟨?_, hs1.keep⟩; rw [(yw hf).1, (yw hf).2]; rfl
 ·refine JP 3 rfl ?_
  obtain ⟨i, a, hidx, ha, hf⟩ := Jr4 (by assumption)
  refine XA 4 [2] rfl rfl ?_
  refine LR rfl (Jr (j := i) rfl hseg rfl rfl rfl (by first | rfl | omega) (by have := (List.getElem?_eq_some_iff.1 ha).1; omega)) ?_; refine LR rfl (JZ AcL.len oR rfl hseg ha rfl rfl) ?_
  refine LT 0 rfl rfl ?_; refine Jy 4 rfl ?_; refine Jh rfl rfl (.cons (J2 (vs := [_, _, _, _, _, _, _, _]) rfl (kn 0 rfl) rfl rfl) (.cons (Jj rfl) .nil)) (fun w1 hs1 => ?_); refine ⟨?_, hs1.keep⟩; rw [(Jbw hf).1, (Jbw hf).2]; rfl
theorem Zd {R : Ji} {s : StL} (hs : s.In R) : PureR Tryz.prog 44 [s.val].toArray (.int .i64 (KS s.er)) R := by
  have hl : s.accts.length ≤ 9223372036854775807 := hs.len
  have hseg := hs.seg
  obtain ⟨hc5, hcg⟩ := Jr9 s
  refine Ja Tryz.func44 rfl rfl fun w => ?_; refine JB ?_; refine Jq 2 rfl ?_; refine LN rfl fun r1 => ?_; refine XB 8 [0] rfl rfl ?_; refine LR rfl (J0 rfl hseg rfl) ?_; refine JM 3 rfl ?_; refine cD (fun g => ?_) fun g => ?_
  refine Km 7 rfl ?_; refine pT rfl rfl rfl fun w1 hs1 => ?_; refine ⟨?_, hs1.keep⟩; rw [hc5 (by assumption)]; rfl
  · refine XA 7 [0] rfl rfl ?_; refine LR rfl (J0 rfl hseg rfl) ?_; refine JM 4 rfl ?_; refine Jz (σ := Nat) (fun i => i ≤ s.accts.length ∧ goS (XL s.er i) (s.er.drop i) = goS none s.er) (fun i => [(1, .pointer (some ⟨r1, 0, none⟩)), (11, Kz s.accts.length s.p), (12, .int .i64 (s.accts.length : Int)), (13, .int .i64 (i : Int))]) (fun _ => [(r1, .cells s.cells.toArray 36 (0, 0))]) (fun _ _ _ => True) (fun i => s.accts.length - i) 0 ⟨Nat.zero_le _, rfl⟩ (lK rfl) (List.Sublist.refl _) (fun _ _ h => h) ?_; rintro i ⟨hi1, hinv⟩; refine JP 6 rfl ?_; refine cD (fun g => ?_) fun g => ?_
    · refine JP 5 rfl ?_
      obtain ⟨a, ha, hma⟩ := Q4 (show i < s.accts.length by omega)
      rw [Jr5 (Yi ha)] at hinv; refine Jq 2 rfl ?_
      refine LR rfl (Jr (j := i) rfl hseg rfl rfl rfl (by first | rfl | omega) (by omega)) ?_; refine LR rfl (JZ AcL.len oR rfl hseg ha rfl rfl) ?_; refine LN rfl fun r2 => ?_; refine QI rfl (Jk (k := 0) (n := 8) (ys := a.cells) rfl rfl rfl rfl rfl a.len rfl a.one rfl (JG 4 rfl ?_)); refine LR rfl (Jf (xs := a.cells) (n := 8) rfl (kn 0 rfl) rfl rfl a.len) ?_; refine Je rfl rfl rfl Jwi (Je8 (hs.accts a hma)) oR ?_; refine JG 9 rfl ?_
      refine J7 22 rfl (fun gb => ?_) (fun gb => ?_) <;> (try simp only [ZZ] at gb) <;> first | (refine QI rfl ?_) | (refine LK rfl ?_)
      all_goals refine LW 3 [] rfl rfl ?_
      all_goals first | refine LK rfl ?_ | (refine J7 26 rfl (fun gb => ?_) (fun gb => ?_) <;> (try simp only [ZZ] at gb) <;> first | (refine LR rfl (JE rfl rfl rfl) ?_) | (refine LK rfl ?_))
      all_goals refine LW 2 [1] rfl rfl ?_
      all_goals first | (refine Wi rfl ?_; refine Jc (by omega) (by omega) ?_) | refine LK rfl ?_
      all_goals refine LW 1 [] rfl rfl ?_
      all_goals first | (refine Wi rfl ?_; refine Jc (by omega) (by omega) ?_) | refine LK rfl ?_
      all_goals first | (obtain ⟨x, hx, hmx⟩ := Q4 (show i - 1 < s.accts.length by omega); refine LR rfl (Jjl (sz := 8) (a := i - 1) (b := i + 1) (m := 2) rfl hseg rfl rfl (by omega) (by omega) rfl rfl (by omega) (by omega) (by omega)) ?_; have hlast := Jr8 hx (show i - 1 + 1 = i by omega)) | refine LK rfl ?_
      all_goals first | (refine Je rfl rfl rfl (enters_of Tryz.func97 (by kernel_rfl) rfl) (Jot (xs := [x, a]) (show 2 ≤ 9223372036854775807 by decide) (hseg.two AcL.len hx ha (by omega))) oR ?_; refine J3 (congrArg Value.bool (Jem x a)) ?_) | refine LK rfl ?_
      all_goals (
       refine LW 2 [] rfl rfl (Jy 1 rfl (Zr 1 rfl ?_)); refine J1 rfl (fun g => ?_) (fun g => ?_)
       · try exact Bool.noConfusion g
         all_goals try simp only [ZZ] at g
         all_goals (
          refine JP 5 rfl ?_
          have hst : V0 (XL s.er i) a.er = 11 ∨ V0 (XL s.er i) a.er = Wu a.er := by unfold V0; split <;> simp
          have hst : V0 (XL s.er i) a.er = 11 := Jr6 (by assumption) hlast (by assumption)
          rw [hst] at hinv; refine JP 5 rfl ?_; refine J1 rfl (fun g => ?_) (fun g => ?_)
          try simp only [ZZ] at g
          refine Km 12 rfl ?_; refine pT rfl rfl rfl fun w1 hs1 => ?_; refine ⟨?_, hs1.keep⟩; rw [hcg (by omega), ← hinv, if_pos (by simp_all)]; rfl
          try exact Bool.noConfusion g
          skip)
       · try simp only [ZZ] at g
         refine JP 3 rfl ?_
         have hst : V0 (XL s.er i) a.er = 11 ∨ V0 (XL s.er i) a.er = Wu a.er := by unfold V0; split <;> simp
         have hst : V0 (XL s.er i) a.er = Wu a.er := Jr7 (by first | exact Or.inl (by assumption) | exact Or.inr (Or.inl (by rw [show i = 0 by omega]; rfl)) | exact Or.inr (Or.inr ⟨_, hlast, by assumption⟩))
         rw [hst] at hinv; refine JP 5 rfl ?_; refine cD (fun g => ?_) fun g => ?_
         refine Km 12 rfl ?_; refine pT rfl rfl rfl fun w1 hs1 => ?_; refine ⟨?_, hs1.keep⟩; rw [hcg (by omega), ← hinv, if_pos (by simp_all)]; rfl
         refine Jq 5 rfl ?_; refine Jc (by omega) (by omega) ?_; refine Jy 2 rfl ?_; refine Jw ?_; exact Jt (i + 1) ⟨by omega, by rw [if_neg (by simp_all)] at hinv; exact hinv⟩ (by omega) (lK rfl) (List.sublist_cons_self _ _) (fun _ _ h => h)
       skip)
    · refine Km 11 rfl ?_; refine pT rfl rfl rfl fun w1 hs1 => ?_; refine ⟨?_, hs1.keep⟩; rw [hcg (by omega), ← hinv, List.drop_of_length_le (by rw [s.er_len]; omega)]; rfl
theorem Jo1 {R : Ji} {xs : List (BS × BS)} {row : QK} (hl : xs.length ≤ 1000) (hrow : rowOk 2 xs.length (xs.flatMap Qw) row) {g : FuncId} {caps : List Value} {pr : BS × BS → Bool} (eg : Enters Tryz.prog g) (hg : ∀ x ∈ xs, PureR Tryz.prog g (vS x :: caps).toArray (.bool (pr x)) R) :
  PureT (α := { row' : QK // rowOk 2 (xs.filter fun x => !pr x).length ((xs.filter fun x => !pr x).flatMap Qw) row' }) Tryz.prog 258 [J9 xs.length row, .func (.func g) #[] caps.toArray].toArray (fun x => J9 (xs.filter fun x => !pr x).length x.1) (JH 97 (xs.flatMap Qw) row) (fun x => JH 97 ((xs.filter fun x => !pr x).flatMap Qw) x.1) R := by
 have hseg := Ku (e := 97) hrow (by decide)
 have hV := Wm xs.length row (fun h => by subst h; exact hrow.1)
 have hidx := Jc5 (R := JH 97 (xs.flatMap Qw) row ++ R) (by omega) (hseg.mono fun q hq => List.mem_append_left _ hq) eg (fun x hx => (hg x hx).mono fun q hq => List.mem_append_right _ hq)
 rw [hV] at hidx
 obtain ⟨m, hm⟩ : ∃ m, m = Yf pr xs := ⟨_, rfl⟩
 rw [← hm] at hidx; refine Ju Tryz.func258 rfl rfl fun w => ?_; refine JB ?_; refine Jq 9 rfl ?_; refine Je (Rl := JH 97 (xs.flatMap Qw) row ++ R) rfl rfl rfl (enters_of Tryz.func114 (by kernel_rfl) rfl) hidx (fun q hq => (List.mem_append.1 hq).elim Or.inl Or.inr) ?_; refine JM 10 rfl ?_; refine cD (fun h5 => ?_) fun h5 => ?_
 refine Km 8 rfl ?_; refine pT rfl rfl rfl fun w1 hs1 => ?_
 (have hall := Jsb (pr := pr) (xs := xs) (by omega)
  rw [hall]
  exact ⟨⟨row, hrow⟩, rfl, hs1⟩)
 ·refine JP 4 rfl ?_
  obtain ⟨i, e0⟩ : ∃ i : Nat, m = (i : Int) := by
   rcases vF (pr := pr) (xs := xs) with ⟨h, _⟩ | ⟨i, _, h, _⟩
   ·unfold Yf at hm h; split at hm <;> split at h <;> first | omega | simp_all
   exact ⟨i, hm.trans h⟩
  subst e0
  obtain ⟨hil, hif⟩ := Jsa hm.symm
  obtain ⟨r, cap, sp, rfl⟩ := row_some hrow (by omega)
  obtain ⟨hr1, hr2⟩ := hrow
  obtain ⟨x0, hx0, _⟩ := Q4 hil
  have hsplit : xs.flatMap Qw ++ sp = ((xs.take (i + 1)).filter fun x => !pr x).flatMap Qw ++ (Qw x0 ++ ((xs.drop (i + 1)).flatMap Qw ++ sp)) := by
   rw [hif, ← List.append_assoc (Qw x0), ← Jbx hx0, ← List.append_assoc, ← List.flatMap_append, List.take_append_drop]
  change HC _ _ _ [(r, .cells (xs.flatMap Qw ++ sp).toArray 97 (0, 0))] _ _ _; rw [hsplit]
  have hcap : xs.length ≤ cap := by omega
  have hi1 : ((xs.take (i + 1)).filter fun x => !pr x).length = i := by rw [hif, List.length_take]; omega
  refine Jq 3 rfl ?_; refine Jc (by omega) (by omega) ?_; refine JM 4 rfl ?_; refine Jz (σ := Nat × List Value) (fun s => s.1 ≤ xs.length ∧ ((xs.take s.1).filter fun x => !pr x).length < s.1 ∧ s.2.length + ((xs.take s.1).filter fun x => !pr x).length * 2 = s.1 * 2) (fun s => [(0, .slice (some ⟨r, 0, none⟩) xs.length cap), (1, .func (.func g) #[] caps.toArray), (5, .int .i64 (((xs.take s.1).filter fun x => !pr x).length : Nat)), (6, .int .i64 (s.1 : Int))]) (fun s => [(r, .cells (((xs.take s.1).filter fun x => !pr x).flatMap Qw ++ (s.2 ++ ((xs.drop s.1).flatMap Qw ++ sp))).toArray 97 (0, 0))]) (fun _ _ _ => True) (fun s => xs.length - s.1) (i + 1, Qw x0) ⟨by simp only; omega, by simp only; omega, by simp only [Kf]; omega⟩ (.cons rfl (.cons rfl (.cons (by rw [hi1]; rfl) (.cons rfl .nil)))) (List.Sublist.refl _) (fun _ _ h => h) ?_; rintro ⟨j, G⟩ ⟨hj1, hj2, hG⟩; simp only at hj1 hj2 hG; change HC _ _ [(0, _), (1, _), (5, .int .i64 (((xs.take j).filter fun x => !pr x).length : Nat)), (6, .int .i64 (j : Int))] [(r, .cells (((xs.take j).filter fun x => !pr x).flatMap Qw ++ (G ++ ((xs.drop j).flatMap Qw ++ sp))).toArray 97 (0, 0))] _ _ _; refine Jq 5 rfl ?_; refine LR rfl (JQ rfl rfl) ?_; refine JM 3 rfl ?_; refine cD (fun h11 => ?_) fun h11 => ?_
  refine JP 5 rfl ?_
  obtain ⟨x, hx, hmx⟩ := Q4 (show j < xs.length by omega)
  rw [Jbx hx, List.append_assoc (Qw x)]; refine Jq 3 rfl ?_; refine LR rfl (JF (j := j) (m := 2) rfl rfl rfl rfl rfl (by omega) rfl) ?_; refine LR rfl (Jp (n := 2) (vs := Qw x) rfl (kn 0 rfl) rfl rfl (by simp only [List.toList_toArray]; rw [← List.append_assoc, List.drop_left' (by rw [List.length_append, Ke Kf]; omega), List.take_left' (Kf x)]) rfl) ?_; refine LN rfl fun r1 => ?_; refine Jk (k := 0) (n := 2) (ys := Qw x) rfl rfl rfl rfl rfl rfl rfl rfl rfl ?_; refine JG 5 rfl ?_; refine LR rfl (Jf (xs := Qw x) (n := 2) rfl (kn 0 rfl) rfl rfl rfl) ?_; refine Je rfl rfl rfl eg (hg x hmx) oR ?_; refine JM 3 rfl ?_; refine cD (fun h15 => ?_) fun h15 => ?_
  refine JP 1 rfl ?_
  obtain ⟨M, G2, hcut, lM⟩ := cut (l := G ++ Qw x) (a := 2) (by rw [List.length_append, Kf]; omega)
  have lG2 : G2.length = G.length := by have := congrArg List.length hcut; simp only [List.length_append, Kf] at this; omega
  have hkeep := XM (pr := fun x => !pr x) hx
  rw [if_pos (by simp_all)] at hkeep; refine Jq 3 rfl ?_; refine LR rfl (Jf (xs := Qw x) (n := 2) rfl (kn 0 rfl) rfl rfl rfl) ?_; refine LR rfl (JF (j := ((xs.take j).filter fun x => !pr x).length) (m := 2) rfl rfl rfl rfl rfl (by omega) rfl) ?_; refine Qz (k := 1) (n := 2) (vs := (Qw x).toArray) (cs' := (((xs.take j).filter fun x => !pr x).flatMap Qw ++ (Qw x ++ (G2 ++ ((xs.drop (j + 1)).flatMap Qw ++ sp)))).toArray) rfl rfl rfl rfl rfl rfl rfl (by simp only [List.size_toArray, List.length_append, Ke Kf]; omega) (by apply Array.toList_inj.1; simp only [List.toList_toArray, Nat.zero_add]; rw [show G ++ (Qw x ++ ((xs.drop (j + 1)).flatMap Qw ++ sp)) = M ++ (G2 ++ ((xs.drop (j + 1)).flatMap Qw ++ sp)) by rw [← List.append_assoc, hcut, List.append_assoc]]; exact WR (Ke Kf _) lM) rfl ?_; refine JG 5 rfl ?_; refine Jc (by omega) (by omega) ?_; refine JG 7 rfl ?_; refine Jc (by omega) (by omega) ?_; refine Jy 2 rfl ?_; refine Jw ?_; exact Jt (j + 1, G2) ⟨by simp only; omega, by simp only; rw [hkeep, List.length_append, List.length_singleton]; omega, by simp only; rw [hkeep, List.length_append, List.length_singleton]; omega⟩ (by simp only; omega) (.cons rfl (.cons rfl (.cons (by simp only [Qy]; rw [hkeep, List.length_append, List.length_singleton]; rfl) (.cons rfl .nil)))) (by simp only [hkeep, List.flatMap_append, List.flatMap_singleton, List.append_assoc]; exact List.sublist_cons_self _ _) (fun _ _ h => h)
  refine Jq 6 rfl ?_; refine Jc (by omega) (by omega) ?_; refine Jy 2 rfl ?_; refine Jw ?_
  (have hdel := XM (pr := fun x => !pr x) hx
   rw [if_neg (by simp_all), List.append_nil] at hdel
   exact Jt (j + 1, G ++ Qw x) ⟨by simp only; omega, by simp only; rw [hdel]; omega, by simp only [List.length_append, Kf]; rw [hdel]; omega⟩ (by simp only; omega) (.cons rfl (.cons rfl (.cons (by simp only [Qy]; rw [hdel]; try rfl) (.cons rfl .nil)))) (by simp only [hdel, List.append_assoc]; exact List.sublist_cons_self _ _) (fun _ _ h => h))
  ·refine JP 6 rfl ?_
   have hjn : j = xs.length := by omega
   have hdrop : (xs.drop j).flatMap Qw = [] := by rw [List.drop_of_length_le (by omega)]; rfl
   rw [hdrop, List.nil_append]; refine Jq 3 rfl ?_; refine LR rfl (JL (sz := 2) (m := ((xs.take j).filter fun x => !pr x).length) (kl := some ((xs.take j).filter fun x => !pr x).length) (kh := none) (km := none) (q := xs.length) (z := cap) (off' := ((xs.take j).filter fun x => !pr x).length * 2) rfl rfl rfl ⟨_, rfl⟩ trivial trivial rfl rfl rfl (by omega) (by omega) (by omega) (fun _ => rfl) (by rw [if_neg (by omega)]; omega)) ?_; refine yr (k := 0) (sz := 2) rfl rfl rfl rfl rfl rfl rfl (by decide) (by simp only [List.size_toArray, List.length_append, Ke Kf, List.length_drop]; omega) (WR (P := ((xs.take j).filter fun x => !pr x).flatMap Qw) (M := G) (S := sp) (Ke Kf _) (by omega)) rfl ?_; refine JG 6 rfl ?_
   refine LR rfl (JL (sz := 2) (q := ((xs.take j).filter fun x => !pr x).length) (kl := none) (kh := some ((xs.take j).filter fun x => !pr x).length) (km := none) (m := 0) (z := cap) (off' := 0) rfl rfl rfl trivial ⟨_, rfl⟩ trivial rfl rfl rfl (by omega) (by omega) (by omega) (fun h => by cases h) (by split <;> omega)) ?_; refine Jy 4 rfl ?_; refine pT rfl rfl rfl fun w1 hs1 => ?_
   (have hfull : (xs.take j).filter (fun x => !pr x) = xs.filter fun x => !pr x := by rw [hjn, List.take_length]
    rw [hfull] at hs1 ⊢; refine ⟨⟨some (r, cap, _), Ke Kf _, ?_⟩, rfl, hs1.weakL (by simp only [JH]; exact List.Sublist.refl _)⟩
    have hz : ∀ n, (Builtin.zeroCells (Value.agg #[Value.string ⟨#[]⟩, Value.string ⟨#[]⟩]).cells n).toList.length = n * 2 := fun n => by rw [Array.length_toList, size_zeroCells]; rfl
    rw [List.length_append, hz]
    have := List.length_filter_le (fun x => !pr x) xs
    omega)
theorem Jzc {R : Ji} {a : AcL} (ha : a.In R) (k v : BS) : PureT (α := AcRes R (VL a.er k v)) Tryz.prog 197 [a.val, J6 k, J6 v].toArray (fun x => x.val) [] (fun x => x.L) R := by
  have hlk := Je8 ha
  have hl := ha.len
  have hseg := ha.seg
  have hset : VL a.er k v = if Wu a.er ≠ 0 then (a.er, Wu a.er) else if k.length ≠ 32 ∨ v.length ≠ 32 then (a.er, 2) else if (KA a.slots k v).length > 16 then (a.er, 5) else (⟨a.addr, a.nonce, a.bal, a.code, KA a.slots k v⟩, 0) := rfl
  refine Ju Tryz.func197 rfl rfl fun w => ?_; refine JB ?_; refine Jq 2 rfl ?_; refine LN rfl fun r1 => ?_; refine LN rfl fun r2 => ?_; refine LN rfl fun r3 => ?_; refine JG 6 rfl ?_; refine LR rfl (Jp (vs := [_, _, _, _, _, _, _, _]) rfl (kn 2 rfl) rfl rfl rfl rfl) ?_; refine Je rfl rfl rfl Jwi hlk oR ?_; refine JM 9 rfl ?_; refine cD (fun g => ?_) fun g => ?_
  refine XA 4 [2] rfl rfl ?_
  refine LT 0 rfl rfl ?_; refine Jy 5 rfl ?_; refine Jh rfl rfl (.cons (J2 (vs := [_, _, _, _, _, _, _, _]) rfl (kn 0 rfl) rfl rfl) (.cons (Jj rfl) .nil)) (fun w1 hs1 => ?_); rw [hset, if_pos (by omega)]; exact ⟨⟨a, Wu a.er, [], ha, rfl⟩, rfl, hs1.weakL (List.nil_sublist _)⟩
  · refine Jq 5 rfl ?_; refine LR rfl (Jd rfl (kn 1 rfl) rfl rfl) ?_; refine LR rfl (Qg rfl rfl) ?_; refine LS 2 [] rfl rfl ?_
    refine J7 19 rfl (fun gb => ?_) (fun gb => ?_) <;> (try simp only [ZZ] at gb) <;> first | (refine QI rfl ?_) | (refine LK rfl ?_)
    all_goals first | refine LR rfl (Qg rfl rfl) ?_ | refine LK rfl ?_
    all_goals (
     refine LW 2 [] rfl rfl (Jy 1 rfl (Zr 1 rfl ?_)); refine J1 rfl (fun g => ?_) (fun g => ?_)
     try simp only [ZZ] at g
     refine Jq 2 rfl ?_; refine LR rfl (Jp (vs := [_, _, _, _, _, _, _, _]) rfl (kn 2 rfl) rfl rfl rfl rfl) ?_
     refine LT 0 rfl rfl ?_; refine Jy 5 rfl ?_; refine Jh rfl rfl (.cons (J2 (vs := [_, _, _, _, _, _, _, _]) rfl (kn 0 rfl) rfl rfl) (.cons (Jj rfl) .nil)) (fun w1 hs1 => ?_); rw [hset, if_neg (by omega), if_pos (by omega)]; exact ⟨⟨a, 2, [], ha, rfl⟩, rfl, hs1.weakL (List.nil_sublist _)⟩
     · try exact Bool.noConfusion g
       all_goals try simp only [ZZ] at g
       all_goals (
        refine JP 3 rfl ?_
        have hok : Ks Prod.fst a.slots ∧ a.slots.length ≤ 16 := ⟨(QL (a := a.er) (by omega)).2.2.1, (QL (a := a.er) (by omega)).2.2.2.2⟩
        have hinl : (KU Prod.fst (k, v) a.slots).length ≤ 17 := by
          have := hok.2
          rw [Jgh hok.1]
          split <;> omega
        refine XA 5 [2, 1] rfl rfl ?_; refine LR rfl (Js (r := [_, _]) rfl rfl) ?_; refine Kl rfl rfl rfl (enters_of Tryz.func257 (by kernel_rfl) rfl) (Jts (by have := hok.2; omega) hseg hok.1 (k, v)) oR fun x => ?_
        obtain ⟨row, hrow⟩ := x
        refine Kn List.perm_append_comm ?_; change HL _ _ ((30, J9 (KU Prod.fst (k, v) a.slots).length row) :: _) ((r3, _) :: (r2, _) :: (r1, _) :: JH _ _ row) _ _ _ _; refine JG 7 rfl ?_; refine Jo rfl rfl rfl (enters_of Tryz.func116 (by kernel_rfl) rfl) Jow ?_; refine LR rfl (Xg rfl rfl) ?_; refine JM 2 rfl ?_; refine cD (fun g => ?_) fun g => ?_
        have hdC := Jo1 (R := [(r2, Obj.cells #[J6 k] 9 (0, 0))]) (caps := [.pointer (some ⟨r2, 0, none⟩)]) (pr := fun x => decide (x.1 = k)) (by omega) hrow (enters_of Tryz.func259 (by kernel_rfl) rfl) (fun x _ => Jw6 List.mem_cons_self x)
        rw [Jen, show jD Prod.fst k a.slots = KA a.slots k v from by unfold KA; rw [if_pos (by assumption)]] at hdC; refine Jq 2 rfl ?_; refine LR rfl (JD rfl rfl) ?_; refine Qk (T := JH _ _ row) (L0 := [(r3, _), (r2, _), (r1, _)]) (Rl := [(r2, Obj.cells #[J6 k] 9 (0, 0))]) (List.perm_append_comm (l₁ := [_, _, _])) rfl rfl rfl (enters_of Tryz.func258 (by kernel_rfl) rfl) hdC (fun q hq => Or.inl (by rw [List.mem_singleton.1 hq]; exact List.mem_cons_of_mem _ List.mem_cons_self)) fun x => ?_
        obtain ⟨row2, hrow2⟩ := x
        refine Kn List.perm_append_comm ?_; change HL _ _ ((36, J9 (KA a.slots k v).length row2) :: _) ((r3, _) :: (r2, _) :: (r1, _) :: JH _ _ row2) _ _ _ _; refine JM 5 rfl ?_
        try rw [show KU Prod.fst (k, v) a.slots = KA a.slots k v from by unfold KA; rw [if_neg (by assumption)]] at hrow ⊢
        refine Jq 2 rfl ?_; refine LR rfl (WJ rfl hrow2.zero rfl) ?_; refine JM 3 rfl ?_; refine cD (fun g => ?_) fun g => ?_
        refine Jq 2 rfl ?_; refine LR rfl (Jp (vs := [_, _, _, _, _, _, _, _]) rfl (kn 2 rfl) rfl rfl rfl rfl) ?_
        refine LT 0 rfl rfl ?_; refine Jy 5 rfl ?_; refine Jh rfl rfl (.cons (J2 (vs := [_, _, _, _, _, _, _, _]) rfl (kn 0 rfl) rfl rfl) (.cons (Jj rfl) .nil)) (fun w1 hs1 => ?_); rw [hset, if_neg (by omega), if_neg (by omega), if_pos (by omega)]; exact ⟨⟨a, 5, [], ha, rfl⟩, rfl, hs1.weakL (List.nil_sublist _)⟩
        refine Jq 6 rfl ?_; refine Kx (k := 2) (cs' := #[J6 a.addr, uV a.nonce, uV a.bal.a, uV a.bal.b, uV a.bal.c, uV a.bal.d, J6 a.code, J9 (KA a.slots k v).length row2]) rfl rfl rfl rfl rfl (Y5 _ _) rfl rfl rfl rfl ?_; refine JG 4 rfl ?_; refine LR rfl (Jp (vs := [_, _, _, _, _, _, _, _]) rfl (kn 2 rfl) rfl rfl rfl rfl) ?_; refine Qz (k := 0) (n := 8) (cs' := #[J6 a.addr, uV a.nonce, uV a.bal.a, uV a.bal.b, uV a.bal.c, uV a.bal.d, J6 a.code, J9 (KA a.slots k v).length row2]) (vs := #[_, _, _, _, _, _, _, _]) rfl rfl rfl rfl rfl rfl (by show (Qt (J9 _ _) && true) = true; rw [Y5]; rfl) (by exact Nat.le_of_ble_eq_true rfl) rfl rfl ?_; refine Jy 4 rfl ?_; refine Jh rfl rfl (.cons (J2 (vs := [_, _, _, _, _, _, _, _]) rfl (kn 0 rfl) rfl rfl) (.cons (Jj rfl) .nil)) (fun w1 hs1 => ?_)
        (rw [hset, if_neg (by omega), if_neg (by omega), if_neg (by omega)]
         exact ⟨⟨⟨a.addr, a.nonce, a.bal, a.code, KA a.slots k v, QC row2⟩, 0, JH 97 ((KA a.slots k v).flatMap Qw) row2, Zt ha (by omega) (by omega) (by omega) (Ku hrow2 (by decide)), rfl⟩, by show Ending.returned _ = Ending.returned (Value.tuple #[Value.agg #[J6 a.addr, uV a.nonce, uV a.bal.a, uV a.bal.b, uV a.bal.c, uV a.bal.d, J6 a.code, Kz (KA a.slots k v).length (QC row2)], .int .i64 0]); rw [Wm _ _ hrow2.zero]; rfl, hs1.weakL (List.sublist_append_right [_, _, _] _)⟩)
        refine JP 4 rfl ?_
        try rw [show KU Prod.fst (k, v) a.slots = KA a.slots k v from by unfold KA; rw [if_neg (by assumption)]] at hrow ⊢
        refine Jq 2 rfl ?_; refine LR rfl (WJ rfl hrow.zero rfl) ?_; refine JM 3 rfl ?_; refine cD (fun g => ?_) fun g => ?_
        refine Jq 2 rfl ?_; refine LR rfl (Jp (vs := [_, _, _, _, _, _, _, _]) rfl (kn 2 rfl) rfl rfl rfl rfl) ?_
        refine LT 0 rfl rfl ?_; refine Jy 5 rfl ?_; refine Jh rfl rfl (.cons (J2 (vs := [_, _, _, _, _, _, _, _]) rfl (kn 0 rfl) rfl rfl) (.cons (Jj rfl) .nil)) (fun w1 hs1 => ?_); rw [hset, if_neg (by omega), if_neg (by omega), if_pos (by omega)]; exact ⟨⟨a, 5, [], ha, rfl⟩, rfl, hs1.weakL (List.nil_sublist _)⟩
        refine Jq 6 rfl ?_; refine Kx (k := 2) (cs' := #[J6 a.addr, uV a.nonce, uV a.bal.a, uV a.bal.b, uV a.bal.c, uV a.bal.d, J6 a.code, J9 (KA a.slots k v).length row]) rfl rfl rfl rfl rfl (Y5 _ _) rfl rfl rfl rfl ?_; refine JG 4 rfl ?_; refine LR rfl (Jp (vs := [_, _, _, _, _, _, _, _]) rfl (kn 2 rfl) rfl rfl rfl rfl) ?_; refine Qz (k := 0) (n := 8) (cs' := #[J6 a.addr, uV a.nonce, uV a.bal.a, uV a.bal.b, uV a.bal.c, uV a.bal.d, J6 a.code, J9 (KA a.slots k v).length row]) (vs := #[_, _, _, _, _, _, _, _]) rfl rfl rfl rfl rfl rfl (by show (Qt (J9 _ _) && true) = true; rw [Y5]; rfl) (by exact Nat.le_of_ble_eq_true rfl) rfl rfl ?_; refine Jy 4 rfl ?_; refine Jh rfl rfl (.cons (J2 (vs := [_, _, _, _, _, _, _, _]) rfl (kn 0 rfl) rfl rfl) (.cons (Jj rfl) .nil)) (fun w1 hs1 => ?_)
        (rw [hset, if_neg (by omega), if_neg (by omega), if_neg (by omega)]
         exact ⟨⟨⟨a.addr, a.nonce, a.bal, a.code, KA a.slots k v, QC row⟩, 0, JH 97 ((KA a.slots k v).flatMap Qw) row, Zt ha (by omega) (by omega) (by omega) (Ku hrow (by decide)), rfl⟩, by show Ending.returned _ = Ending.returned (Value.tuple #[Value.agg #[J6 a.addr, uV a.nonce, uV a.bal.a, uV a.bal.b, uV a.bal.c, uV a.bal.d, J6 a.code, Kz (KA a.slots k v).length (QC row)], .int .i64 0]); rw [Wm _ _ hrow.zero]; rfl, hs1.weakL (List.sublist_append_right [_, _, _] _)⟩)
        skip)
     skip)
theorem Jzd {R : Ji} {s : StL} {a : AcL} (hs : s.In R) (ha : a.In R) : PureT (α := StRes R (jG s.er a.er)) Tryz.prog 196 [s.val, a.val].toArray (fun x => x.val) [] (fun x => x.L) R := by
 have hc := Zd hs
 have hlk := Je8 ha
 have hl := hs.len
 have hseg := hs.seg
 have hput : jG s.er a.er = if KS s.er ≠ 0 then (s.er, KS s.er) else if Wu a.er ≠ 0 then (s.er, Wu a.er) else if (KU AcE.addr a.er s.er).length > 32 then (s.er, 5) else (KU AcE.addr a.er s.er, 0) := rfl
 have hil : (KU AcE.addr a.er s.er).length = (KU AcL.addr a s.accts).length := by unfold StL.er; rw [← Jeo, List.length_map]
 rw [hil] at hput; refine Ju Tryz.func196 rfl rfl fun w => ?_; refine JB ?_; refine Jq 2 rfl ?_; refine LN rfl fun r1 => ?_; refine LN rfl fun r2 => ?_; refine LN rfl fun r3 => ?_; refine JG 6 rfl ?_; refine LR rfl (Jp (vs := [_]) rfl (kn 2 rfl) rfl rfl rfl rfl) ?_; refine Je rfl rfl rfl Jsh hc oR ?_; refine JM 9 rfl ?_; refine cD (fun g => ?_) fun g => ?_
 refine XA 4 [2] rfl rfl ?_
 refine LT 0 rfl rfl ?_; refine Jy 5 rfl ?_; refine Jh rfl rfl (.cons (J2 (vs := [_]) rfl (kn 0 rfl) rfl rfl) (.cons (Jj rfl) .nil)) (fun w1 hs1 => ?_); rw [hput, if_pos (by omega)]; exact ⟨⟨s, KS s.er, [], hs, rfl⟩, rfl, hs1.weakL (List.nil_sublist _)⟩
 ·refine Jq 5 rfl ?_; refine LR rfl (Jp (vs := [_, _, _, _, _, _, _, _]) rfl (kn 1 rfl) rfl rfl rfl rfl) ?_; refine Je rfl rfl rfl Jwi hlk oR ?_; refine JM 9 rfl ?_; refine cD (fun g => ?_) fun g => ?_
  refine XA 4 [2] rfl rfl ?_
  refine LT 0 rfl rfl ?_; refine Jy 5 rfl ?_; refine Jh rfl rfl (.cons (J2 (vs := [_]) rfl (kn 0 rfl) rfl rfl) (.cons (Jj rfl) .nil)) (fun w1 hs1 => ?_); rw [hput, if_neg (by omega), if_pos (by omega)]; exact ⟨⟨s, Wu a.er, [], hs, rfl⟩, rfl, hs1.weakL (List.nil_sublist _)⟩
  ·refine JP 3 rfl ?_
   have hok : s.accts.length ≤ 32 ∧ Ks AcL.addr s.accts := by
    have h := X5.1 (show KS s.er = 0 by omega)
    rw [s.er_len] at h; exact ⟨h.1, (Jjn s).2 h.2.2⟩
   refine XA 4 [2, 1] rfl rfl ?_; refine Kl rfl rfl rfl (enters_of Tryz.func256 (by kernel_rfl) rfl) (Jtr (by omega) hseg hok.2 a) oR fun x => ?_
   obtain ⟨row, hrow⟩ := x
   refine Kn List.perm_append_comm ?_; change HL _ _ ((24, J9 (KU AcL.addr a s.accts).length row) :: _) ((r3, _) :: (r2, _) :: (r1, _) :: JH _ _ row) _ _ _ _; refine JG 7 rfl ?_; refine LR rfl (WJ rfl hrow.zero rfl) ?_; refine JM 3 rfl ?_; refine cD (fun g => ?_) fun g => ?_
   refine Jq 2 rfl ?_; refine LR rfl (Jp (vs := [_]) rfl (kn 2 rfl) rfl rfl rfl rfl) ?_
   refine LT 0 rfl rfl ?_; refine Jy 5 rfl ?_; refine Jh rfl rfl (.cons (J2 (vs := [_]) rfl (kn 0 rfl) rfl rfl) (.cons (Jj rfl) .nil)) (fun w1 hs1 => ?_); rw [hput, if_neg (by omega), if_neg (by omega), if_pos (by omega)]; exact ⟨⟨s, 5, [], hs, rfl⟩, rfl, hs1.weakL (List.nil_sublist _)⟩
   ·refine Jq 5 rfl ?_
    refine LR rfl (Js (r := [J9 _ row]) rfl (by cases row <;> rfl)) ?_; refine Qz (k := 0) (n := 1) (cs' := #[J9 (KU AcL.addr a s.accts).length row]) (vs := #[_]) rfl rfl rfl rfl rfl rfl (by show (Qt (J9 _ _) && true) = true; rw [Y5]; rfl) (by exact Nat.le_of_ble_eq_true rfl) rfl rfl ?_; refine Jy 4 rfl ?_; refine Jh rfl rfl (.cons (J2 (vs := [_]) rfl (kn 0 rfl) rfl rfl) (.cons (Jj rfl) .nil)) (fun w1 hs1 => ?_)
    (rw [hput, if_neg (by omega), if_neg (by omega), if_neg (by omega)]
     exact ⟨⟨⟨KU AcL.addr a s.accts, QC row⟩, 0, JH 48 ((KU AcL.addr a s.accts).flatMap AcL.cells) row, ⟨by show (KU AcL.addr a s.accts).length ≤ 9223372036854775807; omega, (Ku hrow (by decide)).mono fun q hq => List.mem_append_left _ hq, fun x hx => ((jb hx).elim (fun e => by rw [e]; exact ha) (hs.accts x)).mono fun q hq => List.mem_append_right _ hq⟩, by unfold StL.er; rw [Jeo]⟩, by show Ending.returned _ = Ending.returned (Value.tuple #[Value.agg #[Kz (KU AcL.addr a s.accts).length (QC row)], .int .i64 0]); rw [Wm _ _ hrow.zero]; rfl, hs1.weakL (List.sublist_append_right [_, _, _] _)⟩)
theorem Jo2 {R : Ji} {xs ys : List (BS × BS)} {p q : Pl} (hl : xs.length ≤ 9223372036854775807) (hl2 : ys.length ≤ 9223372036854775807) (hs : Seg R xs.length (xs.flatMap Qw) p) (hs' : Seg R ys.length (ys.flatMap Qw) q) :
  PureR Tryz.prog 52 [Kz xs.length p, Kz ys.length q].toArray (.bool (decide (xs = ys))) R := by
 refine Ja Tryz.func52 rfl rfl fun w => ?_; refine JB ?_; refine Jq 9 rfl ?_; refine LR rfl (J0 rfl hs rfl) ?_; refine QI rfl (LR rfl (J0 rfl hs' rfl) (JM 3 rfl ?_)); refine cD (fun g => ?_) fun g => ?_
 refine Km 7 rfl ?_; refine pT rfl rfl rfl fun w1 hs1 => ?_; refine ⟨?_, hs1.keep⟩; rw [decide_eq_false (show ¬ xs = ys from fun e => by have := congrArg List.length e; omega)]; rfl
 ·refine Jq 6 rfl ?_; refine LR rfl (J0 rfl hs rfl) ?_; refine JM 4 rfl ?_
  have hll : xs.length = ys.length := by omega
  refine Jz (σ := Nat) (fun i => i ≤ xs.length ∧ ∀ j, j < i → xs[j]? = ys[j]?) (fun i => [(0, Kz xs.length p), (1, Kz ys.length q), (12, .int .i64 (xs.length : Int)), (13, .int .i64 (i : Int))]) (fun _ => []) (fun _ _ _ => True) (fun i => xs.length - i) 0 ⟨by omega, fun j hj => absurd hj (by omega)⟩ (lK rfl) (List.nil_sublist _) (fun _ _ h => h) ?_; rintro i ⟨hi1, hinv⟩; refine JP 6 rfl ?_; refine cD (fun g => ?_) fun g => ?_
  refine JP 11 rfl ?_
  obtain ⟨x, hx, hmx⟩ := Q4 (show i < xs.length by omega)
  obtain ⟨y, hy, hmy⟩ := Q4 (show i < ys.length by omega)
  refine JJ 9 (by kernel_rfl) (by kernel_rfl) ?_; refine Jb rfl rfl rfl (Jg rfl) ?_; refine Jb rfl rfl rfl (Jg rfl) ?_
  refine Jb rfl rfl rfl (Jr (j := i) rfl hs rfl rfl rfl (by first | rfl | omega) (by omega)) ?_; refine Jb rfl rfl rfl (JZ Kf oR rfl hs hx rfl rfl) ?_; refine Jb rfl rfl rfl (Jg rfl) ?_; refine Jb rfl rfl rfl (Jg rfl) ?_
  refine Jb rfl rfl rfl (Jr (j := i) rfl hs' rfl rfl rfl (by first | rfl | omega) (by omega)) ?_; refine Jb rfl rfl rfl (JZ Kf oR rfl hs' hy rfl rfl) ?_; refine Jb rfl rfl rfl (Jgr rfl rfl rfl (by kernel_rfl) (by kernel_rfl) (.scal (by decide) rfl rfl rfl rfl rfl (.scal (by decide) rfl rfl rfl rfl rfl .nil))) ?_; refine Qa (congrArg (fun b => Value.bool (!b)) (Jsc x y)) ?_; refine JW ?_; refine JM 2 rfl ?_; refine cD (fun g => ?_) fun g => ?_
  refine Km 11 rfl ?_; refine pT rfl rfl rfl fun w1 hs1 => ?_; refine ⟨?_, hs1.keep⟩; rw [decide_eq_false (Jwd hx hy (by simp_all))]; rfl
  refine Jq 5 rfl ?_; refine Jc (by omega) (by omega) ?_; refine Jy 2 rfl ?_; refine Jw ?_
  exact Jt (i + 1) ⟨by omega, fun j hj => by
   rcases Nat.lt_succ_iff_lt_or_eq.1 hj with hj | rfl
   exact hinv j hj
   rw [hx, hy]; simp_all⟩ (by omega) (lK rfl) (List.nil_sublist _) (fun _ _ h => h)
  ·refine Km 11 rfl ?_; refine pT rfl rfl rfl fun w1 hs1 => ?_; refine ⟨?_, hs1.keep⟩; rw [decide_eq_true (Jwc hll (by omega) hinv)]; rfl
theorem Jtw (a b : AcL) : a.er = b.er ↔ a.addr = b.addr ∧ a.nonce = b.nonce ∧ a.bal = b.bal ∧ a.code = b.code ∧ a.slots = b.slots := by
 unfold AcL.er
 simp
theorem Jtx {R : Ji} {a b : AcL} (ha : a.In R) (hb : b.In R) : PureR Tryz.prog 51 [vA a, vA b].toArray (.bool (decide (a.er = b.er))) R := by
 have heq := Jo2 ha.len hb.len ha.seg hb.seg
 have hE : decide (a.er = b.er) = (decide (a.addr = b.addr) && (decide (a.nonce = b.nonce) && (decide (a.bal = b.bal) && (decide (a.code = b.code) && decide (a.slots = b.slots))))) := by
  rw [Bool.eq_iff_iff]; simp only [decide_eq_true_eq, Bool.and_eq_true]; exact Jtw a b
 rw [hE]; refine Ja Tryz.func51 rfl rfl fun w => ?_; refine JB ?_; refine Jq 2 rfl ?_; refine LN rfl fun r1 => ?_; refine LN rfl fun r2 => ?_; refine XB 9 [1, 0] rfl rfl ?_; refine LR rfl (Xg rfl rfl) ?_; refine QI rfl ?_
 refine J7 10 rfl (fun gb => ?_) (fun gb => ?_) <;> (try simp only [ZZ] at gb) <;> first | (refine LR rfl (JE rfl rfl rfl) ?_) | (refine LK rfl ?_)
 all_goals refine LW 1 [1] rfl rfl ?_
 all_goals first | refine LR rfl (JE rfl rfl rfl) ?_ | refine LK rfl ?_
 all_goals refine LW 2 [0] rfl rfl ?_
 all_goals first | (refine J3 (congrArg Value.bool (eqU a.nonce b.nonce)) ?_) | skip
 all_goals refine LW 2 [] rfl rfl ?_
 all_goals first | refine LK rfl ?_ | (refine J7 17 rfl (fun gb => ?_) (fun gb => ?_) <;> (try simp only [ZZ] at gb) <;> first | (refine LR rfl (JE rfl rfl rfl) ?_) | (refine LK rfl ?_))
 all_goals refine LW 1 [1] rfl rfl ?_
 all_goals first | refine LR rfl (JE rfl rfl rfl) ?_ | refine LK rfl ?_
 all_goals refine LW 1 [0] rfl rfl ?_
 all_goals first | (refine LR rfl (zq rfl rfl rfl rfl rfl (by kernel_rfl) rfl rfl rfl rfl) ?_) | refine LK rfl ?_
 all_goals first | (refine J3 (congrArg Value.bool (eqW a.bal b.bal)) ?_) | skip
 all_goals refine LW 2 [] rfl rfl ?_
 all_goals first | refine LK rfl ?_ | (refine J7 24 rfl (fun gb => ?_) (fun gb => ?_) <;> (try simp only [ZZ] at gb) <;> first | (refine LR rfl (JE rfl rfl rfl) ?_) | (refine LK rfl ?_))
 all_goals refine LW 1 [1] rfl rfl ?_
 all_goals first | refine LR rfl (JE rfl rfl rfl) ?_ | refine LK rfl ?_
 all_goals refine LW 1 [0] rfl rfl ?_
 all_goals first | refine LR rfl (Xg rfl rfl) ?_ | refine LK rfl ?_
 all_goals refine LW 2 [] rfl rfl ?_
 all_goals first | refine LK rfl ?_ | (refine J7 31 rfl (fun gb => ?_) (fun gb => ?_) <;> (try simp only [ZZ] at gb) <;> first | (refine LR rfl (JE rfl rfl rfl) ?_) | (refine LK rfl ?_))
 all_goals refine LW 1 [1] rfl rfl ?_
 all_goals first | refine LR rfl (JE rfl rfl rfl) ?_ | refine LK rfl ?_
 all_goals refine LW 1 [0] rfl rfl ?_
 all_goals first | (refine Je rfl rfl rfl (enters_of Tryz.func52 (by kernel_rfl) rfl) heq oR ?_) | refine LK rfl ?_
 all_goals (
  refine LW 2 [] rfl rfl (Jy 1 rfl (Zx 2 rfl ?_)); refine pT rfl rfl rfl fun w1 hs1 => ?_; refine ⟨?_, hs1.keep⟩
  simp_all [J8]
  skip)
theorem jO {s t : StL} : s.er = t.er ↔ s.accts.length = t.accts.length ∧ ∀ (i : Nat) a b, s.accts[i]? = some a → t.accts[i]? = some b → a.er = b.er := by
 constructor
 ·intro h
  refine ⟨by have := congrArg List.length h; rwa [s.er_len, t.er_len] at this, fun i a b ha hb => ?_⟩
  have h1 := Yi ha
  have h2 := Yi hb
  rw [h, h2] at h1; exact (Option.some.inj h1).symm
 ·rintro ⟨h1, h2⟩
  apply List.ext_getElem?
  intro i
  by_cases hi : i < s.accts.length
  ·obtain ⟨a, ha, _⟩ := Q4 hi
   obtain ⟨b, hb, _⟩ := Q4 (show i < t.accts.length by omega)
   rw [Yi ha, Yi hb, h2 i a b ha hb]
  ·rw [List.getElem?_eq_none (by rw [s.er_len]; omega), List.getElem?_eq_none (by rw [t.er_len]; omega)]
theorem Jo3 {R : Ji} {s t : StL} (hs : s.In R) (ht : t.In R) :
  PureR Tryz.prog 53 [Kz s.accts.length s.p, Kz t.accts.length t.p, fV 51].toArray (.bool (decide (s.er = t.er))) R := by
 have hl : s.accts.length ≤ 9223372036854775807 := hs.len
 have hl2 : t.accts.length ≤ 9223372036854775807 := ht.len
 have h1 := hs.seg
 have h2 := ht.seg
 refine Ja Tryz.func53 rfl rfl fun w => ?_; refine JB ?_; refine Jq 9 rfl ?_; refine LR rfl (J0 rfl h1 rfl) ?_; refine QI rfl (LR rfl (J0 rfl h2 rfl) (JM 3 rfl ?_)); refine cD (fun g => ?_) fun g => ?_
 refine Km 7 rfl ?_; refine pT rfl rfl rfl fun w1 hs1 => ?_; refine ⟨?_, hs1.keep⟩; rw [decide_eq_false (show ¬ s.er = t.er from fun e => by have := (jO.1 e).1; omega)]; rfl
 ·refine Jq 6 rfl ?_; refine LR rfl (J0 rfl h1 rfl) ?_; refine JM 4 rfl ?_
  have hll : s.accts.length = t.accts.length := by omega
  refine Jz (σ := Nat) (fun i => i ≤ s.accts.length ∧ ∀ q, q < i → ∀ a b, s.accts[q]? = some a → t.accts[q]? = some b → a.er = b.er) (fun i => [(1, Kz t.accts.length t.p), (2, fV 51), (15, Kz s.accts.length s.p), (16, .int .i64 (s.accts.length : Int)), (17, .int .i64 (i : Int))]) (fun _ => []) (fun _ _ _ => True) (fun i => s.accts.length - i) 0 ⟨by omega, fun j hj => absurd hj (by omega)⟩ (lK rfl) (List.nil_sublist _) (fun _ _ h => h) ?_; rintro i ⟨hi1, hinv⟩; refine JP 6 rfl ?_; refine cD (fun g => ?_) fun g => ?_
  refine JP 5 rfl ?_
  obtain ⟨x, hx, hmx⟩ := Q4 (show i < s.accts.length by omega)
  obtain ⟨y, hy, hmy⟩ := Q4 (show i < t.accts.length by omega)
  refine Jq 2 rfl ?_
  refine LR rfl (Jr (j := i) rfl h1 rfl rfl rfl (by first | rfl | omega) (by omega)) ?_; refine LR rfl (JZ AcL.len oR rfl h1 hx rfl rfl) ?_; refine LN rfl fun r1 => ?_; refine QI rfl (Jk (k := 0) (n := 8) (ys := x.cells) rfl rfl rfl rfl rfl x.len rfl x.one rfl (JG 6 rfl ?_))
  refine LR rfl (Jr (j := i) rfl h2 rfl rfl rfl (by first | rfl | omega) (by omega)) ?_; refine LR rfl (JZ AcL.len oR rfl h2 hy rfl rfl) ?_; refine LN rfl fun r2 => ?_; refine Jk (k := 0) (n := 8) (ys := y.cells) rfl rfl rfl rfl rfl y.len rfl y.one rfl ?_; refine JG 5 rfl ?_; refine LR rfl (Jf (xs := x.cells) (n := 8) rfl (kn 1 rfl) rfl rfl x.len) ?_; refine LR rfl (Jf (xs := y.cells) (n := 8) rfl (kn 0 rfl) rfl rfl y.len) ?_; refine Je rfl rfl rfl (enters_of Tryz.func51 (by kernel_rfl) rfl) (Jtx (hs.accts x hmx) (ht.accts y hmy)) oR ?_; refine JM 3 rfl ?_; refine cD (fun g => ?_) fun g => ?_
  refine Km 11 rfl ?_; refine pT rfl rfl rfl fun w1 hs1 => ?_; refine ⟨?_, hs1.keep⟩; rw [decide_eq_false (show ¬ s.er = t.er from fun e => by have := (jO.1 e).2 i x y hx hy; simp_all)]; rfl
  refine Jq 5 rfl ?_; refine Jc (by omega) (by omega) ?_; refine Jy 2 rfl ?_; refine Jw ?_
  exact Jt (i + 1) ⟨by omega, fun q hq u v hu hv => by
   rcases Nat.lt_succ_iff_lt_or_eq.1 hq with hq | rfl
   exact hinv q hq u v hu hv
   rw [hx] at hu; rw [hy] at hv; cases hu; cases hv; simp_all⟩ (by omega) (lK rfl) (List.nil_sublist _) (fun _ _ h => h)
  ·refine Km 11 rfl ?_; refine pT rfl rfl rfl fun w1 hs1 => ?_; refine ⟨?_, hs1.keep⟩; rw [decide_eq_true (jO.2 ⟨hll, fun q a b ha hb => hinv q (by have := (List.getElem?_eq_some_iff.1 ha).1; omega) a b ha hb⟩)]; rfl
theorem Jo4 {R : Ji} {s t : StL} (hs : s.In R) (ht : t.In R) : PureR Tryz.prog 23 [s.val, t.val].toArray (.bool (decide (s.er = t.er))) R := by
 have h := Jo3 hs ht
 refine Ja Tryz.func23 rfl rfl fun w => ?_; refine JB ?_; refine Jq 2 rfl ?_; refine LN rfl fun r1 => ?_; refine LN rfl fun r2 => ?_; refine XB 15 [1, 0] rfl rfl ?_; refine Je rfl rfl rfl (enters_of Tryz.func53 (by kernel_rfl) rfl) h oR ?_; refine Jy 4 rfl ?_; refine pT rfl rfl rfl fun w1 hs1 => ?_; exact ⟨rfl, hs1.keep⟩
theorem Je9 (f : Int) : decide (KV f) = (decide (f ≥ 0) && decide (f ≤ 5)) := by
 rw [Bool.eq_iff_iff, Bool.and_eq_true, decide_eq_true_eq, decide_eq_true_eq, decide_eq_true_eq]; exact Iff.rfl
theorem Jc7 (f : Int) : Pure Tryz.prog 55 [.int .i64 f].toArray (.bool (decide (KV f))) := by
 rw [Je9]; refine Jl Tryz.func55 rfl rfl fun w => ?_; refine JB ?_; refine Jq 10 rfl ?_
 refine J7 5 rfl (fun gb => ?_) (fun gb => ?_) <;> (try simp only [ZZ] at gb) <;> first | (refine QI rfl ?_) | (refine LK rfl ?_)
 all_goals (
  refine LW 3 [] rfl rfl (Jy 1 rfl (Zx 2 rfl ?_)); refine pT rfl rfl rfl fun w1 hs1 => ?_; refine ⟨?_, hs1.keep⟩
  simp_all [J8]
  all_goals first | done | omega | trace_state
  skip)
theorem Jo5 : WOk w40.l := w40_ok.wok
theorem Jty : Pure Tryz.prog 58 [].toArray (J6 Vg) := by
 rw [Jv9]; refine Jl Tryz.func58 rfl rfl fun w => ?_; refine JB ?_; refine Jq 7 rfl ?_; refine LR rfl (Js (r := [_, _, _, _]) rfl rfl) ?_; refine Jo rfl rfl rfl Jb2 (QA Jo5) ?_; refine Jy 4 rfl ?_; refine pT rfl rfl rfl fun w1 hs1 => ?_; exact ⟨rfl, hs1.keep⟩
theorem Jw7 {n : Nat} (h : VD n) : Pure Tryz.prog 61 [uV n].toArray (J6 (Y3 n)) := by
 refine Jl Tryz.func61 rfl rfl fun w => ?_; refine JB ?_; refine Jq 8 rfl ?_; refine Jo rfl rfl rfl qk (V3 n) ?_; refine Jo rfl rfl rfl Jb2 (QA (Jei h).wok) ?_; refine Jy 4 rfl ?_; refine pT rfl rfl rfl fun w1 hs1 => ?_; exact ⟨rfl, hs1.keep⟩
theorem P_Addr0 : Pure Tryz.prog 19 [.int .i64 0].toArray (J6 A0) := by
 refine Jl Tryz.func19 rfl rfl fun w => ?_; refine JB ?_; refine JP 16 rfl ?_; refine J1 rfl (fun g => ?_) (fun g => ?_)
 try exact Bool.noConfusion g
 ·try simp only [ZZ] at g
  refine Jq 4 rfl ?_; refine Wz (n := 20) (b := 1) rfl rfl rfl rfl rfl rfl rfl rfl rfl (by decide) (by decide) fun r1 => ?_; refine JG 9 rfl ?_; refine Jc (by omega) (by omega) ?_; refine Wi rfl (vc (by omega) (by omega) (LR rfl (JF (j := 0) (m := 1) rfl rfl rfl rfl rfl (by decide) rfl) ?_)); refine LT 0 rfl rfl ?_; refine LR rfl (JF (j := 19) (m := 1) rfl rfl rfl rfl rfl (by decide) rfl) ?_; refine LT 0 rfl rfl ?_; refine JG 5 rfl ?_; refine LR rfl (Qs (b := A0) (row := some (r1, 20, [])) (e := 5) rfl ⟨rfl, rfl⟩ (fun p hp => .inl (by rw [List.mem_singleton.1 hp]; exact List.mem_cons_self)) rfl rfl rfl) ?_; refine Jy 4 rfl ?_; refine pT rfl rfl rfl fun w1 hs1 => ?_; exact ⟨rfl, hs1.keep⟩
theorem Jtz : Pure Tryz.prog 19 [.int .i64 1].toArray (J6 A1) := by
 refine Jl Tryz.func19 rfl rfl fun w => ?_; refine JB ?_; refine JP 16 rfl ?_; refine J1 rfl (fun g => ?_) (fun g => ?_)
 try exact Bool.noConfusion g
 ·try simp only [ZZ] at g
  refine Jq 4 rfl ?_; refine Wz (n := 20) (b := 1) rfl rfl rfl rfl rfl rfl rfl rfl rfl (by decide) (by decide) fun r1 => ?_; refine JG 9 rfl ?_; refine Jc (by omega) (by omega) ?_; refine Wi rfl (vc (by omega) (by omega) (LR rfl (JF (j := 0) (m := 1) rfl rfl rfl rfl rfl (by decide) rfl) ?_)); refine LT 0 rfl rfl ?_; refine LR rfl (JF (j := 19) (m := 1) rfl rfl rfl rfl rfl (by decide) rfl) ?_; refine LT 0 rfl rfl ?_; refine JG 5 rfl ?_; refine LR rfl (Qs (b := A1) (row := some (r1, 20, [])) (e := 5) rfl ⟨rfl, rfl⟩ (fun p hp => .inl (by rw [List.mem_singleton.1 hp]; exact List.mem_cons_self)) rfl rfl rfl) ?_; refine Jy 4 rfl ?_; refine pT rfl rfl rfl fun w1 hs1 => ?_; exact ⟨rfl, hs1.keep⟩
theorem Jt0 {f : Int} (h : f < 0 ∨ f > 1) : Pure Tryz.prog 19 [.int .i64 f].toArray (J6 []) := by
  refine Jl Tryz.func19 rfl rfl fun w => ?_; refine JB ?_; refine Jq 11 rfl ?_
  refine J7 6 rfl (fun gb => ?_) (fun gb => ?_) <;> (try simp only [ZZ] at gb) <;> first | (refine QI rfl ?_) | (refine LK rfl ?_)
  all_goals (
   refine LW 2 [] rfl rfl (Jy 1 rfl (Zr 1 rfl ?_)); refine J1 rfl (fun g => ?_) (fun g => ?_)
   try simp only [ZZ] at g
   refine Km 7 rfl ?_; refine pT rfl rfl rfl fun w1 hs1 => ?_
   first | exact ⟨rfl, hs1.keep⟩ | (exfalso; omega)
   · try exact Bool.noConfusion g
     all_goals try simp only [ZZ] at g
     all_goals (
      refine Jq 4 rfl ?_
      exfalso; omega
      skip)
   skip)
theorem Jo6 (f : Int) : Pure Tryz.prog 19 [.int .i64 f].toArray (J6 (V1 f)) := by
 by_cases h0 : f = 0
 ·subst h0; exact P_Addr0
 ·by_cases h1 : f = 1
  ·subst h1; exact Jtz
  ·have h : f < 0 ∨ f > 1 := by omega
   have e : V1 f = [] := by unfold V1; rw [if_pos h]
   rw [e]; exact Jt0 h
def cdC (p : Int × BS) : List Value := [.int .i64 p.1, J6 p.2]
theorem Jh3 (p : Int × BS) : (cdC p).length = 2 := rfl
def codes0 : List (Int × BS) := [(0, cOne), (1, Jyo), (3, Jmj), (5, Ju8)]
def codes1 : List (Int × BS) := [(2, Jyp)]
def XW (f : Int) : List (Int × BS) → BS × Bool → BS × Bool
 | [], acc => acc
 | p :: l, acc => XW f l (if f ≥ p.1 then (p.2, true) else acc)
theorem qr {f : Int} (h : KV f) : XW f codes0 ([], false) = Qe f 0 ∧ XW f codes1 ([], false) = Qe f 1 := by
 rcases Ye h with rfl | rfl | rfl | rfl | rfl | rfl <;> exact ⟨by decide +kernel, by decide +kernel⟩
theorem wi {f : Int} {p : Int × BS} : ∀ (l : List (Int × BS)) (acc : BS × Bool), XW f (l ++ [p]) acc = if f ≥ p.1 then (p.2, true) else XW f l acc
 | [], acc => rfl
 | q :: l, acc => by rw [List.cons_append, XW, XW, wi l]
theorem Va {f : Int} {l : List (Int × BS)} {i : Nat} {p : Int × BS} (h : l[i]? = some p) : XW f (l.take (i + 1)) ([], false) = if f ≥ p.1 then (p.2, true) else XW f (l.take i) ([], false) := by
 obtain ⟨h1, h2⟩ := List.getElem?_eq_some_iff.1 h
 rw [List.take_succ_eq_append_getElem h1, h2, wi]
theorem Jh4 : PureE (α := Nat × Nat) Tryz.prog 111 [].toArray (fun p => .agg #[.slice (some ⟨p.1, 0, none⟩) 4 4, .slice (some ⟨p.2, 0, none⟩) 1 1]) (fun p => [(p.2, .cells (codes1.flatMap cdC).toArray 160 (0, 0)), (p.1, .cells (codes0.flatMap cdC).toArray 160 (0, 0))]) := by
 refine JX Tryz.func111 rfl rfl fun w => ?_; refine JB ?_; refine Jq 2 rfl ?_; refine LN rfl fun r1 => ?_; refine JG 4 rfl ?_; refine LR rfl (Js (r := [_, _]) rfl rfl) ?_; refine LR rfl (Js (r := [_, _]) rfl rfl) ?_; refine LR rfl (Js (r := [_, _]) rfl rfl) ?_; refine LR rfl (Js (r := [_, _]) rfl rfl) ?_; refine JK (vs := [_, _, _, _]) (zs := [_, _, _, _, _, _, _, _]) (r := [_, _, _, _, _, _, _, _]) rfl rfl rfl rfl rfl rfl rfl rfl rfl (by rw [Kh]; exact rfl) rfl fun r2 => ?_; refine LR rfl (Js (r := [_, _]) rfl rfl) ?_; refine JK (vs := [_]) (zs := [_, _]) (r := [_, _]) rfl rfl rfl rfl rfl rfl rfl rfl rfl (by rw [Kh]; exact rfl) rfl fun r3 => ?_; refine LR rfl (Js (r := [_, _]) rfl rfl) ?_
 refine LT 2 rfl rfl ?_; refine Jy 3 rfl ?_; refine Jh rfl rfl (.cons (J2 (vs := [_, _]) rfl (kn 2 rfl) rfl rfl) .nil) (fun w1 hs1 => ?_); exact ⟨(r2, r3), rfl, hs1.weakL (.cons_cons _ (.cons_cons _ (List.nil_sublist _)))⟩
theorem Jze {f : Int} (hf : KV f) : Pure Tryz.prog 56 [.int .i64 f, .int .i64 0].toArray (.tuple #[J6 (Qe f 0).1, .bool (Qe f 0).2]) := by
 refine Jl Tryz.func56 rfl rfl fun w => ?_; refine JB ?_; refine Jq 15 rfl ?_; refine JR rfl rfl rfl (enters_of Tryz.func111 (by kernel_rfl) rfl) Jh4 fun pp => ?_
 obtain ⟨p1, p2⟩ := pp
 change HL _ _ _ [(p2, _), (p1, _)] _ _ _ _; refine QI rfl (LR rfl (qZ (j := 0) rfl rfl rfl rfl rfl rfl (by decide) rfl) (LR rfl (JQ rfl rfl) ?_)); refine JM 4 rfl ?_; refine Jz (σ := Nat) (fun i => i ≤ 4) (fun i => [(0, .int .i64 f), (6, J6 (XW f (codes0.take i) ([], false)).1), (7, .bool (XW f (codes0.take i) ([], false)).2), (12, .slice (some ⟨p1, 0, none⟩) 4 4), (13, .int .i64 4), (14, .int .i64 (i : Int))]) (fun _ => [(p2, .cells (codes1.flatMap cdC).toArray 160 (0, 0)), (p1, .cells (codes0.flatMap cdC).toArray 160 (0, 0))]) (fun _ _ _ => True) (fun i => 4 - i) 0 (Nat.zero_le _) (lK rfl) (List.Sublist.refl _) (fun _ _ h => h) ?_; intro i hi1; refine JP 6 rfl ?_; refine cD (fun g => ?_) fun g => ?_
 refine JP 5 rfl ?_
 obtain ⟨p, hp, -⟩ := Q4 (l := codes0) (show i < 4 by omega)
 refine Jq 1 rfl ?_; refine LR rfl (JF (j := i) (m := 2) (off' := i * 2) rfl rfl rfl rfl rfl (by omega) (by omega)) ?_; refine LR rfl (Jp (n := 2) (vs := cdC p) rfl (kn 1 rfl) rfl rfl (VQ Jh3 hp) rfl) ?_; refine LN rfl fun r1 => ?_
 refine LT 0 rfl rfl ?_; refine Goc 10 [0] rfl rfl ?_; refine cD (fun g => ?_) fun g => ?_
 refine XA 10 [0] rfl rfl ?_; refine Jc (by omega) (by omega) ?_; refine Jy 2 rfl ?_; refine Jw ?_; exact Jt (i + 1) (by omega) (by omega) (.cons rfl (.cons (by rw [Va hp, if_pos (by omega)]; rfl) (.cons (by rw [Va hp, if_pos (by omega)]; rfl) (lK rfl)))) (List.sublist_cons_self _ _) (fun _ _ h => h)
 refine Jq 5 rfl ?_; refine Jc (by omega) (by omega) ?_; refine Jy 2 rfl ?_; refine Jw ?_; exact Jt (i + 1) (by omega) (by omega) (.cons rfl (.cons (by rw [Va hp, if_neg (by omega)]; rfl) (.cons (by rw [Va hp, if_neg (by omega)]; rfl) (lK rfl)))) (List.sublist_cons_self _ _) (fun _ _ h => h)
 ·refine Km 14 rfl ?_; refine Jh rfl rfl (.cons (Jj rfl) (.cons (Jj rfl) .nil)) (fun w1 hs1 => ?_); refine ⟨?_, hs1.keep⟩
  obtain rfl : i = 4 := by omega
  rw [← (qr hf).1]
  rfl
theorem Jzf {f : Int} (hf : KV f) : Pure Tryz.prog 56 [.int .i64 f, .int .i64 1].toArray (.tuple #[J6 (Qe f 1).1, .bool (Qe f 1).2]) := by
 refine Jl Tryz.func56 rfl rfl fun w => ?_; refine JB ?_; refine Jq 15 rfl ?_; refine JR rfl rfl rfl (enters_of Tryz.func111 (by kernel_rfl) rfl) Jh4 fun pp => ?_
 obtain ⟨p1, p2⟩ := pp
 change HL _ _ _ [(p2, _), (p1, _)] _ _ _ _; refine QI rfl (LR rfl (qZ (j := 1) rfl rfl rfl rfl rfl rfl (by decide) rfl) (LR rfl (JQ rfl rfl) ?_)); refine JM 4 rfl ?_; refine Jz (σ := Nat) (fun i => i ≤ 1) (fun i => [(0, .int .i64 f), (6, J6 (XW f (codes1.take i) ([], false)).1), (7, .bool (XW f (codes1.take i) ([], false)).2), (12, .slice (some ⟨p2, 0, none⟩) 1 1), (13, .int .i64 1), (14, .int .i64 (i : Int))]) (fun _ => [(p2, .cells (codes1.flatMap cdC).toArray 160 (0, 0)), (p1, .cells (codes0.flatMap cdC).toArray 160 (0, 0))]) (fun _ _ _ => True) (fun i => 1 - i) 0 (Nat.zero_le _) (lK rfl) (List.Sublist.refl _) (fun _ _ h => h) ?_; intro i hi1; refine JP 6 rfl ?_; refine cD (fun g => ?_) fun g => ?_
 refine JP 5 rfl ?_
 obtain ⟨p, hp, -⟩ := Q4 (l := codes1) (show i < 1 by omega)
 refine Jq 1 rfl ?_; refine LR rfl (JF (j := i) (m := 2) (off' := i * 2) rfl rfl rfl rfl rfl (by omega) (by omega)) ?_; refine LR rfl (Jp (n := 2) (vs := cdC p) rfl (kn 0 rfl) rfl rfl (VQ Jh3 hp) rfl) ?_; refine LN rfl fun r1 => ?_
 refine LT 0 rfl rfl ?_; refine Goc 10 [0] rfl rfl ?_; refine cD (fun g => ?_) fun g => ?_
 refine XA 10 [0] rfl rfl ?_; refine Jc (by omega) (by omega) ?_; refine Jy 2 rfl ?_; refine Jw ?_; exact Jt (i + 1) (by omega) (by omega) (.cons rfl (.cons (by rw [Va hp, if_pos (by omega)]; rfl) (.cons (by rw [Va hp, if_pos (by omega)]; rfl) (lK rfl)))) (List.sublist_cons_self _ _) (fun _ _ h => h)
 refine Jq 5 rfl ?_; refine Jc (by omega) (by omega) ?_; refine Jy 2 rfl ?_; refine Jw ?_; exact Jt (i + 1) (by omega) (by omega) (.cons rfl (.cons (by rw [Va hp, if_neg (by omega)]; rfl) (.cons (by rw [Va hp, if_neg (by omega)]; rfl) (lK rfl)))) (List.sublist_cons_self _ _) (fun _ _ h => h)
 ·refine Km 14 rfl ?_; refine Jh rfl rfl (.cons (Jj rfl) (.cons (Jj rfl) .nil)) (fun w1 hs1 => ?_); refine ⟨?_, hs1.keep⟩
  obtain rfl : i = 1 := by omega
  rw [← (qr hf).2]
  rfl
def Qf (r o : Nat) : Value := .pointer (some ⟨r, o, none⟩)
theorem jP (r : Nat) : Pure Tryz.prog 179 [Qf r 0].toArray (Qf r 14) := by
 refine Jl Tryz.func179 rfl rfl fun w => ?_; refine JB ?_; refine Km 14 rfl ?_; refine pT rfl rfl rfl fun w1 hs1 => ?_; exact ⟨rfl, hs1.keep⟩
theorem Jo7 (r : Nat) : Pure Tryz.prog 181 [Qf r 0].toArray (Qf r 0) := by
 refine Jl Tryz.func181 rfl rfl fun w => ?_; refine JB ?_; refine Km 14 rfl ?_; refine pT rfl rfl rfl fun w1 hs1 => ?_; exact ⟨rfl, hs1.keep⟩
theorem Jo8 (r : Nat) : Pure Tryz.prog 182 [Qf r 0].toArray (Qf r 1) := by
 refine Jl Tryz.func182 rfl rfl fun w => ?_; refine JB ?_; refine Km 14 rfl ?_; refine pT rfl rfl rfl fun w1 hs1 => ?_; exact ⟨rfl, hs1.keep⟩
theorem Jo9 (r : Nat) : Pure Tryz.prog 184 [Qf r 0].toArray (Qf r 2) := by
 refine Jl Tryz.func184 rfl rfl fun w => ?_; refine JB ?_; refine Km 14 rfl ?_; refine pT rfl rfl rfl fun w1 hs1 => ?_; exact ⟨rfl, hs1.keep⟩
theorem Jpa (r : Nat) : Pure Tryz.prog 185 [Qf r 0].toArray (Qf r 10) := by
 refine Jl Tryz.func185 rfl rfl fun w => ?_; refine JB ?_; refine Km 14 rfl ?_; refine pT rfl rfl rfl fun w1 hs1 => ?_; exact ⟨rfl, hs1.keep⟩
theorem Jpb (r : Nat) : Pure Tryz.prog 186 [Qf r 0].toArray (Qf r 15) := by
 refine Jl Tryz.func186 rfl rfl fun w => ?_; refine JB ?_; refine Km 14 rfl ?_; refine pT rfl rfl rfl fun w1 hs1 => ?_; exact ⟨rfl, hs1.keep⟩
theorem Jpc (r : Nat) : Pure Tryz.prog 187 [Qf r 0].toArray (Qf r 6) := by
 refine Jl Tryz.func187 rfl rfl fun w => ?_; refine JB ?_; refine Km 14 rfl ?_; refine pT rfl rfl rfl fun w1 hs1 => ?_; exact ⟨rfl, hs1.keep⟩
theorem xB (r : Nat) : Pure Tryz.prog 188 [Qf r 0].toArray (Qf r 16) := by
 refine Jl Tryz.func188 rfl rfl fun w => ?_; refine JB ?_; refine Km 14 rfl ?_; refine pT rfl rfl rfl fun w1 hs1 => ?_; exact ⟨rfl, hs1.keep⟩
theorem Jh5 {R : Ji} {b1 b2 e1 e2 : Nat} {gl gh : FuncId} {ol oh x y : Nat} (egl : Enters Tryz.prog gl) (egh : Enters Tryz.prog gh) (hgl : ∀ ρ, Pure Tryz.prog gl [Qf ρ 0].toArray (Qf ρ ol)) (hgh : ∀ ρ, Pure Tryz.prog gh [Qf ρ 0].toArray (Qf ρ oh))
  (h1 : (b1, Obj.cells #[fV gl] e1 (0, 0)) ∈ R) (h2 : (b2, Obj.cells #[fV gh] e2 (0, 0)) ∈ R) (r : Rec) (hx : W9 r.cells ol = some (uV x)) (hy : W9 r.cells oh = some (uV y)) : PureR Tryz.prog 239 [r.val, Qf b1 0, Qf b2 0].toArray (wV [x, y, 0, 0]) R := by
 refine Ja Tryz.func239 rfl rfl fun w => ?_; refine JB ?_; refine Jq 2 rfl ?_; refine Ko (cs := r.cells.toArray) rfl rfl rfl rfl fun rb => ?_; refine LN rfl fun r1 => ?_; refine JG 4 rfl ?_; refine LR rfl (Jd rfl (Or.inr h1) rfl rfl) ?_; refine Jo rfl rfl rfl egl (hgl rb) ?_; refine Wi rfl (LR rfl (Jd rfl (kn 1 rfl) rfl hx) (Jo rfl rfl rfl qk (V3 x) ?_)); refine LN rfl fun r2 => ?_
 refine LT 0 rfl rfl ?_; refine JG 5 rfl ?_; refine LR rfl (Jd rfl (Or.inr h2) rfl rfl) ?_; refine JM 3 rfl ?_; refine J1 rfl (fun g => ?_) (fun g => ?_)
 try simp only [ZZ] at g
 refine Jq 1 rfl ?_; refine LR rfl (Jd rfl (Or.inr h2) rfl rfl) ?_; refine Jo rfl rfl rfl egh (hgh rb) ?_; refine Wi rfl (LR rfl (Jd rfl (kn 2 rfl) rfl hy) ?_)
 refine LR rfl (JI (j := 1) rfl rfl rfl rfl rfl (by first | decide | omega) (by first | (simp only [Nat.zero_add, Nat.reduceAdd, Nat.reduceMul, Nat.zero_mul, Nat.mul_one, Nat.add_zero]; exact rfl) | exact rfl)) ?_
 refine LT 0 rfl rfl ?_; refine JG 4 rfl ?_; refine LR rfl (Jp (vs := [_, _, _, _]) rfl (kn 0 rfl) rfl rfl rfl rfl) ?_
 refine LT 1 rfl rfl ?_; refine Jy 3 rfl ?_; refine Jh rfl rfl (.cons (J2 (vs := [_, _, _, _]) rfl (kn 1 rfl) rfl rfl) .nil) (fun w1 hs1 => ?_); exact ⟨rfl, hs1.keep⟩
 ·try exact Bool.noConfusion g
theorem Jh6 {R : Ji} {b1 b2 e1 e2 : Nat} {gl gh : FuncId} {ol oh x y : Nat} (egl : Enters Tryz.prog gl) (egh : Enters Tryz.prog gh) (hgl : ∀ ρ, Pure Tryz.prog gl [Qf ρ 0].toArray (Qf ρ ol)) (hgh : ∀ ρ, Pure Tryz.prog gh [Qf ρ 0].toArray (Qf ρ oh))
  (h1 : (b1, Obj.cells #[fV gl] e1 (0, 0)) ∈ R) (h2 : (b2, Obj.cells #[.nilFunc] e2 (0, 0)) ∈ R) (r : Rec) (hx : W9 r.cells ol = some (uV x)) (hy : W9 r.cells oh = some (uV y)) : PureR Tryz.prog 239 [r.val, Qf b1 0, Qf b2 0].toArray (wV [x, 0, 0, 0]) R := by
 refine Ja Tryz.func239 rfl rfl fun w => ?_; refine JB ?_; refine Jq 2 rfl ?_; refine Ko (cs := r.cells.toArray) rfl rfl rfl rfl fun rb => ?_; refine LN rfl fun r1 => ?_; refine JG 4 rfl ?_; refine LR rfl (Jd rfl (Or.inr h1) rfl rfl) ?_; refine Jo rfl rfl rfl egl (hgl rb) ?_; refine Wi rfl (LR rfl (Jd rfl (kn 1 rfl) rfl hx) (Jo rfl rfl rfl qk (V3 x) ?_)); refine LN rfl fun r2 => ?_
 refine LT 0 rfl rfl ?_; refine JG 5 rfl ?_; refine LR rfl (Jd rfl (Or.inr h2) rfl rfl) ?_; refine JM 3 rfl ?_; refine J1 rfl (fun g => ?_) (fun g => ?_)
 try exact Bool.noConfusion g
 ·try simp only [ZZ] at g
  refine Jq 4 rfl ?_; refine LR rfl (Jp (vs := [_, _, _, _]) rfl (kn 0 rfl) rfl rfl rfl rfl) ?_
  refine LT 1 rfl rfl ?_; refine Jy 3 rfl ?_; refine Jh rfl rfl (.cons (J2 (vs := [_, _, _, _]) rfl (kn 1 rfl) rfl rfl) .nil) (fun w1 hs1 => ?_); exact ⟨rfl, hs1.keep⟩
theorem xC {R : Ji} {b1 e1 : Nat} {g : FuncId} {o : Nat} {x : W4} (eg : Enters Tryz.prog g) (hg : ∀ ρ, Pure Tryz.prog g [Qf ρ 0].toArray (Qf ρ o)) (h1 : (b1, Obj.cells #[fV g] e1 (0, 0)) ∈ R) (r : Rec) (hx : (r.cells.drop o).take 4 = x.l.map uV) : PureR Tryz.prog 241 [r.val, Qf b1 0].toArray (wV x.l) R := by
 refine Ja Tryz.func241 rfl rfl fun w => ?_; refine JB ?_; refine Jq 2 rfl ?_; refine Ko (cs := r.cells.toArray) rfl rfl rfl rfl fun rb => ?_; refine LN rfl fun r1 => ?_; refine JG 4 rfl ?_; refine LR rfl (Jd rfl (Or.inr h1) rfl rfl) ?_; refine Jo rfl rfl rfl eg (hg rb) ?_; refine Wi rfl (LR rfl (Jp (n := 4) (vs := x.l.map uV) rfl (kn 1 rfl) rfl rfl hx rfl) ?_)
 refine LT 0 rfl rfl ?_; refine Jy 3 rfl ?_; refine Jh rfl rfl (.cons (J2 (vs := [_, _, _, _]) rfl (kn 0 rfl) rfl rfl) .nil) (fun w1 hs1 => ?_); exact ⟨rfl, hs1.keep⟩
theorem Jh7 {R : Ji} {ρ b1 b2 e1 e2 : Nat} {gl gh : FuncId} {ol oh : Nat} (egl : Enters Tryz.prog gl) (egh : Enters Tryz.prog gh) (hgl : ∀ ρ, Pure Tryz.prog gl [Qf ρ 0].toArray (Qf ρ ol)) (hgh : ∀ ρ, Pure Tryz.prog gh [Qf ρ 0].toArray (Qf ρ oh))
  (h1 : (b1, Obj.cells #[fV gl] e1 (0, 0)) ∈ R) (h2 : (b2, Obj.cells #[fV gh] e2 (0, 0)) ∈ R) (r : Rec) (w4 : W4) (ho : ol < 17) (ho2 : oh < 17) : PureT (α := Unit) Tryz.prog 240 [Qf ρ 0, wV w4.l, Qf b1 0, Qf b2 0].toArray (fun _ => .tuple #[]) [(ρ, .cells r.cells.toArray 29 (0, 0))] (fun _ => [(ρ, .cells ((r.cells.set ol (uV w4.a)).set oh (uV w4.b)).toArray 29 (0, 0))]) R := by
 refine Ju Tryz.func240 rfl rfl fun w => ?_; refine JB ?_; refine Jq 2 rfl ?_; refine LN rfl fun r1 => ?_; refine JM 3 rfl ?_; refine JJ 5 (by kernel_rfl) (by kernel_rfl) ?_; refine Jb rfl rfl rfl (Jd rfl (Or.inr h1) rfl rfl) ?_; refine Jb rfl rfl rfl (Jg rfl) ?_; refine Ky rfl rfl rfl egl (hgl ρ) ?_
 refine Jb rfl rfl rfl (JI (j := 0) rfl rfl rfl rfl rfl (by first | decide | omega) (by first | (simp only [Nat.zero_add, Nat.reduceAdd, Nat.reduceMul, Nat.zero_mul, Nat.mul_one, Nat.add_zero]; exact rfl) | exact rfl)) ?_; refine Jb rfl rfl rfl (Jd rfl (kn 0 rfl) rfl rfl) ?_; refine JW ?_; refine Wi rfl ?_; refine Kx (k := 1) (cs' := (r.cells.set ol (uV w4.a)).toArray) rfl rfl rfl rfl rfl rfl (by rw [List.getElem?_toArray, List.getElem?_eq_getElem (show ol < r.cells.length from ho)]; rfl) rfl (by simp) rfl ?_; refine JG 4 rfl ?_; refine LR rfl (Jd rfl (Or.inr h2) rfl rfl) ?_; refine JM 3 rfl ?_; refine J1 rfl (fun g => ?_) (fun g => ?_)
 try simp only [ZZ] at g
 refine JJ 5 (by kernel_rfl) (by kernel_rfl) ?_; refine Jb rfl rfl rfl (Jd rfl (Or.inr h2) rfl rfl) ?_; refine Jb rfl rfl rfl (Jg rfl) ?_; refine Ky rfl rfl rfl egh (hgh ρ) ?_
 refine Jb rfl rfl rfl (JI (j := 1) rfl rfl rfl rfl rfl (by first | decide | omega) (by first | (simp only [Nat.zero_add, Nat.reduceAdd, Nat.reduceMul, Nat.zero_mul, Nat.mul_one, Nat.add_zero]; exact rfl) | exact rfl)) ?_; refine Jb rfl rfl rfl (Jd rfl (kn 0 rfl) rfl rfl) ?_; refine JW ?_; refine Wi rfl ?_; refine Kx (k := 1) (cs' := ((r.cells.set ol (uV w4.a)).set oh (uV w4.b)).toArray) rfl rfl rfl rfl rfl rfl (by rw [List.getElem?_toArray, List.getElem?_eq_getElem (show oh < (r.cells.set ol (uV w4.a)).length from by rw [List.length_set]; exact ho2)]; rfl) rfl (by simp) rfl ?_; refine Jy 1 rfl ?_; refine Kj rfl rfl .nil (fun w1 hs1 => ?_); exact ⟨(), rfl, hs1.weakL (List.sublist_cons_self _ _)⟩
 ·try exact Bool.noConfusion g
theorem Jh8 {R : Ji} {ρ b1 b2 e1 e2 : Nat} {gl gh : FuncId} {ol oh : Nat} (egl : Enters Tryz.prog gl) (egh : Enters Tryz.prog gh) (hgl : ∀ ρ, Pure Tryz.prog gl [Qf ρ 0].toArray (Qf ρ ol)) (hgh : ∀ ρ, Pure Tryz.prog gh [Qf ρ 0].toArray (Qf ρ oh))
  (h1 : (b1, Obj.cells #[fV gl] e1 (0, 0)) ∈ R) (h2 : (b2, Obj.cells #[.nilFunc] e2 (0, 0)) ∈ R) (r : Rec) (w4 : W4) (ho : ol < 17) (ho2 : oh < 17) : PureT (α := Unit) Tryz.prog 240 [Qf ρ 0, wV w4.l, Qf b1 0, Qf b2 0].toArray (fun _ => .tuple #[]) [(ρ, .cells r.cells.toArray 29 (0, 0))] (fun _ => [(ρ, .cells (r.cells.set ol (uV w4.a)).toArray 29 (0, 0))]) R := by
 refine Ju Tryz.func240 rfl rfl fun w => ?_; refine JB ?_; refine Jq 2 rfl ?_; refine LN rfl fun r1 => ?_; refine JM 3 rfl ?_; refine JJ 5 (by kernel_rfl) (by kernel_rfl) ?_; refine Jb rfl rfl rfl (Jd rfl (Or.inr h1) rfl rfl) ?_; refine Jb rfl rfl rfl (Jg rfl) ?_; refine Ky rfl rfl rfl egl (hgl ρ) ?_
 refine Jb rfl rfl rfl (JI (j := 0) rfl rfl rfl rfl rfl (by first | decide | omega) (by first | (simp only [Nat.zero_add, Nat.reduceAdd, Nat.reduceMul, Nat.zero_mul, Nat.mul_one, Nat.add_zero]; exact rfl) | exact rfl)) ?_; refine Jb rfl rfl rfl (Jd rfl (kn 0 rfl) rfl rfl) ?_; refine JW ?_; refine Wi rfl ?_; refine Kx (k := 1) (cs' := (r.cells.set ol (uV w4.a)).toArray) rfl rfl rfl rfl rfl rfl (by rw [List.getElem?_toArray, List.getElem?_eq_getElem (show ol < r.cells.length from ho)]; rfl) rfl (by simp) rfl ?_; refine JG 4 rfl ?_; refine LR rfl (Jd rfl (Or.inr h2) rfl rfl) ?_; refine JM 3 rfl ?_; refine J1 rfl (fun g => ?_) (fun g => ?_)
 try exact Bool.noConfusion g
 ·try simp only [ZZ] at g
  refine Km 1 rfl ?_; refine Kj rfl rfl .nil (fun w1 hs1 => ?_); exact ⟨(), rfl, hs1.weakL (List.sublist_cons_self _ _)⟩
theorem xD {R : Ji} {ρ b1 e1 : Nat} {g : FuncId} {o : Nat} {cs : List Value} (eg : Enters Tryz.prog g) (hg : ∀ ρ, Pure Tryz.prog g [Qf ρ 0].toArray (Qf ρ o)) (h1 : (b1, Obj.cells #[fV g] e1 (0, 0)) ∈ R) (r : Rec) (w4 : W4) (ho : o + 4 ≤ 17) (hcs : r.cells.take o ++ w4.l.map uV ++ r.cells.drop (o + 4) = cs) : PureT (α := Unit) Tryz.prog 242 [Qf ρ 0, wV w4.l, Qf b1 0].toArray (fun _ => .tuple #[]) [(ρ, .cells r.cells.toArray 29 (0, 0))] (fun _ => [(ρ, .cells cs.toArray 29 (0, 0))]) R := by
 refine Ju Tryz.func242 rfl rfl fun w => ?_; refine JB ?_; refine Jq 2 rfl ?_; refine LN rfl fun r1 => ?_; refine JM 2 rfl ?_; refine JJ 4 (by kernel_rfl) (by kernel_rfl) ?_; refine Jb rfl rfl rfl (Jd rfl (Or.inr h1) rfl rfl) ?_; refine Jb rfl rfl rfl (Jg rfl) ?_; refine Ky rfl rfl rfl eg (hg ρ) ?_; refine Jb rfl rfl rfl (Jp (vs := [_, _, _, _]) rfl (kn 0 rfl) rfl rfl rfl rfl) ?_; refine JW ?_; refine Wi rfl (Qz (k := 1) (n := 4) (vs := (w4.l.map uV).toArray) (cs' := cs.toArray) rfl rfl rfl rfl rfl rfl rfl ho (by rw [← hcs]) rfl (Jy 1 rfl ?_)); refine Kj rfl rfl .nil (fun w1 hs1 => ?_); exact ⟨(), rfl, hs1.weakL (List.sublist_cons_self _ _)⟩
def frN : Nat → Int
 | 0 => 0
 | 1 => 0
 | 2 => 0
 | 3 => 0
 | 4 => 3
 | 5 => 3
 | _ => 5
def toN : Nat → Int
 | 0 => 5
 | 1 => 5
 | 2 => 2
 | 3 => 2
 | 4 => 5
 | 5 => 5
 | _ => 5
def Jpd : Nat → FuncId
 | 0 => 239
 | 1 => 241
 | 2 => 241
 | 3 => 239
 | 4 => 239
 | 5 => 241
 | _ => 239
def Jpe : Nat → FuncId
 | 0 => 240
 | 1 => 242
 | 2 => 242
 | 3 => 240
 | 4 => 240
 | 5 => 242
 | _ => 240
def Jh9 (p : Nat → Nat) : Nat → List Value
 | 0 => [Qf (p 1) 0, Qf (p 2) 0]
 | 1 => [Qf (p 3) 0]
 | 2 => [Qf (p 4) 0]
 | 3 => [Qf (p 5) 0, Qf (p 6) 0]
 | 4 => [Qf (p 7) 0, Qf (p 8) 0]
 | 5 => [Qf (p 9) 0]
 | _ => [Qf (p 10) 0, Qf (p 11) 0]
def Zw (p : Nat → Nat) : Nat → Ji
 | 0 => [(p 2, .cells #[fV 182] 214 (0, 0)), (p 1, .cells #[fV 181] 214 (0, 0))]
 | 1 => [(p 3, .cells #[fV 184] 218 (0, 0))]
 | 2 => [(p 4, .cells #[fV 185] 218 (0, 0))]
 | 3 => [(p 6, .cells #[.nilFunc] 214 (0, 0)), (p 5, .cells #[fV 179] 214 (0, 0))]
 | 4 => [(p 8, .cells #[fV 186] 214 (0, 0)), (p 7, .cells #[fV 179] 214 (0, 0))]
 | 5 => [(p 9, .cells #[fV 187] 218 (0, 0))]
 | _ => [(p 11, .cells #[.nilFunc] 214 (0, 0)), (p 10, .cells #[fV 188] 214 (0, 0))]
def wj (p : Nat → Nat) (i : Nat) : List Value := [uV (Yd i), .int .i64 (frN i), .int .i64 (toN i), .func (.func (Jpd i)) #[] (Jh9 p i).toArray, .func (.func (Jpe i)) #[] (Jh9 p i).toArray]
theorem Jpf (p : Nat → Nat) (i : Nat) : (wj p i).length = 5 := rfl
theorem Jt2 {i : Nat} (h : i < 7) : tab[i]? = some i := by
 have : i = 0 ∨ i = 1 ∨ i = 2 ∨ i = 3 ∨ i = 4 ∨ i = 5 ∨ i = 6 := by omega
 rcases this with rfl | rfl | rfl | rfl | rfl | rfl | rfl <;> rfl
theorem lt7 {i : Nat} (h : i < 7) : i = 0 ∨ i = 1 ∨ i = 2 ∨ i = 3 ∨ i = 4 ∨ i = 5 ∨ i = 6 := by omega
theorem Jpg {f : Int} (hf : KV f) {i : Nat} (hi : i < 7) : Y4 f i = (decide (f ≥ frN i) && decide (f ≤ toN i)) := by
 rcases Ye hf with rfl | rfl | rfl | rfl | rfl | rfl <;> rcases lt7 hi with rfl | rfl | rfl | rfl | rfl | rfl | rfl <;> rfl
theorem qt {i : Nat} (h : i < 7) : Enters Tryz.prog (Jpd i) := by
 rcases lt7 h with rfl | rfl | rfl | rfl | rfl | rfl | rfl
 ·exact Jg5
 ·exact Jnb
 ·exact Jnb
 ·exact Jg5
 ·exact Jg5
 ·exact Jnb
 ·exact Jg5
theorem Jc8 {i : Nat} (h : i < 7) : Enters Tryz.prog (Jpe i) := by
 rcases lt7 h with rfl | rfl | rfl | rfl | rfl | rfl | rfl
 ·exact Jg6
 ·exact Jnc
 ·exact Jnc
 ·exact Jg6
 ·exact Jg6
 ·exact Jnc
 ·exact Jg6
theorem Jia {R : Ji} {p : Nat → Nat} {i : Nat} (hi : i < 7) (hR : ∀ q ∈ Zw p i, q ∈ R) (r : Rec) : PureR Tryz.prog (Jpd i) (r.val :: Jh9 p i).toArray (wV (X6 r i).l) R := by
 rcases lt7 hi with rfl | rfl | rfl | rfl | rfl | rfl | rfl
 ·exact Jh5 (enters_of Tryz.func181 (by kernel_rfl) rfl) (enters_of Tryz.func182 (by kernel_rfl) rfl) Jo7 Jo8 (hR _ (List.mem_cons_of_mem _ List.mem_cons_self)) (hR _ List.mem_cons_self) r rfl rfl
 ·exact xC (enters_of Tryz.func184 (by kernel_rfl) rfl) Jo9 (hR _ List.mem_cons_self) r rfl
 ·exact xC (enters_of Tryz.func185 (by kernel_rfl) rfl) Jpa (hR _ List.mem_cons_self) r rfl
 ·exact Jh6 yA yA jP jP (hR _ (List.mem_cons_of_mem _ List.mem_cons_self)) (hR _ List.mem_cons_self) r rfl rfl
 ·exact Jh5 yA (enters_of Tryz.func186 (by kernel_rfl) rfl) jP Jpb (hR _ (List.mem_cons_of_mem _ List.mem_cons_self)) (hR _ List.mem_cons_self) r rfl rfl
 ·exact xC (enters_of Tryz.func187 (by kernel_rfl) rfl) Jpc (hR _ List.mem_cons_self) r rfl
 ·exact Jh6 Jg2 Jg2 xB xB (hR _ (List.mem_cons_of_mem _ List.mem_cons_self)) (hR _ List.mem_cons_self) r rfl rfl
theorem Jt3 {R : Ji} {p : Nat → Nat} {i ρ : Nat} (hi : i < 7) (hR : ∀ q ∈ Zw p i, q ∈ R) (r : Rec) (w4 : W4) : PureT (α := Unit) Tryz.prog (Jpe i) (Qf ρ 0 :: wV w4.l :: Jh9 p i).toArray (fun _ => .tuple #[]) [(ρ, .cells r.cells.toArray 29 (0, 0))] (fun _ => [(ρ, .cells (vy r w4 i).cells.toArray 29 (0, 0))]) R := by
 rcases lt7 hi with rfl | rfl | rfl | rfl | rfl | rfl | rfl
 ·exact Jh7 (enters_of Tryz.func181 (by kernel_rfl) rfl) (enters_of Tryz.func182 (by kernel_rfl) rfl) Jo7 Jo8 (hR _ (List.mem_cons_of_mem _ List.mem_cons_self)) (hR _ List.mem_cons_self) r w4 (by decide) (by decide)
 ·exact xD (enters_of Tryz.func184 (by kernel_rfl) rfl) Jo9 (hR _ List.mem_cons_self) r w4 (by decide) rfl
 ·exact xD (enters_of Tryz.func185 (by kernel_rfl) rfl) Jpa (hR _ List.mem_cons_self) r w4 (by decide) rfl
 ·exact Jh8 yA yA jP jP (hR _ (List.mem_cons_of_mem _ List.mem_cons_self)) (hR _ List.mem_cons_self) r w4 (by decide) (by decide)
 ·exact Jh7 yA (enters_of Tryz.func186 (by kernel_rfl) rfl) jP Jpb (hR _ (List.mem_cons_of_mem _ List.mem_cons_self)) (hR _ List.mem_cons_self) r w4 (by decide) (by decide)
 ·exact xD (enters_of Tryz.func187 (by kernel_rfl) rfl) Jpc (hR _ List.mem_cons_self) r w4 (by decide) rfl
 ·exact Jh8 Jg2 Jg2 xB xB (hR _ (List.mem_cons_of_mem _ List.mem_cons_self)) (hR _ List.mem_cons_self) r w4 (by decide) (by decide)
theorem yP (k : Nat) (a b : Int) (gl gh : FuncId) : PureE (α := Nat × Nat) Tryz.prog 180 [uV k, .int .i64 a, .int .i64 b, fV gl, fV gh].toArray (fun p => .agg #[uV k, .int .i64 a, .int .i64 b, .func (.func 239) #[] #[Qf p.1 0, Qf p.2 0], .func (.func 240) #[] #[Qf p.1 0, Qf p.2 0]]) (fun p => [(p.2, .cells #[fV gh] 214 (0, 0)), (p.1, .cells #[fV gl] 214 (0, 0))]) := by
 refine JX Tryz.func180 rfl rfl fun w => ?_; refine JB ?_; refine Jq 2 rfl ?_; refine LN rfl fun r1 => ?_; refine LN rfl fun r2 => ?_; refine LN rfl fun r3 => ?_; refine JG 4 rfl ?_; refine LR rfl (JD rfl rfl) ?_; refine JG 5 rfl ?_; refine LR rfl (JD rfl rfl) ?_; refine JG 10 rfl ?_; refine LR rfl (Js (r := [_, _, _, _, _]) rfl rfl) ?_
 refine LT 0 rfl rfl ?_; refine Jy 3 rfl ?_; refine Jh rfl rfl (.cons (J2 (vs := [_, _, _, _, _]) rfl (kn 0 rfl) rfl rfl) .nil) (fun w1 hs1 => ?_); exact ⟨(r1, r2), rfl, hs1.weakL (List.sublist_cons_self _ _)⟩
theorem yQ (k : Nat) (a b : Int) (gl gh : FuncId) : PureE (α := Nat × Nat) Tryz.prog 180 [uV k, .int .i64 a, .int .i64 b, fV gl, .nilFunc].toArray (fun p => .agg #[uV k, .int .i64 a, .int .i64 b, .func (.func 239) #[] #[Qf p.1 0, Qf p.2 0], .func (.func 240) #[] #[Qf p.1 0, Qf p.2 0]]) (fun p => [(p.2, .cells #[.nilFunc] 214 (0, 0)), (p.1, .cells #[fV gl] 214 (0, 0))]) := by
 refine JX Tryz.func180 rfl rfl fun w => ?_; refine JB ?_; refine Jq 2 rfl ?_; refine LN rfl fun r1 => ?_; refine LN rfl fun r2 => ?_; refine LN rfl fun r3 => ?_; refine JG 4 rfl ?_; refine LR rfl (JD rfl rfl) ?_; refine JG 5 rfl ?_; refine LR rfl (JD rfl rfl) ?_; refine JG 10 rfl ?_; refine LR rfl (Js (r := [_, _, _, _, _]) rfl rfl) ?_
 refine LT 0 rfl rfl ?_; refine Jy 3 rfl ?_; refine Jh rfl rfl (.cons (J2 (vs := [_, _, _, _, _]) rfl (kn 0 rfl) rfl rfl) .nil) (fun w1 hs1 => ?_); exact ⟨(r1, r2), rfl, hs1.weakL (List.sublist_cons_self _ _)⟩
theorem xE (k : Nat) (a b : Int) (g : FuncId) : PureE (α := Nat) Tryz.prog 183 [uV k, .int .i64 a, .int .i64 b, fV g].toArray (fun p => .agg #[uV k, .int .i64 a, .int .i64 b, .func (.func 241) #[] #[Qf p 0], .func (.func 242) #[] #[Qf p 0]]) (fun p => [(p, .cells #[fV g] 218 (0, 0))]) := by
 refine JX Tryz.func183 rfl rfl fun w => ?_; refine JB ?_; refine Jq 2 rfl ?_; refine LN rfl fun r1 => ?_; refine LN rfl fun r2 => ?_; refine JG 7 rfl ?_; refine LR rfl (JD rfl rfl) ?_; refine LR rfl (JD rfl rfl) ?_; refine LR rfl (Js (r := [_, _, _, _, _]) rfl rfl) ?_
 refine LT 0 rfl rfl ?_; refine Jy 3 rfl ?_; refine Jh rfl rfl (.cons (J2 (vs := [_, _, _, _, _]) rfl (kn 0 rfl) rfl rfl) .nil) (fun w1 hs1 => ?_); exact ⟨r1, rfl, hs1.weakL (List.sublist_cons_self _ _)⟩
def Jph (p : Nat → Nat) : Ji := (p 0, .cells (tab.flatMap (wj p)).toArray 108 (0, 0)) :: (Zw p 6 ++ (Zw p 5 ++ (Zw p 4 ++ (Zw p 3 ++ (Zw p 2 ++ (Zw p 1 ++ Zw p 0))))))
theorem Jt4 : PureE (α := Nat → Nat) Tryz.prog 113 [].toArray (fun p => .slice (some ⟨p 0, 0, none⟩) 7 7) Jph := by
 refine JX Tryz.func113 rfl rfl fun w => ?_; refine JB ?_; refine Jq 12 rfl ?_; refine JR rfl rfl rfl Jg1 (yP 0 0 5 181 182) fun pp => ?_
 obtain ⟨a1, a2⟩ := pp
 refine JR rfl rfl rfl Jm8 (xE 1 0 5 184) fun a3 => ?_; refine JR rfl rfl rfl Jm8 (xE 5 0 2 185) fun a4 => ?_; refine QI rfl (JR rfl rfl rfl Jg1 (yQ 6 0 2 179 179) fun pp => ?_)
 obtain ⟨a5, a6⟩ := pp
 refine QI rfl (JR rfl rfl rfl Jg1 (yP 3 3 5 179 186) fun pp => ?_)
 obtain ⟨a7, a8⟩ := pp
 refine JR rfl rfl rfl Jm8 (xE 7 3 5 187) fun a9 => ?_; refine JR rfl rfl rfl Jg1 (yQ 8 5 5 188 188) fun pp => ?_
 obtain ⟨a10, a11⟩ := pp
 refine JK (n := 7) (sz := 5) (vs := [_, _, _, _, _, _, _]) (zs := [_, _, _, _, _, _, _, _, _, _, _, _, _, _, _, _, _, _, _, _, _, _, _, _, _, _, _, _, _, _, _, _, _, _, _]) (r := tab.flatMap (wj ([0, a1, a2, a3, a4, a5, a6, a7, a8, a9, a10, a11].getD · 0))) rfl rfl rfl rfl rfl rfl rfl rfl rfl (by rw [Kh]; exact rfl) rfl fun rt => ?_; refine Jy 4 rfl ?_; refine pT rfl rfl rfl fun w1 hs1 => ?_; exact ⟨([rt, a1, a2, a3, a4, a5, a6, a7, a8, a9, a10, a11].getD · 0), rfl, hs1⟩
theorem Jpi (f : Int) : PureE (α := Nat) Tryz.prog 57 [.int .i64 f].toArray (fun p => .func (.func 112) #[] #[Qf p 0]) (fun p => [(p, .cells #[.int .i64 f] 3 (0, 0))]) := by
 refine JX Tryz.func57 rfl rfl fun w => ?_; refine JB ?_; refine Jq 2 rfl ?_; refine LN rfl fun r1 => ?_; refine JG 5 rfl ?_; refine LR rfl (JD rfl rfl) ?_; refine Jy 4 rfl ?_; refine pT rfl rfl rfl fun w1 hs1 => ?_; exact ⟨r1, rfl, hs1⟩
def nxT (f : Int) : Nat → List Value → Ji → Nat → Prop := fun i v B i' => i < 7 ∧ i' = i + 1 ∧ ∃ p : Nat → Nat, v = [.agg (wj p i).toArray, .bool (Y4 f i)] ∧ B = Zw p i
theorem Jpj {p : Nat → Nat} {i : Nat} (hi : i < 7) : ∀ q ∈ Zw p i, q ∈ Jph p := by
 intro q hq
 unfold Jph
 rcases lt7 hi with rfl | rfl | rfl | rfl | rfl | rfl | rfl <;> simp only [List.mem_cons, List.mem_append, hq, true_or, or_true]
theorem Jt5 {f : Int} (hf : KV f) {i : Nat} (hi : i < 7) (h : f ≥ frN i) : decide (f ≤ toN i) = Y4 f i := by rw [Jpg hf hi, decide_eq_true h, Bool.true_and]
theorem Jw9 {f : Int} (hf : KV f) {i : Nat} (hi : i < 7) (h : ¬ f ≥ frN i) : false = Y4 f i := by rw [Jpg hf hi, decide_eq_false h, Bool.false_and]
theorem Jpk {f : Int} (hf : KV f) (b : Nat) : Jfz Tryz.prog 112 [Qf b 0] [(b, .cells #[.int .i64 f] 3 (0, 0))] 0 (nxT f) (fun i => i = 7) := by
  refine qg Tryz.func112 rfl rfl fun q xids w2 XI XF hY => ?_; refine JB ?_; refine Jq 2 rfl ?_; refine JR rfl rfl rfl (enters_of Tryz.func113 (by kernel_rfl) rfl) Jt4 fun p => ?_; change HL _ _ _ (Jph p ++ []) _ _ _ _; rw [List.append_nil]; refine LR rfl (JQ rfl rfl) ?_; refine JM 4 rfl ?_; refine Jz (σ := Nat) (fun i => i ≤ 7) (fun i => [(0, .func (.yield q) #[] #[]), (1, Qf b 0), (5, .slice (some ⟨p 0, 0, none⟩) 7 7), (6, .int .i64 7), (7, .int .i64 (i : Int))]) (fun _ => Jph p) (fun i => XI i) (fun i => 7 - i) 0 (Nat.zero_le _) (lK rfl) (List.Sublist.refl _) (fun _ _ h => h) ?_; intro i hi1; refine JP 6 rfl ?_; refine cD (fun g => ?_) fun g => ?_
  · refine Jq 6 rfl ?_; refine LR rfl (JF (j := i) (m := 5) (off' := i * 5) rfl rfl rfl rfl rfl (by omega) (by omega)) ?_; refine LR rfl (Jp (n := 5) (vs := wj p i) rfl (Or.inl List.mem_cons_self) rfl rfl (VQ (Jpf p) (Jt2 (by omega))) rfl) ?_; refine LN rfl fun r1 => ?_
    refine LT 0 rfl rfl ?_; refine XB 6 [0] rfl rfl ?_; refine LR rfl (Jd rfl (Jx (k := 0) rfl) rfl rfl) ?_; refine LS 4 [0] rfl rfl ?_
    refine J7 17 rfl (fun gb => ?_) (fun gb => ?_) <;> (try simp only [ZZ] at gb) <;> first | (refine LR rfl (Jd rfl (kn 0 rfl) rfl rfl) ?_) | (refine LR rfl (Jd rfl (kn 1 rfl) rfl rfl) ?_) | (refine LR rfl (Jd rfl (Jx (k := 0) rfl) rfl rfl) ?_) | (refine LK rfl ?_)
    all_goals first | refine LR rfl (JE rfl rfl rfl) ?_ | refine LK rfl ?_
    all_goals refine LW 3 [0] rfl rfl ?_
    all_goals first | (refine J3 (congrArg Value.bool (Jt5 hf (by omega) (by assumption))) ?_) | (refine J3 (congrArg Value.bool (Jw9 hf (show i < 7 by omega) (by omega))) ?_)
    all_goals refine jy (B := Zw p i) (XT := XI (i + 1)) (XF := XF) rfl rfl rfl rfl (hY i [.agg (wj p i).toArray, .bool (Y4 f i)] (Zw p i) (i + 1) ⟨by omega, rfl, p, rfl, rfl⟩) (fun q hq => List.mem_cons_of_mem _ (Jpj (by omega) q hq)) ?_ ?_
    all_goals (
     refine Jy 2 rfl (Zr 1 rfl ?_); refine J1 rfl (fun g => ?_) (fun g => ?_)
     · try exact Bool.noConfusion g
       all_goals try simp only [ZZ] at g
       all_goals (
        refine Km 5 rfl ?_; refine Jh rfl rfl .nil (fun w1 hs1 => ?_)
        obtain ⟨xs1, hx1⟩ := hs1.now
        exact ⟨⟨_, rfl⟩, hs1.keep, .inr ⟨_, hx1⟩⟩
        skip)
     · try exact Bool.noConfusion g
       all_goals try simp only [ZZ] at g
       all_goals (
        refine Jq 5 rfl ?_; refine Jc (by omega) (by omega) ?_; refine Jy 2 rfl ?_; refine Jw ?_; exact Jt (i + 1) (by omega) (by omega) (lK rfl) (List.sublist_cons_self _ _) (fun _ _ h => h)
        skip)
     skip)
  · refine Km 4 rfl ?_; refine Kj rfl rfl .nil (fun w1 hs1 => ?_)
    obtain ⟨xs1, hx1⟩ := hs1.now
    exact ⟨⟨_, rfl⟩, hs1.keep, .inl ⟨i, _, (by show i = 7; omega), hx1⟩⟩
theorem jQ {f : Int} {g : Nat → W4} {i : Nat} : ∀ (l : List Nat) (out : Rec), XJ f g (l ++ [i]) out = if Y4 f i then vy (XJ f g l out) (g i) i else XJ f g l out
 | [], out => rfl
 | j :: l, out => by rw [List.cons_append, XJ, XJ, jQ l]
theorem Jc9 {i : Nat} (h : i < 7) : tab.take (i + 1) = tab.take i ++ [i] := by
 rcases lt7 h with rfl | rfl | rfl | rfl | rfl | rfl | rfl <;> rfl
theorem Jib {f : Int} : ∀ i v B i', nxT f i v B i' → v.length = 2 := by
 rintro i v B i' ⟨_, _, p, rfl, _⟩; rfl
theorem Jxa {f : Int} (hf : KV f) (r : Rec) : Pure Tryz.prog 117 [.int .i64 f, r.val].toArray (qd f r).val := by
 refine Jl Tryz.func117 rfl rfl fun w => ?_; refine JB ?_; refine Jq 2 rfl ?_; refine Ko (cs := r.cells.toArray) rfl rfl rfl rfl fun rb => ?_; refine LN rfl fun r1 => ?_; refine JG 4 rfl ?_; refine LN rfl fun r2 => ?_; refine JG 6 rfl ?_; refine JR rfl rfl rfl (enters_of Tryz.func57 (by kernel_rfl) rfl) (Jpi f) fun b => ?_; refine JM 3 rfl ?_; refine Wl [1, 0, 2, 3] (by decide) rfl ?_; refine XD (τ := Unit) (fun i (s : Rec) => i ≤ 7 ∧ s = XJ f (X6 r) (tab.take i) rec0) (fun s => [(r2, .cells s.cells.toArray 29 (0, 0))]) (fun _ _ => False) (fun _ => []) [(b, .cells #[.int .i64 f] 3 (0, 0)), (r1, .cells rec0.cells.toArray 29 (0, 0)), (rb, .cells r.cells.toArray 29 (0, 0))] rec0 rfl rfl (enters_of Tryz.func112 (by kernel_rfl) rfl) (Jpk hf b) Jib rfl (by simp) rfl ⟨by decide, rfl⟩ ?_ ?_ ?_
 rintro q Xr Xb w3 i _ _ _ s ⟨hi, rfl, p, rfl, rfl⟩ ⟨-, hs⟩ Kr hKr; refine inR ?_
 refine Jq 2 rfl ?_; refine LN rfl fun r3 => ?_
 refine LT 0 rfl rfl ?_; refine Jy 5 rfl ?_; refine hKr _ _ ?_; refine JB ?_; clear hKr; refine JP 6 rfl ?_; refine cD (fun g => ?_) fun g => ?_
 refine JJ 6 (by kernel_rfl) (by kernel_rfl) ?_
 refine Jb rfl rfl rfl (JE rfl rfl rfl) ?_; refine Jb rfl rfl rfl (Jd rfl (kn 0 rfl) rfl rfl) ?_
 refine Jb rfl rfl rfl (JE rfl rfl rfl) ?_; refine Jb rfl rfl rfl (Jd rfl (kn 0 rfl) rfl rfl) ?_; refine Jb rfl rfl rfl (Jf (xs := r.cells) (n := 17) rfl (Or.inr (List.mem_append_left _ (List.mem_append_right _ (List.mem_cons_of_mem _ (List.mem_cons_of_mem _ List.mem_cons_self))))) rfl rfl rfl) ?_; refine V7 rfl rfl rfl (qt hi) (Jia hi (fun q hq => hq) r) (fun q hq => Or.inr (List.mem_append_left _ (List.mem_append_left _ hq))) ?_; refine JW ?_; refine Jjf (k := 1) rfl rfl rfl rfl rfl (Jc8 hi) (Jt3 hi (fun q hq => hq) s (X6 r i)) (fun q hq => Or.inr (List.mem_append_left _ (List.mem_append_left _ hq))) fun _ => ?_; refine Jy 2 rfl ?_
 (refine Qm [0] (L' := [_]) (by decide) rfl ?_
  exact Kt (vy s (X6 r i) i) ⟨by omega, by rw [Jc9 hi, jQ, ← hs, if_pos (by assumption)]⟩ rfl)
 refine Km 2 rfl ?_
 (refine Qm [1] (L' := [_]) (by decide) rfl ?_
  exact Kt s ⟨by omega, by rw [Jc9 hi, jQ, ← hs, if_neg (by simp_all)]⟩ rfl)
 rintro D i s hfi ⟨-, hs⟩
 obtain rfl : i = 7 := hfi
 refine gqo 4 rfl ?_; refine LR rfl (Jf (xs := s.cells) (n := 17) rfl (kn 1 rfl) rfl rfl rfl) ?_; refine Jk (k := 3) (n := 17) (ys := s.cells) rfl rfl rfl rfl rfl rfl rfl rfl rfl ?_; refine Jy 3 rfl ?_; refine KM (k := 0) rfl rfl ?_; refine Jh rfl rfl (.cons (J2 (vs := s.cells) rfl (kn 3 rfl) rfl rfl) .nil) (fun w1 hs1 => ?_); exact ⟨by rw [hs]; rfl, hs1.keep⟩
 ·exact fun _ _ _ h => h.elim
theorem Jxb (x y : Rec) : (eqS (uV x.number) (uV y.number) && (eqS (uV x.time) (uV y.time) && (Qq [uV x.base.a, uV x.base.b, uV x.base.c, uV x.base.d] [uV y.base.a, uV y.base.b, uV y.base.c, uV y.base.d] && (Qq [uV x.blob.a, uV x.blob.b, uV x.blob.c, uV x.blob.d] [uV y.blob.a, uV y.blob.b, uV y.blob.c, uV y.blob.d] && (Qq [uV x.overhead.a, uV x.overhead.b, uV x.overhead.c, uV x.overhead.d] [uV y.overhead.a, uV y.overhead.b, uV y.overhead.c, uV y.overhead.d] && (eqS (uV x.scalar) (uV y.scalar) && (eqS (uV x.extra) (uV y.extra) && (eqS (uV x.operator) (uV y.operator) && true)))))))) = decide (x = y) := by
 rw [Bool.eq_iff_iff]; simp only [eqU, eqW, Bool.and_eq_true, decide_eq_true_eq, Bool.and_true]
 obtain ⟨a, b, c, d, e, f, g, h⟩ := x
 obtain ⟨a', b', c', d', e', f', g', h'⟩ := y
 simp only [Rec.mk.injEq]
theorem Jt6 {f : Int} (hf : KV f) (r : Rec) : (qd f r = r → Xm f r = 0) ∧ (¬ qd f r = r → Xm f r = 2) := by
 unfold Xm
 rw [if_neg (by simpa using hf)]; exact ⟨fun h => if_pos ((vz hf).1 h), fun h => if_neg fun h2 => h ((vz hf).2 h2)⟩
theorem Jxc (f : Int) (r : Rec) : Pure Tryz.prog 63 [.int .i64 f, r.val].toArray (.int .i64 (Xm f r)) := by
 by_cases hf : KV f
 ·obtain ⟨h1, h2⟩ := Jt6 hf r
  refine Jl Tryz.func63 rfl rfl fun w => ?_; refine JB ?_; refine Jq 2 rfl ?_; refine Ko (cs := r.cells.toArray) rfl rfl rfl rfl fun rb => ?_; refine JG 8 rfl ?_; refine Jo rfl rfl rfl (enters_of Tryz.func55 (by kernel_rfl) rfl) (Jc7 f) ?_; refine JM 4 rfl ?_; refine J1 rfl (fun g => ?_) (fun g => ?_)
  ·try simp only [ZZ] at g
   refine Km 8 rfl ?_; refine pT rfl rfl rfl fun w1 hs1 => ?_
   exfalso; first | contradiction | (simp_all; done)
  try simp only [ZZ] at g
  refine JP 1 rfl ?_; refine JJ 6 (by kernel_rfl) (by kernel_rfl) ?_; refine Jb rfl rfl rfl (Jg rfl) ?_; refine Jb rfl rfl rfl (Jf (xs := r.cells) (n := 17) rfl (kn 0 rfl) rfl rfl rfl) ?_; refine Ky rfl rfl rfl (enters_of Tryz.func117 (by kernel_rfl) rfl) (Jxa hf r) ?_; refine Jb rfl rfl rfl (Jf (xs := r.cells) (n := 17) rfl (kn 0 rfl) rfl rfl rfl) ?_; refine Jb rfl rfl rfl (Jgr (xs := (qd f r).cells) (ys := r.cells) rfl rfl rfl (by kernel_rfl) (by kernel_rfl) (.scal (by decide) rfl rfl rfl rfl rfl (.scal (by decide) rfl rfl rfl rfl rfl (.arr (by decide) rfl rfl rfl rfl rfl rfl rfl rfl rfl rfl (.arr (by decide) rfl rfl rfl rfl rfl rfl rfl rfl rfl rfl (.arr (by decide) rfl rfl rfl rfl rfl rfl rfl rfl rfl rfl (.scal (by decide) rfl rfl rfl rfl rfl (.scal (by decide) rfl rfl rfl rfl rfl (.scal (by decide) rfl rfl rfl rfl rfl .nil))))))))) ?_; refine Qa (congrArg (fun b => Value.bool (!b)) (Jxb (qd f r) r)) ?_; refine Jb rfl rfl rfl (JA rfl) ?_; refine JW ?_; refine JM 2 rfl ?_; refine cD (fun g => ?_) fun g => ?_
  refine Km 8 rfl ?_; refine pT rfl rfl rfl fun w1 hs1 => ?_; rw [h2 (by assumption)]; exact ⟨rfl, hs1.keep⟩
  refine Km 9 rfl ?_; refine pT rfl rfl rfl fun w1 hs1 => ?_; rw [h1 (by assumption)]; exact ⟨rfl, hs1.keep⟩
 ·have e : Xm f r = 10 := by unfold Xm; rw [if_pos hf]
  rw [e]; refine Jl Tryz.func63 rfl rfl fun w => ?_; refine JB ?_; refine Jq 2 rfl ?_; refine LN rfl fun r1 => ?_; refine JG 8 rfl ?_; refine Jo rfl rfl rfl (enters_of Tryz.func55 (by kernel_rfl) rfl) (Jc7 f) ?_; refine JM 4 rfl ?_; refine J1 rfl (fun g => ?_) (fun g => ?_)
  ·try simp only [ZZ] at g
   refine Km 8 rfl ?_; refine pT rfl rfl rfl fun w1 hs1 => ?_
   first | exact ⟨rfl, hs1.keep⟩ | (exfalso; first | contradiction | (simp_all; done))
  ·try simp only [ZZ] at g
   refine JP 1 rfl ?_; refine JJ 6 (by kernel_rfl) (by kernel_rfl) ?_; refine Jb rfl rfl rfl (Jg rfl) ?_; refine Jb rfl rfl rfl (Jp (vs := [_, _, _, _, _, _, _, _, _, _, _, _, _, _, _, _, _]) rfl (kn 0 rfl) rfl rfl rfl rfl) ?_
   exfalso; first | contradiction | (simp_all; done)
theorem Jvm {f : Int} (hf : KV f) {i : Nat} (hi : i < 2) : Pure Tryz.prog 56 [.int .i64 f, .int .i64 (i : Int)].toArray (.tuple #[J6 (Qe f i).1, .bool (Qe f i).2]) := by
 have : i = 0 ∨ i = 1 := by omega
 rcases this with rfl | rfl
 ·exact Jze hf
 ·exact Jzf hf
theorem Jt7 {f : Int} {r : Rec} {i : Nat} (h : Y4 f i = true) : bW (X6 r i) = (jI f r i).2 := by unfold jI; rw [if_pos h]
theorem Jxd {f : Int} {r : Rec} {i : Nat} (h : Y4 f i = false) : Vg = (jI f r i).2 := by unfold jI; rw [if_neg (by rw [h]; simp)]
theorem Jzg {R : Ji} {p : Nat → Nat} {i rr e : Nat} {f : Int} (hi : i < 7) {r : Rec} (hr : r.ok) (hR : (rr, Obj.cells r.cells.toArray e (0, 0)) ∈ R) : PureR Tryz.prog 130 (.agg (wj p i).toArray :: .bool (Y4 f i) :: [Qf rr 0]).toArray (J6 (jI f r i).2) (Zw p i ++ R) := by
 refine Ja Tryz.func130 rfl rfl fun w => ?_; refine JB ?_; refine Jq 2 rfl ?_; refine Ko (cs := (wj p i).toArray) rfl rfl rfl rfl fun rb => ?_; refine JM 10 rfl ?_; refine cD (fun g => ?_) fun g => ?_
 refine Jq 2 rfl ?_; refine Jo rfl rfl rfl (enters_of Tryz.func58 (by kernel_rfl) rfl) Jty ?_; refine Jy 5 rfl ?_; refine pT rfl rfl rfl fun w1 hs1 => ?_; refine ⟨?_, hs1.keep⟩; rw [← Jxd (by assumption)]; rfl
 ·refine XA 6 [0] rfl rfl ?_; refine LR rfl (Jf (xs := r.cells) (n := 17) rfl (Or.inr (List.mem_append_right _ hR)) rfl rfl rfl) ?_; refine Je rfl rfl rfl (qt hi) (Jia hi (fun q hq => hq) r) (fun q hq => Or.inr (List.mem_append_left _ hq)) ?_; refine Jo rfl rfl rfl Jb2 (QA (Jbm hr i).wok) ?_; refine Jy 4 rfl ?_; refine pT rfl rfl rfl fun w1 hs1 => ?_; refine ⟨?_, hs1.keep⟩; rw [← Jt7 (by assumption)]; rfl
theorem Jxe {R : Ji} {a : AcL} (ha : a.In R) {f : Int} (hf : KV f) {gv : FuncId} {capsV : List Value} {vals : Nat → BS} (egv : Enters Tryz.prog gv) (hgv : ∀ i, i < 7 → ∀ p, PureR Tryz.prog gv (.agg (wj p i).toArray :: .bool (Y4 f i) :: capsV).toArray (J6 (vals i)) (Zw p i ++ R)) :
  PureT (α := AcRes R (Qx a.er (tab.map fun i => (Y3 (Yd i), vals i)))) Tryz.prog 129 [.int .i64 f, a.val, .func (.func gv) #[] capsV.toArray].toArray (fun x => x.val) [] (fun x => x.L) R := by
 obtain ⟨rows, hrows⟩ : ∃ rows, rows = tab.map fun i => (Y3 (Yd i), vals i) := ⟨_, rfl⟩
 have hdr : ∀ i, i < 7 → rows.drop i = (Y3 (Yd i), vals i) :: rows.drop (i + 1) := fun i hi => by rw [hrows]; exact map_drop _ hi
 have hd7 : rows.drop 7 = [] := by rw [hrows]; rfl
 rw [← hrows]; clear hrows; refine Ju Tryz.func129 rfl rfl fun w => ?_; refine JB ?_; refine Jq 2 rfl ?_; refine Ko (cs := a.cells.toArray) rfl rfl rfl rfl fun rb => ?_; refine LN rfl fun rv => ?_; refine LN rfl fun r1 => ?_; refine LN rfl fun r2 => ?_; refine JG 6 rfl ?_; refine JR rfl rfl rfl (enters_of Tryz.func57 (by kernel_rfl) rfl) (Jpi f) fun b => ?_; refine JM 3 rfl ?_; refine Wl [4, 2, 1, 0, 3] (L' := [_, _, _, _, _]) (by decide) rfl ?_; refine XD (τ := AcSt R × Int) (fun i (s : AcSt R) => i ≤ 7 ∧ Qx a.er rows = Qx s.a.er (rows.drop i)) (fun s => (rb, .cells s.a.cells.toArray 48 (0, 0)) :: (r1, .cells ac0L.cells.toArray 48 (0, 0)) :: (r2, .cells #[.int .i64 0] 37 (0, 0)) :: s.L) (fun j s => j = .ret ∧ Qx a.er rows = (s.1.a.er, s.2)) (fun s => (rb, .cells s.1.a.cells.toArray 48 (0, 0)) :: (r1, .cells s.1.a.cells.toArray 48 (0, 0)) :: (r2, .cells #[.int .i64 s.2] 37 (0, 0)) :: s.1.L) [(b, .cells #[.int .i64 f] 3 (0, 0)), (rv, _)] ⟨a, [], ha⟩ rfl rfl (enters_of Tryz.func112 (by kernel_rfl) rfl) (Jpk hf b) Jib rfl (fun q hq => .inl (by rw [List.mem_singleton.1 hq]; exact List.mem_cons_self)) rfl ⟨Nat.zero_le _, rfl⟩ ?_ ?_ ?_
 ·rintro q Xr Xb w3 i _ _ _ s ⟨hi, rfl, p, rfl, rfl⟩ ⟨hi7, hinv⟩ Kr hKr; refine inR ?_
  rw [hdr i hi, zR] at hinv; refine Jq 2 rfl ?_; refine LN rfl fun r3 => ?_
  refine LT 0 rfl rfl ?_; refine Jy 5 rfl ?_; refine hKr _ _ ?_; refine JB ?_; clear hKr; refine JP 2 rfl ?_; refine JN s.L [(1, .pure), (3, .pure), (6, .pure), (8, .grow (KY (Classical.choice (Jmt s.ok (Y3 (Yd i)) (vals i))) AcRes.val AcRes.L)), (9, .pure), (10, .pure), (11, .pure), (12, .grow (Wb Jaz (.cells #[.string ⟨#[]⟩, .int .u64 0, .int .u64 0, .int .u64 0, .int .u64 0, .int .u64 0, .string ⟨#[]⟩, .slice none 0 0] 48 (0, 0)))), (13, .turn), (14, .pure)] 15 [0, 1, 2, 3, 4, 5, 6, 7, 8, 9, 10, 11, 12, 13, 14] (by kernel_rfl) (by kernel_rfl) (fun p hp => List.mem_cons_of_mem _ (List.mem_cons_of_mem _ (List.mem_cons_of_mem _ (List.mem_cons_of_mem _ hp)))) ?_; refine KD (k := 0) rfl rfl rfl rfl rfl (Jf (xs := s.a.cells) (n := 8) rfl (kn 1 rfl) rfl rfl rfl) ?_
  refine Jm (k := 1) rfl rfl rfl rfl rfl (fun _ hS => (JE rfl rfl rfl)) ?_; refine KD (k := 2) rfl rfl rfl rfl rfl (Jd rfl (kn 0 rfl) rfl rfl) ?_; refine Vn (k := 3) rfl rfl rfl rfl rfl (enters_of Tryz.func61 (by kernel_rfl) rfl) (Jw7 (Jej i)) ?_; refine KD (k := 4) rfl rfl rfl rfl rfl (Jd rfl (Or.inr (List.mem_append_left _ (List.mem_append_right _ (List.mem_cons_of_mem _ List.mem_cons_self)))) rfl rfl) ?_; refine KD (k := 5) rfl rfl rfl rfl rfl (Jf (xs := wj p i) (n := 5) rfl (kn 0 rfl) rfl rfl rfl) ?_; refine Jm (k := 6) rfl rfl rfl rfl rfl (fun _ hS => (Jg rfl)) ?_; refine KT (k := 7) rfl rfl rfl rfl rfl egv (hgv i hi p) (fun q hq => (List.mem_append.1 hq).elim (fun h => Or.inr (List.mem_append_left _ (List.mem_append_left _ h))) (fun h => Or.inr (List.mem_append_right _ h))) ?_; refine KR (k := 8) rfl rfl rfl rfl rfl (enters_of Tryz.func197 (by kernel_rfl) rfl) (Jzc s.ok (Y3 (Yd i)) (vals i)) (fun q hq => (List.mem_append.1 hq).imp id (fun h => List.mem_append_right _ h)) fun x => ?_; refine Jm (k := 9) rfl rfl rfl rfl rfl (fun _ hS => (Jg rfl)) ?_; refine Jm (k := 10) rfl rfl rfl rfl rfl (fun _ hS => (Kg rfl rfl)) ?_; refine Jm (k := 11) rfl rfl rfl rfl rfl (fun _ hS => (Kg rfl rfl)) ?_; refine Y1 (k := 12) (cs := #[_, _, _, _, _, _, _, _]) rfl rfl rfl rfl rfl rfl fun r4 => ?_; refine Xk (k := 13) (q := 0) (n := 8) (ys := x.a.cells) rfl rfl rfl rfl rfl rfl rfl rfl rfl rfl rfl (fun p hp => List.mem_cons_of_mem _ (List.mem_append_right _ (List.mem_cons_of_mem _ (List.mem_cons_of_mem _ (List.mem_cons_of_mem _ (List.mem_cons_of_mem _ hp)))))) ?_; refine Jm (k := 14) rfl rfl rfl rfl rfl (fun _ hS => (JA rfl)) ?_; refine Kv ?_; refine JM 4 rfl ?_; refine Jgt (L' := (r4, .cells x.a.cells.toArray 48 (0, 0)) :: (r3, .cells (wj p i).toArray 108 (0, 0)) :: (rb, .cells s.a.cells.toArray 48 (0, 0)) :: (r1, .cells ac0L.cells.toArray 48 (0, 0)) :: (r2, .cells #[.int .i64 0] 37 (0, 0)) :: (x.L ++ s.L)) (List.Perm.cons _ (QW x.L [_, _, _, _] s.L)) ?_
  have hx := x.eq
  have hxe : (VL s.a.er (Y3 (Yd i)) (vals i)).2 = x.err := (congrArg Prod.snd hx).symm
  have hxa : (VL s.a.er (Y3 (Yd i)) (vals i)).1 = x.a.er := (congrArg Prod.fst hx).symm
  refine JP 5 rfl ?_; refine cD (fun g => ?_) fun g => ?_
  refine Jq 2 rfl ?_; refine LR rfl (Jf (xs := s.a.cells) (n := 8) rfl (kn 2 rfl) rfl rfl rfl) ?_; refine QI rfl (Jk (k := 3) (n := 8) (ys := s.a.cells) rfl rfl rfl rfl rfl rfl rfl rfl rfl ?_)
  refine LT 4 rfl rfl ?_; refine Jy 5 rfl ?_; refine Jfu (L' := (rb, .cells s.a.cells.toArray 48 (0, 0)) :: (r1, .cells s.a.cells.toArray 48 (0, 0)) :: (r2, .cells #[.int .i64 x.err] 37 (0, 0)) :: s.L) (fun _ _ h => h) (.cons _ (.cons _ (.cons_cons _ (.cons_cons _ (.cons_cons _ (List.sublist_append_right _ _)))))) ?_; exact j4 (s, x.err) ⟨rfl, by rw [hinv, if_pos (by rw [hxe]; assumption)]; exact (Jmu (by rw [hxe]; assumption)).trans (congrArg (Prod.mk s.a.er) hxe)⟩ rfl
  ·refine Jq 3 rfl ?_; refine LR rfl (Jf (xs := x.a.cells) (n := 8) rfl (kn 0 rfl) rfl rfl rfl) ?_; refine Jk (k := 2) (n := 8) (ys := x.a.cells) rfl rfl rfl rfl rfl rfl rfl rfl rfl ?_; refine Jy 2 rfl ?_; refine Jfu (L' := (rb, .cells x.a.cells.toArray 48 (0, 0)) :: (r1, .cells ac0L.cells.toArray 48 (0, 0)) :: (r2, .cells #[.int .i64 0] 37 (0, 0)) :: (x.L ++ s.L)) (fun _ _ h => h) (.cons _ (.cons _ (List.Sublist.refl _))) ?_; exact Kt (s.next x) ⟨by omega, by rw [hinv, if_neg (by rw [hxe]; simpa using ‹x.err = 0›), hxa]; rfl⟩ rfl
 rintro D i s hfi ⟨-, hinv⟩
 obtain rfl : i = 7 := hfi
 rw [hd7] at hinv; refine gqo 4 rfl ?_; refine LR rfl (Jf (xs := s.a.cells) (n := 8) rfl (kn 1 rfl) rfl rfl rfl) ?_; refine Jk (k := 2) (n := 8) (ys := s.a.cells) rfl rfl rfl rfl rfl rfl rfl rfl rfl ?_
 refine LT 3 rfl rfl ?_; refine Jy 3 rfl ?_; refine KM (k := 0) rfl rfl ?_
 (refine Jh rfl rfl (.cons (J2 (vs := s.a.cells) rfl (kn 2 rfl) rfl rfl) (.cons (KO rfl (kn 3 rfl) rfl rfl) .nil)) (fun w1 hs1 => ?_)
  exact ⟨⟨s.a, 0, s.L, s.ok, by rw [hinv]; rfl⟩, rfl, hs1.weakL (.cons _ (.cons _ (.cons _ (.cons _ (List.sublist_append_left _ _)))))⟩)
 ·rintro D j s ⟨rfl, hst⟩
  refine Km 3 rfl ?_; refine KM (k := 0) rfl rfl ?_
  (refine Jh rfl rfl (.cons (J2 (vs := s.1.a.cells) rfl (kn 2 rfl) rfl rfl) (.cons (KO rfl (kn 3 rfl) rfl rfl) .nil)) (fun w1 hs1 => ?_)
   exact ⟨⟨s.1.a, s.2, s.1.L, s.1.ok, hst.symm⟩, rfl, hs1.weakL (.cons _ (.cons _ (.cons _ (.cons _ (List.sublist_append_left _ _)))))⟩)
theorem Jt8 {R : Ji} {a : AcL} (h : a.In R) {c : BS} (hc : c.length ≤ 512) : AcL.In R { a with code := c } := ⟨h.addr, h.nonce, h.bal, (by show c.length ≤ 9223372036854775807; omega), h.len, h.seg, h.slots⟩
theorem Jt9 {R : Ji} {a : AcL} (h : a.In R) {c : BS} (hc : c.length ≤ 512) : AcL.In R { a with addr := c } := ⟨(by show c.length ≤ 9223372036854775807; omega), h.nonce, h.bal, h.code, h.len, h.seg, h.slots⟩
theorem Jxf {f : Int} {r : Rec} : (tab.map fun i => (Y3 (Yd i), (jI f r i).2)) = vC f r := rfl
theorem Jzh {R : Ji} {f : Int} (hf : KV f) {r : Rec} (hr : r.ok) {bf br ef er : Nat} (hbf : (bf, Obj.cells #[.int .i64 f] ef (0, 0)) ∈ R) (hbr : (br, Obj.cells r.cells.toArray er (0, 0)) ∈ R) {w : Nat} (hw : w < 2) {a : AcL} (ha : a.In R) :
  PureT (α := AcRes R (X7 f w a.er r)) Tryz.prog 128 (.int .i64 (w : Int) :: a.val :: [Qf bf 0, Qf br 0]).toArray (fun x => x.val) [] (fun x => x.L) R := by
 have hin := Jt8 ha (Jbn f w)
 have hset := Jxe (gv := 130) (capsV := [Qf br 0]) (vals := fun i => (jI f r i).2) hin hf (enters_of Tryz.func130 (by kernel_rfl) rfl) (fun i hi p => Jzg hi hr hbr)
 rw [Jxf] at hset
 have hC : X7 f w a.er r = if (w : Int) = 1 then ({ a.er with code := (Qe f w).1 }, 0) else Qx { a.er with code := (Qe f w).1 } (vC f r) := by
  unfold X7
  by_cases h : (w : Int) = 1
  rw [if_pos h, if_pos h, h]
  rw [if_neg h, if_neg h]
 rw [hC]; clear hC; refine Ju Tryz.func128 rfl rfl fun w => ?_; refine JB ?_; refine Jq 2 rfl ?_; refine Ko (cs := a.cells.toArray) rfl rfl rfl rfl fun rb => ?_; refine LN rfl fun r1 => ?_; refine JG 5 rfl ?_; refine LR rfl (Jd rfl (Or.inr hbf) rfl rfl) ?_; refine QI rfl (Jo rfl rfl rfl (enters_of Tryz.func56 (by kernel_rfl) rfl) (Jvm hf hw) (LS 4 [] rfl rfl ?_))
 refine LT 1 rfl rfl ?_; refine JM 9 rfl ?_; refine cD (fun g => ?_) fun g => ?_
 refine Jq 2 rfl ?_; refine LR rfl (Jp (vs := [_, _, _, _, _, _, _, _]) rfl (kn 1 rfl) rfl rfl rfl rfl) ?_
 refine LT 0 rfl rfl ?_; refine Jy 5 rfl ?_; refine Jh rfl rfl (.cons (J2 (vs := [_, _, _, _, _, _, _, _]) rfl (kn 0 rfl) rfl rfl) (.cons (Jj rfl) .nil)) (fun w1 hs1 => ?_)
 (rw [if_pos (by omega)]
  exact ⟨⟨{ a with code := (Qe f _).1 }, 0, [], hin, rfl⟩, rfl, hs1.weakL (List.nil_sublist _)⟩)
 ·refine Jq 4 rfl ?_; refine LR rfl (Jd rfl (Or.inr hbf) rfl rfl) ?_; refine LR rfl (Jp (vs := [_, _, _, _, _, _, _, _]) rfl (kn 1 rfl) rfl rfl rfl rfl) ?_; refine LR rfl (JD rfl rfl) ?_; refine Kl rfl rfl rfl (enters_of Tryz.func129 (by kernel_rfl) rfl) hset oR fun x => ?_; refine Kn List.perm_append_comm ?_; change HL _ _ ((21, .tuple #[x.a.val, .int .i64 x.err]) :: _) ((r1, _) :: (rb, _) :: x.L) _ _ _ _; refine LS 2 [] rfl rfl ?_; refine Jk (k := 0) (n := 8) (ys := x.a.cells) rfl rfl rfl rfl rfl rfl rfl rfl rfl ?_; refine Jy 4 rfl ?_; refine Jh rfl rfl (.cons (J2 (vs := [_, _, _, _, _, _, _, _]) rfl (kn 0 rfl) rfl rfl) (.cons (Jj rfl) .nil)) (fun w1 hs1 => ?_)
  (rw [if_neg (by omega)]
   exact ⟨x, rfl, hs1.weakL (List.sublist_append_right [_, _] _)⟩)
theorem Jpl {R : Ji} {s : StL} (hs : s.In R) {f : Int} (hf : KV f) {gd : FuncId} {capsd : List Value} {go : Int → AcE → AcE × Int} (egd : Enters Tryz.prog gd)
  (hdo : ∀ w : Nat, w < 2 → ∀ (a : AcL) (R' : Ji), (∀ q ∈ R, q ∈ R') → a.In R' → PureT (α := AcRes R' (go w a.er)) Tryz.prog gd (.int .i64 (w : Int) :: a.val :: capsd).toArray (fun x => x.val) [] (fun x => x.L) R') :
  PureT (α := StRes R (YU f s.er go)) Tryz.prog 127 [.int .i64 f, s.val, .func (.func gd) #[] capsd.toArray].toArray (fun x => x.val) [] (fun x => x.L) R := by
 obtain ⟨res, hres⟩ : ∃ res, res = YU f s.er go := ⟨_, rfl⟩
 rw [← hres]; refine Ju Tryz.func127 rfl rfl fun w => ?_; refine JB ?_; refine Jq 2 rfl ?_; refine Ko (cs := s.cells.toArray) rfl rfl rfl rfl fun rb => ?_; refine LN rfl fun r1 => ?_; refine JG 5 rfl ?_; refine LR rfl (Jp (vs := [_]) rfl (kn 1 rfl) rfl rfl rfl rfl) ?_; refine LN rfl fun r2 => ?_
 refine LT 0 rfl rfl ?_; refine JM 9 rfl ?_; refine Jz (σ := Nat × StSt R) (fun q => q.1 ≤ 2 ∧ VA f s.er go (([0, 1] : List Int).drop q.1) q.2.s.er = res) (fun q => [(0, .int .i64 f), (2, .func (.func gd) #[] capsd.toArray), (4, Qf rb 0), (6, Qf r1 0), (8, Qf r2 0), (17, .int .i64 (q.1 : Int))]) (fun q => (r2, .cells q.2.s.cells.toArray 36 (0, 0)) :: (r1, .cells st0L.cells.toArray 36 (0, 0)) :: (rb, .cells s.cells.toArray 36 (0, 0)) :: q.2.L) (fun _ _ _ => True) (fun q => 2 - q.1) (0, ⟨s, [], hs⟩) ⟨Nat.zero_le _, hres.symm⟩ (lK rfl) (List.Sublist.refl _) (fun _ _ h => h) ?_; rintro ⟨i, t⟩ ⟨hi2, hinv⟩; simp only at hi2 hinv; change HC _ _ [(0, _), (2, _), (4, _), (6, _), (8, _), (17, .int .i64 (i : Int))] ((r2, .cells t.s.cells.toArray _ (0, 0)) :: (r1, _) :: (rb, _) :: t.L) _ _ _; refine JP 6 rfl ?_; refine cD (fun g => ?_) fun g => ?_
 ·refine JP 12 rfl ?_
  have hi : i < 2 := by omega
  rw [Jby hi, zS] at hinv; refine Jq 3 rfl ?_; refine Jo rfl rfl rfl (enters_of Tryz.func56 (by kernel_rfl) rfl) (Jvm hf hi) ?_; refine JM 13 rfl ?_; refine cD (fun g => ?_) fun g => ?_
  refine Jq 6 rfl ?_; refine Jc (by omega) (by omega) ?_; refine Jy 2 rfl ?_; refine Jw ?_
  (rw [if_pos (by simp_all)] at hinv
   exact Jt (i + 1, t) ⟨by simp only; omega, hinv⟩ (by simp only; omega) (lK rfl) (List.Sublist.refl _) (fun _ _ h => h))
  ·refine JP 3 rfl ?_; rw [if_neg (by simp_all)] at hinv
   refine JN [] [(1, .pure), (2, .pure), (4, .pure), (5, .pure), (6, .pure), (7, .grow (Wb Jaz (.cells #[.string ⟨#[]⟩, .int .u64 0, .int .u64 0, .int .u64 0, .int .u64 0, .int .u64 0, .string ⟨#[]⟩, .slice none 0 0] 48 (0, 0)))), (8, .turn), (9, .pure)] 10 [0, 1, 2, 3, 4, 5, 6, 7, 8, 9] (by kernel_rfl) (by kernel_rfl) (by first | exact (fun _ h => absurd h List.not_mem_nil) | simp [SubS] | (intro p hp; simp [hp])) ?_; refine KD (k := 0) rfl rfl rfl rfl rfl (Jf (xs := t.s.cells) (n := 1) rfl (kn 0 rfl) rfl rfl rfl) ?_; refine Jm (k := 1) rfl rfl rfl rfl rfl (fun _ hS => (Jg rfl)) ?_; refine Vn (k := 2) rfl rfl rfl rfl rfl Jwf (Jo6 i) ?_; refine KT (k := 3) rfl rfl rfl rfl rfl (enters_of Tryz.func18 (by kernel_rfl) rfl) (Jo0 t.ok (V1 i)) (fun q hq => (List.mem_append.1 hq).elim (fun h => Or.inl (List.mem_cons_of_mem _ (List.mem_cons_of_mem _ (List.mem_cons_of_mem _ h)))) Or.inr) ?_; refine Jm (k := 4) rfl rfl rfl rfl rfl (fun _ hS => (Jg rfl)) ?_; refine Jm (k := 5) rfl rfl rfl rfl rfl (fun _ hS => (Kg rfl rfl)) ?_; refine Jm (k := 6) rfl rfl rfl rfl rfl (fun _ hS => (Kg rfl rfl)) ?_; refine Y1 (k := 7) (cs := #[_, _, _, _, _, _, _, _]) rfl rfl rfl rfl rfl rfl fun r3 => ?_; refine Xk (k := 8) (q := 0) (n := 8) (ys := (Q6 t.s (V1 i)).cells) rfl rfl rfl rfl rfl rfl rfl rfl rfl rfl rfl (fun _ h => nomatch h) ?_; refine Jm (k := 9) rfl rfl rfl rfl rfl (fun _ hS => (JA rfl)) ?_; refine Kv ?_; refine JG 5 rfl ?_; refine Jo rfl rfl rfl Jwf (Jo6 i) ?_; refine LS 1 [] rfl rfl ?_
   refine LT 0 rfl rfl ?_; refine XB 7 [0] rfl rfl ?_; refine Kl rfl rfl rfl egd (hdo i hi { Q6 t.s (V1 i) with addr := V1 i } (t.L ++ R) (fun q hq => List.mem_append_right _ hq) (Jt9 (zP t.ok (V1 i)) (Jmw i))) (fun q hq => (List.mem_append.1 hq).elim (fun h => Or.inl (List.mem_cons_of_mem _ (List.mem_cons_of_mem _ (List.mem_cons_of_mem _ (List.mem_cons_of_mem _ h))))) Or.inr) fun x => ?_; refine Kn (QW x.L [_, _, _, _] t.L) ?_; change HL _ _ ((42, .tuple #[x.a.val, .int .i64 x.err]) :: _) ((r3, _) :: (r2, _) :: (r1, _) :: (rb, _) :: (x.L ++ t.L)) _ _ _ _
   have hxe : (go i (QB t.s.er i)).2 = x.err := by rw [← Jmv]; exact (congrArg Prod.snd x.eq).symm
   have hxa : (go i (QB t.s.er i)).1 = x.a.er := by rw [← Jmv]; exact (congrArg Prod.fst x.eq).symm
   rw [hxe, hxa] at hinv; refine LS 3 [] rfl rfl ?_; refine LN rfl fun r4 => ?_; refine Jk (k := 0) (n := 8) (ys := x.a.cells) rfl rfl rfl rfl rfl rfl rfl rfl rfl ?_; refine JM 10 rfl ?_; refine cD (fun g => ?_) fun g => ?_
   ·refine Jq 1 rfl ?_; refine LR rfl (Jf (xs := t.s.cells) (n := 1) rfl (kn 2 rfl) rfl rfl rfl) ?_; refine LR rfl (Jf (xs := x.a.cells) (n := 8) rfl (kn 0 rfl) rfl rfl rfl) ?_; refine Kl rfl rfl rfl (enters_of Tryz.func196 (by kernel_rfl) rfl) (Jzd (R := x.L ++ (t.L ++ R)) (t.ok.mono fun q hq => List.mem_append_right _ hq) x.ok) (fun q hq => (List.mem_append.1 hq).elim (fun h => Or.inl (List.mem_cons_of_mem _ (List.mem_cons_of_mem _ (List.mem_cons_of_mem _ (List.mem_cons_of_mem _ (List.mem_cons_of_mem _ (List.mem_append_left _ h))))))) fun hq => (List.mem_append.1 hq).elim (fun h => Or.inl (List.mem_cons_of_mem _ (List.mem_cons_of_mem _ (List.mem_cons_of_mem _ (List.mem_cons_of_mem _ (List.mem_cons_of_mem _ (List.mem_append_right _ h))))))) Or.inr) fun y => ?_; refine Kn (QW y.L [_, _, _, _, _] (x.L ++ t.L)) ?_; change HL _ _ ((50, .tuple #[y.s.val, .int .i64 y.err]) :: _) ((r4, _) :: (r3, _) :: (r2, _) :: (r1, _) :: (rb, _) :: (y.L ++ (x.L ++ t.L))) _ _ _ _
    have hye : (jG t.s.er x.a.er).2 = y.err := (congrArg Prod.snd y.eq).symm
    have hys : (jG t.s.er x.a.er).1 = y.s.er := (congrArg Prod.fst y.eq).symm
    rw [hye, hys] at hinv; refine LS 3 [] rfl rfl ?_; refine Jk (k := 2) (n := 1) (ys := y.s.cells) rfl rfl rfl rfl rfl rfl rfl rfl rfl ?_; refine JM 9 rfl ?_; refine cD (fun g => ?_) fun g => ?_
    refine Jq 2 rfl ?_; refine LR rfl (Jf (xs := s.cells) (n := 1) rfl (kn 4 rfl) rfl rfl rfl) ?_; refine QI rfl (Jk (k := 3) (n := 1) (ys := s.cells) rfl rfl rfl rfl rfl rfl rfl rfl rfl (Jy 9 rfl ?_)); refine Jh rfl rfl (.cons (J2 (vs := [_]) rfl (kn 3 rfl) rfl rfl) (.cons (Jj rfl) .nil)) (fun w1 hs1 => ?_)
    (rw [if_neg (show ¬ (x.err ≠ 0) by omega), if_pos (show y.err ≠ 0 by omega)] at hinv
     exact ⟨⟨s, y.err, [], hs, hinv⟩, rfl, hs1.weakL (List.nil_sublist _)⟩)
    ·refine Jq 5 rfl ?_; refine Jc (by omega) (by omega) ?_; refine Jy 2 rfl ?_; refine Jw ?_
     (rw [if_neg (show ¬ (x.err ≠ 0) by omega), if_neg (show ¬ (y.err ≠ 0) by omega)] at hinv
      exact Jt (i + 1, t.next y) ⟨by simp only; omega, hinv⟩ (by simp only; omega) (lK rfl) (.cons _ (.cons _ (List.Sublist.refl _))) (fun _ _ h => h))
   refine JP 8 rfl ?_; refine cD (fun g => ?_) fun g => ?_
   refine Jq 2 rfl ?_; refine LR rfl (Jf (xs := s.cells) (n := 1) rfl (kn 4 rfl) rfl rfl rfl) ?_; refine QI rfl (Jk (k := 3) (n := 1) (ys := s.cells) rfl rfl rfl rfl rfl rfl rfl rfl rfl (Jy 9 rfl ?_)); refine Jh rfl rfl (.cons (J2 (vs := [_]) rfl (kn 3 rfl) rfl rfl) (.cons (Jj rfl) .nil)) (fun w1 hs1 => ?_)
   (rw [if_pos (show x.err ≠ 0 by omega)] at hinv
    exact ⟨⟨s, x.err, [], hs, hinv⟩, rfl, hs1.weakL (List.nil_sublist _)⟩)
   refine Jq 5 rfl ?_; refine Jc (by omega) (by omega) ?_; refine Jy 2 rfl ?_; refine Jw ?_
   exfalso; omega
 ·refine Jq 7 rfl ?_; refine LR rfl (Jf (xs := t.s.cells) (n := 1) rfl (kn 0 rfl) rfl rfl rfl) ?_; refine Jk (k := 1) (n := 1) (ys := t.s.cells) rfl rfl rfl rfl rfl rfl rfl rfl rfl ?_; refine Jy 4 rfl ?_; refine Jh rfl rfl (.cons (J2 (vs := [_]) rfl (kn 1 rfl) rfl rfl) (.cons (Jj rfl) .nil)) (fun w1 hs1 => ?_)
  (obtain rfl : i = 2 := by omega
   exact ⟨⟨t.s, 0, t.L, t.ok, hinv⟩, rfl, hs1.weakL (.cons _ (.cons _ (.cons _ (List.Sublist.refl _))))⟩)
theorem Jua {R : Ji} (f : Int) {s : StL} (hs : s.In R) {r : Rec} (hr : r.ok) : PureT (α := StRes R (QH f s.er r)) Tryz.prog 81 [.int .i64 f, s.val, r.val].toArray (fun x => x.val) [] (fun x => x.L) R := by
 have hc := Zd hs
 obtain ⟨res, hres⟩ : ∃ res, res = YU f s.er fun w a => X7 f w a r := ⟨_, rfl⟩
 have hwr : QH f s.er r = if Xm f r ≠ 0 then (s.er, Xm f r) else if KS s.er ≠ 0 then (s.er, KS s.er) else res := by rw [hres]; rfl
 rw [hwr]; refine Ju Tryz.func81 rfl rfl fun w => ?_; refine JB ?_; refine Jq 2 rfl ?_; refine LN rfl fun r1 => ?_; refine Ko (cs := s.cells.toArray) rfl rfl rfl rfl fun rs => ?_; refine Ko (cs := r.cells.toArray) rfl rfl rfl rfl fun rr => ?_; refine LN rfl fun r2 => ?_; refine JG 6 rfl ?_; refine LR rfl (Jd rfl (kn 3 rfl) rfl rfl) ?_; refine LR rfl (Jf (xs := r.cells) (n := 17) rfl (kn 1 rfl) rfl rfl rfl) ?_; refine Jo rfl rfl rfl (enters_of Tryz.func63 (by kernel_rfl) rfl) (Jxc f r) ?_; refine JM 9 rfl ?_; refine cD (fun g => ?_) fun g => ?_
 refine XA 4 [2] rfl rfl ?_
 refine LT 0 rfl rfl ?_; refine Jy 5 rfl ?_; refine Jh rfl rfl (.cons (J2 (vs := [_]) rfl (kn 0 rfl) rfl rfl) (.cons (Jj rfl) .nil)) (fun w1 hs1 => ?_); rw [if_pos (by omega)]; exact ⟨⟨s, Xm f r, [], hs, rfl⟩, rfl, hs1.weakL (List.nil_sublist _)⟩
 ·refine Jq 5 rfl ?_; refine LR rfl (Jp (vs := [_]) rfl (kn 2 rfl) rfl rfl rfl rfl) ?_; refine Je rfl rfl rfl Jsh hc oR ?_; refine JM 9 rfl ?_; refine cD (fun g => ?_) fun g => ?_
  refine XA 4 [2] rfl rfl ?_
  refine LT 0 rfl rfl ?_; refine Jy 5 rfl ?_; refine Jh rfl rfl (.cons (J2 (vs := [_]) rfl (kn 0 rfl) rfl rfl) (.cons (Jj rfl) .nil)) (fun w1 hs1 => ?_); rw [if_neg (by omega), if_pos (by omega)]; exact ⟨⟨s, KS s.er, [], hs, rfl⟩, rfl, hs1.weakL (List.nil_sublist _)⟩
  ·refine JP 3 rfl ?_
   have hf : KV f := (Jgn (show Xm f r = 0 by omega)).1
   have hch := Jpl (R := (rr, Obj.cells r.cells.toArray 29 (0, 0)) :: (r1, Obj.cells #[.int .i64 f] 3 (0, 0)) :: R) (hs.mono fun q hq => List.mem_cons_of_mem _ (List.mem_cons_of_mem _ hq)) hf (gd := 128) (capsd := [Qf r1 0, Qf rr 0]) (go := fun w a => X7 f w a r) (enters_of Tryz.func128 (by kernel_rfl) rfl) (fun w hw a R2 hR2 ha => Jzh hf hr (hR2 _ (List.mem_cons_of_mem _ List.mem_cons_self)) (hR2 _ List.mem_cons_self) hw ha)
   refine XA 3 [3, 2] rfl rfl ?_; refine LR rfl (JD rfl rfl) ?_
   refine Kl (Rl := (rr, Obj.cells r.cells.toArray 29 (0, 0)) :: (r1, Obj.cells #[.int .i64 f] 3 (0, 0)) :: R) rfl rfl rfl (enters_of Tryz.func127 (by kernel_rfl) rfl) hch (fun q hq => by
    rcases List.mem_cons.1 hq with rfl | hq
    exact Or.inl (by simp)
    rcases List.mem_cons.1 hq with rfl | hq
    exact Or.inl (by simp)
    exact Or.inr hq) fun x => ?_
   refine Kn List.perm_append_comm ?_; change HL _ _ ((26, .tuple #[x.s.val, .int .i64 x.err]) :: _) ((r2, _) :: (rr, _) :: (rs, _) :: (r1, _) :: x.L) _ _ _ _; refine LS 2 [] rfl rfl ?_; refine Jk (k := 0) (n := 1) (ys := x.s.cells) rfl rfl rfl rfl rfl rfl rfl rfl rfl ?_; refine Jy 4 rfl ?_; refine Jh rfl rfl (.cons (J2 (vs := [_]) rfl (kn 0 rfl) rfl rfl) (.cons (Jj rfl) .nil)) (fun w1 hs1 => ?_)
   (rw [if_neg (by omega), if_neg (by omega), hres]
    exact ⟨⟨x.s, x.err, x.L ++ [(rr, Obj.cells r.cells.toArray 29 (0, 0)), (r1, Obj.cells #[.int .i64 f] 3 (0, 0))], x.ok.mono fun q hq => by simp only [List.mem_append, List.mem_cons, List.not_mem_nil, or_false] at hq ⊢; rcases hq with h | h | h | h <;> simp [h], x.eq⟩, rfl, (hs1.perm (L' := x.L ++ [_, _, _, _]) (List.perm_append_comm (l₁ := [_, _, _, _]))).weakL ((List.Sublist.refl _).append (.cons _ (.cons_cons _ (.cons _ (List.Sublist.refl _)))))⟩)
def Xf (a : AcE) : Bool := !((decide (100 < a.addr.length) || (decide (60 < a.code.length) && decide (a.code.length ≤ 512))) || decide (20 < a.slots.length)) && a.slots.all fun x => !(decide (100 < x.1.length) || decide (100 < x.2.length))
def XX : Nat → Int → List AcE → Bool × Int
 | _, n, [] => (true, n)
 | i, n, a :: l => if 40 < i then (true, n) else if Xf a = false then (false, n) else XX (i + 1) (n + (a.slots.length : Int)) l
def Yp (s : List AcE) : Bool := (XX 0 0 s).1 && (decide (s.length ≤ 40) && decide ((XX 0 0 s).2 ≤ 40))
theorem Jub {a : AcE} {i : Nat} {x : BS × BS} (hx : a.slots[i]? = some x) (h : x.1.length > 100 ∨ x.2.length > 100) : Xf a = false := by
 unfold Xf
 have : (a.slots.all fun x => !(decide (100 < x.1.length) || decide (100 < x.2.length))) = false := by
  rw [List.all_eq_false]
  exact ⟨x, List.mem_of_getElem? hx, by rcases h with h | h <;> simp [h]⟩
 rw [this, Bool.and_false]
theorem Juc {a : AcE} (h : Xf a = true) : a.slots.length ≤ 20 := by
 unfold Xf at h
 simp only [Bool.and_eq_true, Bool.not_eq_true', Bool.or_eq_false_iff, decide_eq_false_iff_not] at h; omega
theorem Jpm {i : Nat} {n : Int} {s : List AcE} {a : AcE} (h : s[i]? = some a) (hi : i ≤ 40) (hf : Xf a = true) : XX i n (s.drop i) = XX (i + 1) (n + (a.slots.length : Int)) (s.drop (i + 1)) := by
 obtain ⟨hlt, e⟩ := List.getElem?_eq_some_iff.1 h
 rw [List.drop_eq_getElem_cons hlt, e]
 unfold XX
 rw [if_neg (by omega), if_neg (by rw [hf]; simp)]
 cases s.drop (i + 1) <;> rfl
theorem Jpn {i : Nat} {n : Int} {s : List AcE} (h : 40 < i ∨ s.length ≤ i) : XX i n (s.drop i) = (true, n) := by
 rcases h with h | h
 ·cases s.drop i with
  | nil => rfl
  | cons a l => unfold XX; rw [if_pos h]
 ·rw [List.drop_of_length_le h]; rfl
theorem Jpo {i : Nat} {n : Int} {s : List AcE} {a : AcE} (h : s[i]? = some a) (hi : i ≤ 40) (hf : Xf a = false) : (XX i n (s.drop i)).1 = false := by
 obtain ⟨hlt, e⟩ := List.getElem?_eq_some_iff.1 h
 rw [List.drop_eq_getElem_cons hlt, e]
 unfold XX
 rw [if_neg (by omega), if_pos hf]
theorem Jke {R : Ji} {a : AcL} (ha : a.In R) : PureR Tryz.prog 69 [a.val].toArray (.bool (Xf a.er)) R := by
  have hl := ha.len
  have hseg := ha.seg
  obtain ⟨res, hres⟩ : ∃ b, b = Xf a.er := ⟨_, rfl⟩
  rw [← hres]
  have h1 : (100 < (a.addr.length : Int) ∨ (60 < (a.code.length : Int) ∧ (a.code.length : Int) ≤ 512) ∨ 20 < (a.slots.length : Int)) → res = false := fun h => by
    rw [hres]; unfold Xf
    have : ((decide (100 < a.addr.length) || (decide (60 < a.code.length) && decide (a.code.length ≤ 512))) || decide (20 < a.slots.length)) = true := by
      simp only [Bool.or_eq_true, Bool.and_eq_true, decide_eq_true_eq]; omega
    show (!((decide (100 < a.addr.length) || (decide (60 < a.code.length) && decide (a.code.length ≤ 512))) || decide (20 < a.slots.length)) && _) = false
    rw [this]; rfl
  have h2 : ¬ (100 < (a.addr.length : Int) ∨ (60 < (a.code.length : Int) ∧ (a.code.length : Int) ≤ 512) ∨ 20 < (a.slots.length : Int)) → (∀ (j : Nat) (x : BS × BS), a.slots[j]? = some x → x.1.length ≤ 100 ∧ x.2.length ≤ 100) → res = true := fun h h' => by
    rw [hres]; unfold Xf
    have e : ((decide (100 < a.addr.length) || (decide (60 < a.code.length) && decide (a.code.length ≤ 512))) || decide (20 < a.slots.length)) = false := by
      simp only [Bool.or_eq_false_iff, Bool.and_eq_false_iff, decide_eq_false_iff_not]; omega
    show (!((decide (100 < a.addr.length) || (decide (60 < a.code.length) && decide (a.code.length ≤ 512))) || decide (20 < a.slots.length)) && _) = true
    rw [e]; simp only [Bool.not_false, Bool.true_and, List.all_eq_true]; intro x hx
    obtain ⟨j, hj⟩ := List.getElem?_of_mem hx
    obtain ⟨g1, g2⟩ := h' j x hj
    simp; omega
  refine Ja Tryz.func69 rfl rfl fun w => ?_; refine JB ?_; refine Jq 2 rfl ?_; refine Ko (cs := a.cells.toArray) rfl rfl rfl rfl fun r1 => ?_; refine XB 8 [0] rfl rfl ?_; refine LR rfl (Qg rfl rfl) ?_; refine LS 2 [] rfl rfl ?_
  refine J7 8 rfl (fun gb => ?_) (fun gb => ?_) <;> (try simp only [ZZ] at gb) <;> first | (refine LR rfl (JE rfl rfl rfl) ?_) | (refine LK rfl ?_)
  all_goals refine LW 1 [0] rfl rfl ?_
  all_goals first | refine LR rfl (Qg rfl rfl) ?_ | refine LK rfl ?_
  all_goals refine LW 2 [] rfl rfl ?_
  all_goals first | refine LK rfl ?_ | (refine J7 13 rfl (fun gb => ?_) (fun gb => ?_) <;> (try simp only [ZZ] at gb) <;> first | (refine LR rfl (JE rfl rfl rfl) ?_) | (refine LK rfl ?_))
  all_goals refine LW 1 [0] rfl rfl ?_
  all_goals first | refine LR rfl (Qg rfl rfl) ?_ | refine LK rfl ?_
  all_goals refine LW 4 [] rfl rfl ?_
  all_goals first | refine LR rfl (JE rfl rfl rfl) ?_ | refine LK rfl ?_ | (refine J7 20 rfl (fun gb => ?_) (fun gb => ?_) <;> (try simp only [ZZ] at gb) <;> first | (refine LR rfl (JE rfl rfl rfl) ?_) | (refine LK rfl ?_))
  all_goals refine LW 1 [0] rfl rfl ?_
  all_goals first | refine LR rfl (J0 rfl hseg rfl) ?_ | refine LK rfl ?_
  all_goals (
   refine LW 2 [] rfl rfl (Jy 1 rfl (Zr 1 rfl ?_)); refine J1 rfl (fun g => ?_) (fun g => ?_)
   try simp only [ZZ] at g
   refine Km 7 rfl ?_; refine pT rfl rfl rfl fun w1 hs1 => ?_; rw [h1 (by omega)]; exact ⟨rfl, hs1.keep⟩
   · try exact Bool.noConfusion g
     all_goals try simp only [ZZ] at g
     all_goals (
      refine JP 9 rfl ?_
      have h0 : ¬ (100 < (a.addr.length : Int) ∨ (60 < (a.code.length : Int) ∧ (a.code.length : Int) ≤ 512) ∨ 20 < (a.slots.length : Int)) := by
        simp_all
        all_goals first | done | omega | trace_state
      refine Jz (σ := Nat) (fun i => i ≤ a.slots.length ∧ ∀ (j : Nat) (x : BS × BS), j < i → a.slots[j]? = some x → x.1.length ≤ 100 ∧ x.2.length ≤ 100) (fun i => [(1, .pointer (some ⟨r1, 0, none⟩)), (3, .int .i64 (i : Int))]) (fun _ => [(r1, .cells a.cells.toArray 48 (0, 0))]) (fun _ _ _ => True) (fun i => a.slots.length - i) 0 ⟨Nat.zero_le _, fun _ _ h => absurd h (Nat.not_lt_zero _)⟩ (lK rfl) (List.Sublist.refl _) (fun _ _ h => h) ?_; rintro i ⟨hi1, hinv⟩; refine XA 6 [0] rfl rfl ?_; refine LR rfl (J0 rfl hseg rfl) ?_; refine JM 3 rfl ?_; refine cD (fun g => ?_) fun g => ?_
      · refine JP 5 rfl ?_
        obtain ⟨x, hx, hmx⟩ := Q4 (show i < a.slots.length by omega)
        have hxl := ha.slots x hmx
        refine XA 4 [0] rfl rfl ?_
        refine LR rfl (Jr (j := i) rfl hseg rfl rfl rfl (by first | rfl | omega) (by omega)) ?_; refine LR rfl (QQ (off' := plO a.p + (i * 2 + 0)) rfl rfl (by show plO a.p + i * 2 + 0 = _; omega)) ?_; refine LR rfl (vx Kf (k := 0) (v := J6 x.1) oR rfl hseg hx rfl rfl) ?_; refine LR rfl (Qg rfl rfl) ?_; refine LS 2 [] rfl rfl ?_
        refine J7 41 rfl (fun gb => ?_) (fun gb => ?_) <;> (try simp only [ZZ] at gb) <;> first | (refine LR rfl (JE rfl rfl rfl) ?_) | (refine LK rfl ?_)
        all_goals refine LW 2 [0] rfl rfl ?_
        all_goals first | (refine LR rfl (Jr (j := i) rfl hseg rfl rfl rfl (by first | rfl | omega) (by omega)) ?_) | refine LK rfl ?_
        all_goals first | (refine LR rfl (QQ (off' := plO a.p + (i * 2 + 1)) rfl rfl (by show plO a.p + i * 2 + 1 = _; omega)) ?_) | refine LK rfl ?_
        all_goals first | refine LR rfl (vx Kf (k := 1) (v := J6 x.2) oR rfl hseg hx rfl rfl) ?_ | refine LK rfl ?_
        all_goals first | refine LR rfl (Qg rfl rfl) ?_ | refine LK rfl ?_
        all_goals (
         refine LW 2 [] rfl rfl (Jy 1 rfl (Zr 1 rfl ?_)); refine J1 rfl (fun g => ?_) (fun g => ?_)
         try simp only [ZZ] at g
         refine Km 11 rfl ?_; refine pT rfl rfl rfl fun w1 hs1 => ?_; rw [hres, Jub hx (by omega)]; exact ⟨rfl, hs1.keep⟩
         · try exact Bool.noConfusion g
           all_goals try simp only [ZZ] at g
           all_goals (
            refine Jq 6 rfl ?_; refine Jc (by omega) (by omega) ?_; refine Jy 2 rfl ?_; refine Jw ?_
            exact Jt (i + 1) ⟨by omega, fun j y hj hy => by
              rcases Nat.lt_succ_iff_lt_or_eq.1 hj with h | rfl
              exact hinv j y h hy
              · obtain rfl := Option.some.inj (hx.symm.trans hy); simp_all; all_goals first | done | omega | trace_state⟩ (by omega) (lK rfl) (List.Sublist.refl _) (fun _ _ h => h)
            skip)
         skip)
      refine Km 11 rfl ?_; refine pT rfl rfl rfl fun w1 hs1 => ?_; rw [h2 h0 (fun j y hy => hinv j y (by have := (List.getElem?_eq_some_iff.1 hy).1; omega) hy)]; exact ⟨rfl, hs1.keep⟩
      skip)
   skip)
theorem Jud {R : Ji} {s : StL} (hs : s.In R) : PureR Tryz.prog 29 [s.val].toArray (.bool (Yp s.er)) R := by
  have hl := hs.len
  have hseg := hs.seg
  obtain ⟨⟨rb, rn⟩, hres⟩ : ∃ b, b = XX 0 0 s.er := ⟨_, rfl⟩
  have hfs : Yp s.er = (rb && (decide (s.accts.length ≤ 40) && decide (rn ≤ 40))) := by unfold Yp; rw [← hres, s.er_len]
  rw [hfs]; refine Ja Tryz.func29 rfl rfl fun w => ?_; refine JB ?_; refine Jq 2 rfl ?_; refine Ko (cs := s.cells.toArray) rfl rfl rfl rfl fun r1 => ?_; refine JM 15 rfl ?_; refine Jz (σ := Nat × Int) (fun q => q.1 ≤ s.accts.length ∧ 0 ≤ q.2 ∧ q.2 ≤ 20 * q.1 ∧ q.1 ≤ 41 ∧ XX q.1 q.2 (s.er.drop q.1) = (rb, rn)) (fun q => [(1, .pointer (some ⟨r1, 0, none⟩)), (3, .int .i64 q.2), (4, .int .i64 (q.1 : Int))]) (fun _ => [(r1, .cells s.cells.toArray 36 (0, 0))]) (fun _ _ _ => True) (fun q => s.accts.length - q.1) (0, 0) ⟨Nat.zero_le _, by omega, by omega, by omega, hres.symm⟩ (lK rfl) (List.Sublist.refl _) (fun _ _ h => h) ?_; rintro ⟨i, n⟩ ⟨hi1, hn0, hn1, hi41, hinv⟩; simp only at hi1 hn0 hn1 hi41 hinv; change HC _ _ [(1, _), (3, .int .i64 n), (4, .int .i64 (i : Int))] _ _ _ _; refine XA 6 [0] rfl rfl ?_; refine LR rfl (J0 rfl hseg rfl) ?_; refine LS 2 [] rfl rfl ?_
  refine J7 11 rfl (fun gb => ?_) (fun gb => ?_) <;> (try simp only [ZZ] at gb) <;> first | (refine QI rfl ?_) | (refine LK rfl ?_)
  all_goals (
   refine LW 2 [] rfl rfl (Jy 1 rfl (Zr 1 rfl ?_)); refine J1 rfl (fun g => ?_) (fun g => ?_)
   · try exact Bool.noConfusion g
     all_goals try simp only [ZZ] at g
     all_goals (
      refine JP 5 rfl ?_
      obtain ⟨a, ha, hma⟩ := Q4 (show i < s.accts.length by omega)
      have ha2 := hs.accts a hma
      have hi40 : i ≤ 40 := by simp_all <;> omega
      refine XA 4 [0] rfl rfl ?_
      refine LR rfl (Jr (j := i) rfl hseg rfl rfl rfl (by first | rfl | omega) (by omega)) ?_; refine LR rfl (JZ AcL.len oR rfl hseg ha rfl rfl) ?_; refine Je rfl rfl rfl (enters_of Tryz.func69 (by kernel_rfl) rfl) (Jke ha2) oR ?_; refine JM 10 rfl ?_; refine cD (fun g => ?_) fun g => ?_
      refine Km 12 rfl ?_; refine pT rfl rfl rfl fun w1 hs1 => ?_
      (have hff : Xf a.er = false := by simp_all
       have h1 := Jpo (n := n) (Yi ha) hi40 hff
       rw [hinv] at h1
       rw [show rb = false from h1]; exact ⟨rfl, hs1.keep⟩)
      refine JP 2 rfl ?_
      have hft : Xf a.er = true := by simp_all
      have h20 := Juc hft
      have h20 : a.slots.length ≤ 20 := h20
      rw [Jpm (Yi ha) hi40 hft] at hinv; refine XA 5 [0] rfl rfl ?_
      refine LR rfl (Jr (j := i) rfl hseg rfl rfl rfl (by first | rfl | omega) (by omega)) ?_; refine LR rfl (QQ (off' := plO s.p + (i * 8 + 7)) rfl rfl (by show plO s.p + i * 8 + 7 = _; omega)) ?_; refine LR rfl (vx AcL.len (k := 7) (v := Kz a.slots.length a.p) oR rfl hseg ha rfl rfl) ?_; refine LR rfl (J0 rfl ha2.seg rfl) ?_; refine Wi rfl (Jc (by omega) (by omega) (JG 7 rfl ?_)); refine Jc (by omega) (by omega) ?_; refine Jy 2 rfl ?_; refine Jw ?_; exact Jt (i + 1, n + (a.slots.length : Int)) ⟨by simp only; omega, by simp only; omega, by simp only; omega, by simp only; omega, hinv⟩ (by simp only; omega) (lK rfl) (List.Sublist.refl _) (fun _ _ h => h)
      skip)
   · try simp only [ZZ] at g
     refine XA 9 [0] rfl rfl ?_; refine LR rfl (J0 rfl hseg rfl) ?_; refine LS 2 [] rfl rfl ?_
     refine J7 38 rfl (fun gb => ?_) (fun gb => ?_) <;> (try simp only [ZZ] at gb) <;> first | (refine QI rfl ?_) | (refine LK rfl ?_)
     all_goals (
      refine LW 3 [] rfl rfl (Jy 1 rfl (Zx 2 rfl ?_)); refine pT rfl rfl rfl fun w1 hs1 => ?_
      first
        | (have hff : Xf a.er = false := by simp_all
           have h1 := Jpo (n := n) (Yi ha) hi40 hff
           rw [hinv] at h1
           rw [show rb = false from h1]; exact ⟨rfl, hs1.keep⟩)
        | (rw [Jpn (by rw [s.er_len]; omega)] at hinv
           obtain ⟨rfl, rfl⟩ := Prod.mk.inj hinv
           refine ⟨?_, hs1.keep⟩
           simp [J8]
           all_goals first | done | omega | trace_state)
        | trace_state
      skip)
   skip)
def rw1 : Rec := ⟨5, 6, ⟨7, 0, 0, 0⟩, w40, w40, 8, 0, 0⟩
theorem jR {n : Nat} (h : n < 1000) : VD n := by unfold VD; omega
theorem Jpp {a b : Int} (h : a = b) : Value.int .i64 a = .int .i64 b := congrArg _ h
theorem Jue {a b : Bool} (h : a = b) : Value.bool a = .bool b := congrArg _ h
structure Stay (s t : StL) (a key : BS) : Prop where
  there : Yh s a = true → Yh t a = true
  oth : a ≠ A0 → a ≠ A1 → Yh s a = Yh t a ∧ (Q6 s a).er = (Q6 t a).er
  nonce : (Q6 s a).nonce = (Q6 t a).nonce
  bal : (Q6 s a).bal = (Q6 t a).bal
  slot : (a = A0 → ¬ zN key) → Q5 (Q6 s a).er key = Q5 (Q6 t a).er key
theorem Jxg {α : Type} {p : α → Bool} {l : List α} {j : Nat} {x : α} (h : l[j]? = some x) (hp : p x = true) : l.any p = true := List.any_eq_true.2 ⟨x, List.mem_of_getElem? h, hp⟩
theorem Jpq {α : Type} {p : α → Bool} {l : List α} (h : ∀ (j : Nat) x, l[j]? = some x → p x = false) : l.any p = false := by
 rw [List.any_eq_false]; intro x hx
 obtain ⟨j, hj⟩ := List.getElem?_of_mem hx
 rw [h j x hj]; simp
structure RackI (a : AcL) (rb : Bool) (i : Nat) (rs sp : Bool) : Prop where
  le : i ≤ a.slots.length
  odd : ∀ (j : Nat) x, j < i → a.slots[j]? = some x → q7 x = false
  rs : rs = true ↔ rb = true ∧ ∀ (j : Nat) x y, j + 1 < i → a.slots[j]? = some x → a.slots[j + 1]? = some y → Op.bytesLess x.1 y.1 = true
  sp : sp = true ↔ ∃ (j : Nat) (x : BS × BS), j < i ∧ a.slots[j]? = some x ∧ x.2 = Vg
theorem RackI.zero (a : AcL) (rb : Bool) : RackI a rb 0 rb false := ⟨Nat.zero_le _, fun _ _ h => absurd h (Nat.not_lt_zero _), by simp, by simp⟩
theorem RackI.next {a : AcL} {rb : Bool} {i : Nat} {rs sp rs' sp' : Bool} {x : BS × BS} (h : RackI a rb i rs sp) (hx : a.slots[i]? = some x) (ho : x.1.length = 32 ∧ x.2.length = 32)
  (hr : rs' = (rs && (decide (i = 0) || Op.bytesLess ((a.slots[i - 1]?.map Prod.fst).getD []) x.1))) (hp : sp' = (sp || decide (x.2 = Vg))) : RackI a rb (i + 1) rs' sp' := by
 have hlt := (List.getElem?_eq_some_iff.1 hx).1
 refine ⟨hlt, fun j y hj hy => ?_, ?_, ?_⟩
 ·rcases Nat.lt_succ_iff_lt_or_eq.1 hj with hj | rfl
  ·exact h.odd j y hj hy
  ·rw [hx] at hy; cases hy
   unfold q7; simp [ho.1, ho.2]
 ·rw [hr, Bool.and_eq_true, h.rs, Bool.or_eq_true, decide_eq_true_eq]
  constructor
  ·rintro ⟨⟨h1, h2⟩, h3⟩
   refine ⟨h1, fun j u v hj hu hv => ?_⟩
   rcases Nat.lt_succ_iff_lt_or_eq.1 hj with hj | hj
   ·exact h2 j u v hj hu hv
   ·subst hj
    rw [hx] at hv; cases hv; rw [show j + 1 - 1 = j by omega, hu] at h3; exact h3.resolve_left (by omega)
  ·rintro ⟨h1, h2⟩
   refine ⟨⟨h1, fun j u v hj hu hv => h2 j u v (by omega) hu hv⟩, ?_⟩
   rcases Nat.eq_zero_or_pos i with h0 | h0
   ·exact .inl h0
   ·obtain ⟨j, rfl⟩ : ∃ j, i = j + 1 := ⟨i - 1, by omega⟩
    obtain ⟨u, hu, -⟩ := Q4 (show j < a.slots.length by omega)
    rw [show j + 1 - 1 = j by omega, hu]; exact .inr (h2 j u x (by omega) hu hx)
 ·rw [hp, Bool.or_eq_true, h.sp, decide_eq_true_eq]
  constructor
  ·rintro (⟨j, u, hj, hu, e⟩ | e)
   ·exact ⟨j, u, by omega, hu, e⟩
   ·exact ⟨i, x, by omega, hx, e⟩
  ·rintro ⟨j, u, hj, hu, e⟩
   rcases Nat.lt_succ_iff_lt_or_eq.1 hj with hj | rfl
   ·exact .inl ⟨j, u, hj, hu, e⟩
   ·rw [hx] at hu; cases hu; exact .inr e
theorem RackI.done {a : AcL} {rb : Bool} {rs sp : Bool} (h : RackI a rb a.slots.length rs sp) : a.slots.any q7 = false ∧ rs = (rb && Q9 Prod.fst a.slots) ∧ sp = a.slots.any X0 := by
 have hlt : ∀ (j : Nat) (x : BS × BS), a.slots[j]? = some x → j < a.slots.length := fun j x hx => (List.getElem?_eq_some_iff.1 hx).1
 refine ⟨Jpq fun j x hx => h.odd j x (hlt j x hx) hx, ?_, ?_⟩
 ·rw [Bool.eq_iff_iff, h.rs, Bool.and_eq_true]
  refine and_congr_right fun _ => ⟨fun hh => YV fun j x y hx hy => hh j x y (hlt _ _ hy) hx hy, fun hh j x y _ hx hy => ?_⟩
  cases hb : Op.bytesLess x.1 y.1
  ·rw [jf hx hy hb] at hh; cases hh
  ·rfl
 ·rw [Bool.eq_iff_iff, h.sp]
  constructor
  ·rintro ⟨j, x, _, hx, e⟩
   exact Jxg hx (by unfold X0; rw [e]; simp)
  ·intro hh
   obtain ⟨x, hx, e⟩ := List.any_eq_true.1 hh
   obtain ⟨j, hj⟩ := List.getElem?_of_mem hx
   exact ⟨j, x, hlt j x hj, hj, by simpa [X0] using e⟩
theorem chk_one (e : AcE) : KS [e] = Wu e := by
 unfold KS goS
 rw [if_neg (by show ¬ 1 > 32; decide), yq]
 split
 ·rfl
 ·rename_i h
  rw [goS]; exact (Decidable.not_not.1 h).symm
structure OutI {α : Type} (f : α → List Value) (sz : Nat) (acc : List α) (n : Nat) (xs : List Value) (row : QK) : Prop where
  num : n = acc.length
  cells : xs = acc.flatMap f
  ok : rowOk sz n xs row
theorem OutI.nil {α : Type} {f : α → List Value} {sz : Nat} : OutI f sz [] 0 [] none := ⟨rfl, rfl, rfl, rfl⟩
theorem OutI.snoc {α : Type} {f : α → List Value} {sz n : Nat} {acc : List α} {xs : List Value} {row row' : QK} (h : OutI f sz acc n xs row) {x : α} (h' : rowOk sz (n + 1) (xs ++ f x) row') : OutI f sz (acc ++ [x]) (n + 1) (xs ++ f x) row' :=
 ⟨by rw [List.length_append, h.num]; rfl, by rw [List.flatMap_append, h.cells]; simp, h'⟩
theorem one_seg {a : AcL} {r : Nat} : Seg [(r, .cells a.cells.toArray 48 (0, 0))] [a].length ([a].flatMap AcL.cells) (some (⟨r, 0, none⟩, 1)) := by
 have h := Ku (row := some (r, 1, [])) (sz := 8) (n := 1) (e := 48) (cs := a.cells) ⟨rfl, rfl⟩ (by decide)
 simpa [JH, QC] using h
theorem Jpr {R : Ji} {a : AcL} (ha : a.In R) (r : Nat) : StL.In ((r, .cells a.cells.toArray 48 (0, 0)) :: R) ⟨[a], some (⟨r, 0, none⟩, 1)⟩ :=
 ⟨by show 1 ≤ _; decide, one_seg.mono fun q hq => by rw [List.mem_singleton.1 hq]; exact List.mem_cons_self, fun x hx => by rw [List.mem_singleton.1 hx]; exact ha.mono fun q hq => List.mem_cons_of_mem _ hq⟩
open Go.Proofs (Enters enters_of)
theorem jr {k n : Int} {p : Pl} {x : Ty} {l : List Vl} (hk : (k = 3 ∧ (l.length : Int) = n) ∨ (k = 4 ∧ (l.length : Int) ≤ n)) (h : ∀ v ∈ l, KE v x = 0) : KE (KN l 0) (.mk k n p [x]) = 0 := by
 have hL : ∀ (l : List Vl) (i : Nat), (∀ v ∈ l, KE v x = 0) → Q2 l k 0 [x] i = 0 := by
  intro l
  induction l with
  | nil => intro i _; rw [Q2]
  | cons v l ih =>
   intro i h
   have e : JO k 0 [x] i = x := by unfold JO Xn; rcases hk with ⟨rfl, _⟩ | ⟨rfl, _⟩ <;> rfl
   rw [Q2, e, if_pos (h v (by simp)), ih _ (fun w hw => h w (by simp [hw]))]
 unfold KN
 rw [jL ?_ ?_, hL l 0 h]
 ·rcases hk with ⟨rfl, h1⟩ | ⟨rfl, h1⟩ <;> simp <;> omega
 ·rw [Vi k n _ 0 0 0 0 [] none l none 0 _ rfl]
  rcases hk with ⟨rfl, h1⟩ | ⟨rfl, h1⟩ <;> simp [QY, h1]
theorem wk {a b c d : Nat} {n : Int} {p : Pl} (h : ((Wo [a, b, c, d]).length : Int) ≤ n) : KE (.mk a b c d [] none [] none 0) (.mk 1 n p []) = 0 := by
 rw [jL (by simp) (by rw [Vi 1 n _ a b c d [] none [] none 0 _ rfl]; simp [QY, h]), Q2]
theorem Jxh : ∀ i : Fin 256, (Wo [i.val, 0, 0, 0]).length ≤ 1 := by decide +kernel
theorem Jps (b : UInt8) : KE (Z0 b) byT = 0 := wk (by have := Jxh ⟨b.toNat, Yz b⟩; simp only at this; omega)
theorem xF {s : BS} {n : Int} (h : (s.length : Int) = n) : KE (wM s) (Xe 3 n) = 0 := jr (.inl ⟨rfl, by rw [List.length_map]; exact h⟩) fun v hv => by obtain ⟨b, _, rfl⟩ := List.mem_map.1 hv; exact Jps b
theorem Juf {s : BS} {n : Int} (h : (s.length : Int) ≤ n) : KE (wM s) (Xe 4 n) = 0 := jr (.inr ⟨rfl, by rw [List.length_map]; exact h⟩) fun v hv => by obtain ⟨b, _, rfl⟩ := List.mem_map.1 hv; exact Jps b
theorem Jug {x : BS × BS} (h1 : x.1.length = 32) (h2 : x.2.length = 32) : KE (wh x) xv = 0 := by
 unfold wh xv KN
 rw [jL (by simp) (by rw [Vi 7 0 _ 0 0 0 0 [] none _ none 0 _ rfl]; simp [QY]), Q2, show JO 7 0 [Xe 3 32, Xe 3 32] 0 = Xe 3 32 from rfl, if_pos (xF (by omega)), Q2, show JO 7 0 [Xe 3 32, Xe 3 32] (0 + 1) = Xe 3 32 from rfl, if_pos (xF (by omega)), Q2]
theorem Juh {n : Nat} (h : VD n) : (Wo [n, 0, 0, 0]).length ≤ 8 := by
 have h1 := Jjt (l := [n, 0, 0, 0]) (Jwo h)
 rw [Jns] at h1; exact of_decide_eq_true h1.symm
theorem Jxi {a : AcE} (h : Wu a = 0) (hn : VD a.nonce) : KE (acV a) acT = 0 := by
 obtain ⟨h1, h2, _, h4, h5⟩ := QL h
 obtain ⟨I, hI⟩ : ∃ I, I = [Xe 3 20, .mk 1 8 none [], .mk 1 32 none [], Xe 4 512, .mk 4 16 none [xv]] := ⟨_, rfl⟩
 have e0 : JO 7 0 I 0 = Xe 3 20 := by rw [hI]; rfl
 have e1 : JO 7 0 I (0 + 1) = .mk 1 8 none [] := by rw [hI]; rfl
 have e2 : JO 7 0 I (0 + 1 + 1) = .mk 1 32 none [] := by rw [hI]; rfl
 have e3 : JO 7 0 I (0 + 1 + 1 + 1) = Xe 4 512 := by rw [hI]; rfl
 have e4 : JO 7 0 I (0 + 1 + 1 + 1 + 1) = .mk 4 16 none [xv] := by rw [hI]; rfl
 have hl : I.length = 5 := by rw [hI]; rfl
 have hsl : KE (Vl.mk 0 0 0 0 [] none (a.slots.map wh) none 0) (.mk 4 16 none [xv]) = 0 := jr (.inr ⟨rfl, by rw [List.length_map]; omega⟩) fun v hv => by
  obtain ⟨x, hx, rfl⟩ := List.mem_map.1 hv
  exact Jug (h2 x hx).1 (h2 x hx).2.1
 unfold acV acT KN
 rw [← hI, jL (by simp) (by rw [hl, Vi 7 0 _ 0 0 0 0 [] none _ none 0 _ rfl]; simp [QY]), Q2, e0, if_pos (xF (by omega)), Q2, e1, if_pos (wk (by have := Juh hn; omega)), Q2, e2, if_pos (wk (by have := Je0 [a.bal.a, a.bal.b, a.bal.c, a.bal.d]; omega)),
  Q2, e3, if_pos (Juf (by omega)), Q2, e4, if_pos hsl, Q2]
theorem xG {l : List AcE} (h : KS l = 0) (hn : ∀ a ∈ l, VD a.nonce) : Vp jN (YI l) = 0 := by
 obtain ⟨h1, h2, _⟩ := X5.1 h
 unfold Vp
 rw [if_pos Jh1]
 exact jr (.inr ⟨rfl, by rw [List.length_map]; omega⟩) fun v hv => by
  obtain ⟨a, ha, rfl⟩ := List.mem_map.1 hv
  exact Jxi (h2 a ha) (hn a ha)
theorem Jic {s : StL} (h : KS s.er = 0) : s.accts.length ≤ 100000 ∧ ∀ a ∈ s.accts, Ac1 a := by
 obtain ⟨h1, h2, _⟩ := X5.1 h
 rw [s.er_len] at h1; refine ⟨by omega, fun a ha => ?_⟩
 obtain ⟨g1, g2, _, g4, g5⟩ := QL (h2 a.er (List.mem_map.2 ⟨a, ha, rfl⟩))
 change a.addr.length = 20 at g1; change a.code.length ≤ 512 at g4; change a.slots.length ≤ 16 at g5; exact ⟨by omega, by omega, by omega, fun x hx => by obtain ⟨e1, e2, _⟩ := g2 x hx; omega⟩
theorem Jxj {R : Ji} {s : StL} (hs : s.In R) (h : KS s.er = 0) : Vp jN (YI s.er) = 0 := xG h fun a ha => by
 obtain ⟨b, hb, rfl⟩ := List.mem_map.1 ha
 exact (hs.accts b hb).nonce
theorem Jda : ∀ l : List Vl, (∀ x ∈ l, Nonempty (VR x)) → ∃ (ys : List Vl) (L : Ji), ys.map Zl = l ∧ ∀ y ∈ ys, y.In L
 | [], _ => ⟨[], [], rfl, fun y hy => nomatch hy⟩
 | x :: l, h => by
  obtain ⟨ys, L, h1, h2⟩ := Jda l fun y hy => h y (List.mem_cons_of_mem _ hy)
  obtain ⟨v⟩ := h x List.mem_cons_self
  refine ⟨v.x :: ys, v.L ++ L, by rw [List.map_cons, v.er, h1], fun y hy => ?_⟩
  rcases List.mem_cons.1 hy with rfl | hy
  ·exact v.ok.mono fun q hq => List.mem_append_left _ hq
  ·exact (h2 y hy).mono fun q hq => List.mem_append_right _ hq
theorem Ze {l : List Vl} (h : ∀ x ∈ l, Nonempty (VR x)) (hl : l.length ≤ 100000) : Nonempty (VR (KN l 0)) := by
 obtain ⟨ys, L, h1, h2⟩ := Jda l h
 have hy : ys.length = l.length := by rw [← h1, List.length_map]
 exact ⟨⟨.mk 0 0 0 0 [] none ys (some (⟨0, 0, none⟩, ys.length)) 0, (0, .cells (Qu ys).toArray 0 (0, 0)) :: L, .mk u0 u0 u0 u0 (by decide) rfl (by omega) ⟨Nat.le_refl _, fun _ => ⟨rfl, _, 0, (0, 0), List.mem_cons_self, by rw [List.drop_zero, List.toList_toArray, List.take_length]⟩⟩ i0 fun x hx => (h2 x hx).mono fun q hq => List.mem_cons_of_mem _ hq, by rw [Wr, W7, h1]; rfl⟩⟩
theorem Jid {a b c d : Nat} (ha : VD a) (hb : VD b) (hc : VD c) (hd : VD d) : Nonempty (VR (.mk a b c d [] none [] none 0)) :=
 ⟨⟨.mk a b c d [] none [] none 0, [], .mk ha hb hc hd (by decide) rfl (by decide) rfl i0 (fun x hx => nomatch hx), by rw [Wr, qU]⟩⟩
theorem xH {s : BS} (hl : s.length ≤ 100000) : Nonempty (VR (wM s)) := ⟨Joq hl⟩
theorem Jxk {a : AcL} (h : Ac1 a) (hn : VD a.nonce) (hb : a.bal.ok) : Nonempty (VR (acV a.er)) := by
 obtain ⟨h1, h2, h3, h4⟩ := h
 refine Ze (fun x hx => ?_) (by show 5 ≤ 100000; decide); simp only [List.mem_cons, List.not_mem_nil, or_false] at hx
 rcases hx with rfl | rfl | rfl | rfl | rfl
 ·exact xH h1
 ·exact Jid hn u0 u0 u0
 ·exact Jid hb.a hb.b hb.c hb.d
 ·exact xH h2
 ·refine Ze (fun x hx => ?_) (by rw [List.length_map]; exact h3)
  obtain ⟨⟨k, v⟩, hy, rfl⟩ := List.mem_map.1 hx
  refine Ze (fun x hx => ?_) (by show 2 ≤ 100000; decide); simp only [List.mem_cons, List.not_mem_nil, or_false] at hx
  rcases hx with rfl | rfl
  ·exact xH (h4 _ hy).1
  ·exact xH (h4 _ hy).2
theorem Jxl {R : Ji} {s : StL} (hs : s.In R) (h : KS s.er = 0) : Nonempty (VR (YI s.er)) := by
 obtain ⟨hn, hb⟩ := Jic h
 refine Ze (fun x hx => ?_) (by rw [List.length_map, s.er_len]; exact hn)
 obtain ⟨a, ha, rfl⟩ := List.mem_map.1 hx
 obtain ⟨b, hb2, rfl⟩ := List.mem_map.1 ha
 exact Jxk (hb b hb2) (hs.accts b hb2).nonce (hs.accts b hb2).bal
def Jzi : TR jN := ⟨Joe 0 0 0 0 0 0 0 0, [(0, Jj4 0), (0, .cells #[.int .i64 3, .int .i64 32, .slice (some ⟨0, 0, none⟩) 1 1, .int .i64 3, .int .i64 32, .slice (some ⟨0, 0, none⟩) 1 1] 0 (0, 0)), (0, .cells #[.int .i64 7, .int .i64 0, .slice (some ⟨0, 0, none⟩) 2 2] 0 (0, 0)),
 (0, .cells #[.int .i64 3, .int .i64 20, .slice (some ⟨0, 0, none⟩) 1 1, .int .i64 1, .int .i64 8, .slice none 0 0, .int .i64 1, .int .i64 32, .slice none 0 0, .int .i64 4, .int .i64 512, .slice (some ⟨0, 0, none⟩) 1 1, .int .i64 4, .int .i64 16, .slice (some ⟨0, 0, none⟩) 1 1] 0 (0, 0)),
 (0, .cells #[.int .i64 7, .int .i64 0, .slice (some ⟨0, 0, none⟩) 5 5] 0 (0, 0))], Jhr (e := 0) (by simp) (by simp) (by simp) (by simp) (by simp) (by simp) (by simp) (by simp), Jhs ..⟩
theorem Jpt (t : Ty) (v : Vl) : XV t (Zl v) = XV t v := by unfold XV Vp; rw [Jw0, Jth]
theorem Jpu {T : Ty} {V : Vl} (t : TR T) (v : VR V) : XV t.x v.x = XV T V := by obtain ⟨x, L, ok, rfl⟩ := t; obtain ⟨y, M, ok2, rfl⟩ := v; rw [Jj9, Jpt]
theorem Jdb {l : List AcE} (h : KS l = 0) (hf : Vp jN (YI l) = 0) : Qr l = (KI (YI l) jN, 0) := by
 unfold Qr XV
 rw [if_neg (by omega), if_neg (by omega)]
theorem wl {R : Ji} {s : StL} (hs : s.In R) (hw : KS s.er = 0 → Yu (YI s.er) ≤ 20000) : PureR Tryz.prog 20 [s.val].toArray (Yt (Qr s.er)) R := by
 have hC := Zd hs
 have hac := Jic (s := s)
 have hlay := Jxl hs
 have hfit := Jxj hs
 have hb0 : KS s.er ≠ 0 → Qr s.er = ([], KS s.er) := fun h => by unfold Qr; rw [if_pos h]
 have hb1 : KS s.er = 0 → Qr s.er = XV jN (YI s.er) := fun h => by unfold Qr; rw [if_neg (by omega)]
 obtain ⟨accts, p⟩ := s
 generalize hz0 : KS (StL.er ⟨accts, p⟩) = z at *
 refine Ja Tryz.func20 rfl rfl fun w => ?_; refine JB ?_; refine Jq 2 rfl ?_; refine LN rfl fun r1 => ?_; refine JG 7 rfl ?_; refine LR rfl (Jp (vs := [_]) rfl (kn 0 rfl) rfl rfl rfl rfl) ?_; refine Je rfl rfl rfl Jsh hC oR ?_; refine JM 9 rfl ?_; refine cD (fun g => ?_) fun g => ?_
 refine Km 9 rfl ?_; refine Jh rfl rfl (.cons (Jj rfl) (.cons (Jj rfl) .nil)) (fun w1 hs1 => ?_); refine ⟨?_, hs1.keep⟩; rw [hb0 (by assumption)]; rfl
 ·refine JP 3 rfl ?_
  have hz : z = 0 := by assumption
  obtain ⟨hn, hb⟩ := hac hz
  obtain ⟨v0⟩ := hlay hz
  have hww := hw hz
  refine JN [(r1, .cells #[Kz accts.length p] 36 (0, 0))] [(0, .grow (KY Jzi (fun y => y.x.val) (fun y => y.L))), (1, .pure), (2, .pure), (3, .grow (KY v0 (fun y => y.x.val) (fun y => y.L))), (5, .pure), (6, .pure)] 7 [1, 2, 0, 3, 4, 5, 6] (by kernel_rfl) (by kernel_rfl) (by first | exact (fun _ h => absurd h List.not_mem_nil) | simp [SubS] | (intro p hp; simp [hp])) ?_
  refine Jm (k := 1) rfl rfl rfl rfl rfl (fun _ hS => (JE rfl rfl rfl)) ?_; refine Jm (k := 2) rfl rfl rfl rfl rfl (fun _ hS => (Jd rfl (.inl (hS _ (Jn (n := 0) rfl))) rfl rfl)) ?_; refine KR (k := 0) rfl rfl rfl rfl rfl (enters_of Tryz.func46 (by kernel_rfl) rfl) Jti oN fun t => ?_; refine KR (k := 3) rfl rfl rfl rfl rfl (enters_of Tryz.func47 (by kernel_rfl) rfl) (Jtp hs hn hb) oR fun v => ?_
  refine KT (k := 4) (Rl := v.L ++ t.L) rfl rfl rfl rfl rfl (enters_of Tryz.func45 (by kernel_rfl) rfl) (Jtk (t.ok.mono fun q hq => List.mem_append_right _ hq) (v.ok.mono fun q hq => List.mem_append_left _ hq) (by rw [← Jy7 v.x, v.er]; exact hww)) (fun q hq => .inl (by rcases List.mem_append.1 hq with h | h <;> simp [h])) ?_; refine Wa (congrArg Yt (Jpu t v)) ?_; refine Jm (k := 5) rfl rfl rfl rfl rfl (fun _ hS => (Kg rfl rfl)) ?_; refine Jm (k := 6) rfl rfl rfl rfl rfl (fun _ hS => (Kg rfl rfl)) ?_; refine Kv ?_; refine Jy 5 rfl ?_; refine Jh rfl rfl (.cons (Jj rfl) (.cons (Jj rfl) .nil)) (fun w1 hs1 => ?_); refine ⟨?_, hs1.keep⟩; rw [hb1 hz]; rfl
structure Num8 (s : BS) (x : Nat) : Prop where
  len : s.length = 8
  u : VD x
  at_ : ∀ i, i < 8 → (s.getD i 0).toNat = x / 256 ^ (7 - i) % 256
theorem yR {c : Cx} {l : Kk} {E : Ji} {X : XP} {d : List Deferred} {ops : Array Oper} {rest : List Nat} {k : Nat} {tb : Zy} {S : Ji} {T : Ji → Act → Prop} {t ty : TypeId} {ps : String} {af : Array Edge} {gd : Option (Nat × Bool)} {x y : Operand} {q r off n : Nat} {cs cs' : Array Value} {vs : Array Value} {e : TypeId} {E' : Ji} (hko : W9 ops.toList k = some ⟨none, .store t x y, ty, ps, af, gd⟩) (hg : JV l ops ⟨none, .store t x y, ty, ps, af, gd⟩ = some true) (hA : tb k = .turn)
  (hx : JT l x = some (.pointer (some ⟨r, off, none⟩))) (hk : E[q]? = some (r, .cells cs e (0, 0))) (hy : JT l y = some (.agg vs)) (ht : KC c.P t = some n) (hn : vs.size = n) (ho : vs.toList.all Qt = true) (hc : off + n ≤ cs.size)
  (hcs : (cs.toList.take off ++ vs.toList ++ cs.toList.drop (off + n)).toArray = cs') (hL : E.set q (r, .cells cs' e (0, 0)) = E') (hS : SubS S E')
  (h : HB c d l E' X S ops tb rest T) : HB c d l E X S ops tb (k :: rest) T :=
 ZW hko hg rfl hA (fun a w hf hs => ⟨w.setRow r cs', by
  simp only [execOp]; rw [hf.eval hx, hf.eval hy]
  have h1 := run_storeCells_at (P := c.P) r off e vs.toList 0 cs w (hs.get hk) (by simp [hn]; omega) (fun u hu => by rw [Wv]; exact List.all_eq_true.1 ho u hu)
  simp only [Nat.add_zero, Array.length_toList, hn] at h1; rw [hcs] at h1
  simp [Instr.storeAt, Instr.sureAddr, Sem.run_bind, Result.andThen, storeVar, QG ht, Value.cells, hn, h1], by
  subst hL
  exact hs.set hk (Keep.setRow r cs') (setRow_heap _ _ _ _ _ _ (hs.get hk))⟩) hS h
theorem _root_.Go.SL.PureT.ne {α : Type} {P : Program} {f : FuncId} {args : Array Value} {V : α → Value} {LL : α → Ji} {Rl : Ji} (h : PureT P f args V [] LL Rl) {w : World} (hR : Has Rl w) : Nonempty α := by
 obtain ⟨e, w', fr, ⟨x, _⟩, _⟩ := h.run w (fun p hp => by cases hp) hR List.Pairwise.nil (fun p _ q hq => by cases hq) []
 exact ⟨x⟩
theorem xI {α : Type} {P : Program} {f : FuncId} {fn : Func} {code : Code} {vs : List Value} {V : α → Value} {T Rl : Ji} {LL : α → Ji} (hf : P.funcs[f]? = some fn) (hb : fn.body = some code) (hlen : Nat.ble vs.length fn.ntmps = true)
  (h : ∀ w, Has Rl w → HC (cxT P w T Rl fn.ntmps) [] (Vt 0 vs) T (fun _ _ => True) code (bodyPostM (FW none) 0 P fn (fun e w' => ∃ x, e = .returned (V x) ∧ St (cxT P w T Rl fn.ntmps) (LL x) (fun _ _ => True) w'))) : PureT P f vs.toArray V T LL Rl := ⟨fun w hT hR hd hne =>
 (Qo (cxT P w T Rl fn.ntmps) hf hb rfl rfl rfl hlen (St.startT hT hR hd hne) (h w hR)).mono fun _ _ ⟨x, he, hs⟩ => ⟨x, he, by have := hs.keep; simpa [cxT] using this, fun p hp => ⟨(hs.own p hp).1, (hs.own p hp).2.2⟩, hs.distinct⟩⟩
def m1 : Rec := ⟨7, 0, w40, w40, ⟨5, 0, 0, 0⟩, 3, 0, 0⟩
def m2 : Rec := ⟨7, 0, w40, ⟨1, 0, 0, 0⟩, w40, 3, 0, 0⟩
def m3 : Rec := ⟨7, 0, w40, ⟨1, 0, 0, 0⟩, w40, 3, 0, 1⟩
def qu (k v : Int) : Int × Int × Bool :=
 if k = 1 then (if v = 4 then (5, 5, true) else (0, 5, (v == 0 || v == 1 || v == 2 || v == 126)))
 else if k = 2 then (if v = 2 then (2, 5, true) else (v, v, (v == 0 || v == 1)))
 else if k = 3 then (IntKind.i64.wrap (3 * v), 5, (v == 0 || v == 1))
 else if k = 4 then (IntKind.i64.wrap (2 * v), 5, (v == 0 || v == 2))
 else if k = 5 then (IntKind.i64.wrap (5 * v), IntKind.i64.wrap (4 + v), (v == 0 || v == 1))
 else (0, 0, false)
def KB (a b : Int) : Value := .agg [.int .i64 a, .int .i64 b].toArray
def xJ (v : Value) : Prop := ∃ a b, v = KB a b
def wm : Value → List Int
 | .agg cs => cs.toList.map fun | .int _ n => n | _ => 0
 | _ => []
def VO (x y : Value) : Bool := decide (wm x = wm y)
theorem yS (a b c d : Int) : VO (KB a b) (KB c d) = (a == c && b == d) := by
 unfold VO KB wm
 by_cases h1 : a = c <;> by_cases h2 : b = d <;> simp [h1, h2]
theorem Jpv : KeyL Tryz.prog 201 xJ VO where
 now := ⟨_, rfl, fun a b ⟨a1, a2, ha⟩ ⟨b1, b2, hb⟩ => by subst ha hb; exact .inl rfl⟩
 equal := by
  rintro _ _ w ⟨a, b, rfl⟩ ⟨c, d, rfl⟩; rw [yS]
  show (Op.equalIn (9999 + 1) _ (.agg _) (.agg _)).run _ _ = _
  rw [run_equalIn_struct w 9999 _ _ _ (by kernel_rfl) (by kernel_rfl)]
  simp [go_sem]
  by_cases h1 : a = c <;> by_cases h2 : b = d <;> simp [h1, h2]
 check := by
  rintro _ b w ⟨x, y, rfl⟩; exact ZM (by kernel_rfl) (by simp) b 9998 w
def tableKV : List (Value × Value) :=
 [(KB 1 0, KB 0 5), (KB 1 1, KB 0 5), (KB 1 2, KB 0 5), (KB 1 126, KB 0 5), (KB 1 4, KB 5 5), (KB 2 0, KB 0 0), (KB 2 1, KB 1 1), (KB 2 2, KB 2 5),
  (KB 3 0, KB 0 5), (KB 3 1, KB 3 5), (KB 4 0, KB 0 5), (KB 4 2, KB 4 5), (KB 5 0, KB 0 4), (KB 5 1, KB 5 5)]
def J0u : Type := { p : Nat × Array MapEntry // (p.2.toList.map QS).Perm tableKV ∧ p.2.toList.map (·.born) = List.range p.2.size }
theorem Zm : PureE (α := J0u) Tryz.prog 172 [].toArray (fun x => .map (some x.1.1)) (fun x => [(x.1.1, .map x.1.2 x.1.2.size)]) := by
 refine JX Tryz.func172 rfl rfl fun w => ?_; refine JB ?_; refine JP 6 rfl ?_; refine Ji0 (t := 198) 1 [(1, 2, .agg [.int .i64 1, .int .i64 0].toArray), (2, 3, .agg [.int .i64 0, .int .i64 5].toArray), (4, 4, .agg [.int .i64 1, .int .i64 1].toArray), (5, 5, .agg [.int .i64 0, .int .i64 5].toArray), (7, 6, .agg [.int .i64 1, .int .i64 2].toArray), (8, 7, .agg [.int .i64 0, .int .i64 5].toArray), (10, 8, .agg [.int .i64 1, .int .i64 126].toArray), (11, 9, .agg [.int .i64 0, .int .i64 5].toArray), (13, 10, .agg [.int .i64 1, .int .i64 4].toArray), (14, 11, .agg [.int .i64 5, .int .i64 5].toArray), (16, 12, .agg [.int .i64 2, .int .i64 0].toArray), (17, 13, .agg [.int .i64 0, .int .i64 0].toArray), (19, 14, .agg [.int .i64 2, .int .i64 1].toArray), (20, 15, .agg [.int .i64 1, .int .i64 1].toArray), (22, 16, .agg [.int .i64 2, .int .i64 2].toArray), (23, 17, .agg [.int .i64 2, .int .i64 5].toArray), (25, 18, .agg [.int .i64 3, .int .i64 0].toArray), (26, 19, .agg [.int .i64 0, .int .i64 5].toArray), (28, 20, .agg [.int .i64 3, .int .i64 1].toArray), (29, 21, .agg [.int .i64 3, .int .i64 5].toArray), (31, 22, .agg [.int .i64 4, .int .i64 0].toArray), (32, 23, .agg [.int .i64 0, .int .i64 5].toArray), (34, 24, .agg [.int .i64 4, .int .i64 2].toArray), (35, 25, .agg [.int .i64 4, .int .i64 5].toArray), (37, 26, .agg [.int .i64 5, .int .i64 0].toArray), (38, 27, .agg [.int .i64 0, .int .i64 4].toArray), (40, 28, .agg [.int .i64 5, .int .i64 1].toArray), (41, 29, .agg [.int .i64 5, .int .i64 5].toArray)] [(3, .agg [.int .i64 1, .int .i64 0].toArray, .agg [.int .i64 0, .int .i64 5].toArray), (6, .agg [.int .i64 1, .int .i64 1].toArray, .agg [.int .i64 0, .int .i64 5].toArray), (9, .agg [.int .i64 1, .int .i64 2].toArray, .agg [.int .i64 0, .int .i64 5].toArray), (12, .agg [.int .i64 1, .int .i64 126].toArray, .agg [.int .i64 0, .int .i64 5].toArray), (15, .agg [.int .i64 1, .int .i64 4].toArray, .agg [.int .i64 5, .int .i64 5].toArray), (18, .agg [.int .i64 2, .int .i64 0].toArray, .agg [.int .i64 0, .int .i64 0].toArray), (21, .agg [.int .i64 2, .int .i64 1].toArray, .agg [.int .i64 1, .int .i64 1].toArray), (24, .agg [.int .i64 2, .int .i64 2].toArray, .agg [.int .i64 2, .int .i64 5].toArray), (27, .agg [.int .i64 3, .int .i64 0].toArray, .agg [.int .i64 0, .int .i64 5].toArray), (30, .agg [.int .i64 3, .int .i64 1].toArray, .agg [.int .i64 3, .int .i64 5].toArray), (33, .agg [.int .i64 4, .int .i64 0].toArray, .agg [.int .i64 0, .int .i64 5].toArray), (36, .agg [.int .i64 4, .int .i64 2].toArray, .agg [.int .i64 4, .int .i64 5].toArray), (39, .agg [.int .i64 5, .int .i64 0].toArray, .agg [.int .i64 0, .int .i64 4].toArray), (42, .agg [.int .i64 5, .int .i64 1].toArray, .agg [.int .i64 5, .int .i64 5].toArray)] [(43, 30), (44, 0)] [] Jpv rfl (by kernel_rfl) ?hops (by kernel_rfl) rfl (by decide) rfl (fun i v h => by cases h) (by decide) rfl (by simp only [List.forall_mem_cons]; exact ⟨⟨_, _, rfl⟩, ⟨_, _, rfl⟩, ⟨_, _, rfl⟩, ⟨_, _, rfl⟩, ⟨_, _, rfl⟩, ⟨_, _, rfl⟩, ⟨_, _, rfl⟩, ⟨_, _, rfl⟩, ⟨_, _, rfl⟩, ⟨_, _, rfl⟩, ⟨_, _, rfl⟩, ⟨_, _, rfl⟩, ⟨_, _, rfl⟩, ⟨_, _, rfl⟩, by simp⟩) (by decide) ?_
 case hops =>
  intro i o h
  match i, h with
  | 0, h => cases Option.some.inj h; exact MLit.mk
  | 1, h => cases Option.some.inj h; exact MLit.pure (s := 2) (v := .agg [.int .i64 1, .int .i64 0].toArray) (Jn (n := 0) rfl) rfl rfl rfl (Js (r := [_, _]) rfl rfl)
  | 2, h => cases Option.some.inj h; exact MLit.pure (s := 3) (v := .agg [.int .i64 0, .int .i64 5].toArray) (Jn (n := 1) rfl) rfl rfl rfl (Js (r := [_, _]) rfl rfl)
  | 3, h => cases Option.some.inj h; exact MLit.ins (j1 := 1) (j2 := 2) (k := .agg [.int .i64 1, .int .i64 0].toArray) (v := .agg [.int .i64 0, .int .i64 5].toArray) (Jn (n := 0) rfl) (Jn (n := 0) rfl) (Jn (n := 1) rfl) rfl rfl rfl
  | 4, h => cases Option.some.inj h; exact MLit.pure (s := 4) (v := .agg [.int .i64 1, .int .i64 1].toArray) (Jn (n := 2) rfl) rfl rfl rfl (Js (r := [_, _]) rfl rfl)
  | 5, h => cases Option.some.inj h; exact MLit.pure (s := 5) (v := .agg [.int .i64 0, .int .i64 5].toArray) (Jn (n := 3) rfl) rfl rfl rfl (Js (r := [_, _]) rfl rfl)
  | 6, h => cases Option.some.inj h; exact MLit.ins (j1 := 4) (j2 := 5) (k := .agg [.int .i64 1, .int .i64 1].toArray) (v := .agg [.int .i64 0, .int .i64 5].toArray) (Jn (n := 1) rfl) (Jn (n := 2) rfl) (Jn (n := 3) rfl) rfl rfl rfl
  | 7, h => cases Option.some.inj h; exact MLit.pure (s := 6) (v := .agg [.int .i64 1, .int .i64 2].toArray) (Jn (n := 4) rfl) rfl rfl rfl (Js (r := [_, _]) rfl rfl)
  | 8, h => cases Option.some.inj h; exact MLit.pure (s := 7) (v := .agg [.int .i64 0, .int .i64 5].toArray) (Jn (n := 5) rfl) rfl rfl rfl (Js (r := [_, _]) rfl rfl)
  | 9, h => cases Option.some.inj h; exact MLit.ins (j1 := 7) (j2 := 8) (k := .agg [.int .i64 1, .int .i64 2].toArray) (v := .agg [.int .i64 0, .int .i64 5].toArray) (Jn (n := 2) rfl) (Jn (n := 4) rfl) (Jn (n := 5) rfl) rfl rfl rfl
  | 10, h => cases Option.some.inj h; exact MLit.pure (s := 8) (v := .agg [.int .i64 1, .int .i64 126].toArray) (Jn (n := 6) rfl) rfl rfl rfl (Js (r := [_, _]) rfl rfl)
  | 11, h => cases Option.some.inj h; exact MLit.pure (s := 9) (v := .agg [.int .i64 0, .int .i64 5].toArray) (Jn (n := 7) rfl) rfl rfl rfl (Js (r := [_, _]) rfl rfl)
  | 12, h => cases Option.some.inj h; exact MLit.ins (j1 := 10) (j2 := 11) (k := .agg [.int .i64 1, .int .i64 126].toArray) (v := .agg [.int .i64 0, .int .i64 5].toArray) (Jn (n := 3) rfl) (Jn (n := 6) rfl) (Jn (n := 7) rfl) rfl rfl rfl
  | 13, h => cases Option.some.inj h; exact MLit.pure (s := 10) (v := .agg [.int .i64 1, .int .i64 4].toArray) (Jn (n := 8) rfl) rfl rfl rfl (Js (r := [_, _]) rfl rfl)
  | 14, h => cases Option.some.inj h; exact MLit.pure (s := 11) (v := .agg [.int .i64 5, .int .i64 5].toArray) (Jn (n := 9) rfl) rfl rfl rfl (Js (r := [_, _]) rfl rfl)
  | 15, h => cases Option.some.inj h; exact MLit.ins (j1 := 13) (j2 := 14) (k := .agg [.int .i64 1, .int .i64 4].toArray) (v := .agg [.int .i64 5, .int .i64 5].toArray) (Jn (n := 4) rfl) (Jn (n := 8) rfl) (Jn (n := 9) rfl) rfl rfl rfl
  | 16, h => cases Option.some.inj h; exact MLit.pure (s := 12) (v := .agg [.int .i64 2, .int .i64 0].toArray) (Jn (n := 10) rfl) rfl rfl rfl (Js (r := [_, _]) rfl rfl)
  | 17, h => cases Option.some.inj h; exact MLit.pure (s := 13) (v := .agg [.int .i64 0, .int .i64 0].toArray) (Jn (n := 11) rfl) rfl rfl rfl (Js (r := [_, _]) rfl rfl)
  | 18, h => cases Option.some.inj h; exact MLit.ins (j1 := 16) (j2 := 17) (k := .agg [.int .i64 2, .int .i64 0].toArray) (v := .agg [.int .i64 0, .int .i64 0].toArray) (Jn (n := 5) rfl) (Jn (n := 10) rfl) (Jn (n := 11) rfl) rfl rfl rfl
  | 19, h => cases Option.some.inj h; exact MLit.pure (s := 14) (v := .agg [.int .i64 2, .int .i64 1].toArray) (Jn (n := 12) rfl) rfl rfl rfl (Js (r := [_, _]) rfl rfl)
  | 20, h => cases Option.some.inj h; exact MLit.pure (s := 15) (v := .agg [.int .i64 1, .int .i64 1].toArray) (Jn (n := 13) rfl) rfl rfl rfl (Js (r := [_, _]) rfl rfl)
  | 21, h => cases Option.some.inj h; exact MLit.ins (j1 := 19) (j2 := 20) (k := .agg [.int .i64 2, .int .i64 1].toArray) (v := .agg [.int .i64 1, .int .i64 1].toArray) (Jn (n := 6) rfl) (Jn (n := 12) rfl) (Jn (n := 13) rfl) rfl rfl rfl
  | 22, h => cases Option.some.inj h; exact MLit.pure (s := 16) (v := .agg [.int .i64 2, .int .i64 2].toArray) (Jn (n := 14) rfl) rfl rfl rfl (Js (r := [_, _]) rfl rfl)
  | 23, h => cases Option.some.inj h; exact MLit.pure (s := 17) (v := .agg [.int .i64 2, .int .i64 5].toArray) (Jn (n := 15) rfl) rfl rfl rfl (Js (r := [_, _]) rfl rfl)
  | 24, h => cases Option.some.inj h; exact MLit.ins (j1 := 22) (j2 := 23) (k := .agg [.int .i64 2, .int .i64 2].toArray) (v := .agg [.int .i64 2, .int .i64 5].toArray) (Jn (n := 7) rfl) (Jn (n := 14) rfl) (Jn (n := 15) rfl) rfl rfl rfl
  | 25, h => cases Option.some.inj h; exact MLit.pure (s := 18) (v := .agg [.int .i64 3, .int .i64 0].toArray) (Jn (n := 16) rfl) rfl rfl rfl (Js (r := [_, _]) rfl rfl)
  | 26, h => cases Option.some.inj h; exact MLit.pure (s := 19) (v := .agg [.int .i64 0, .int .i64 5].toArray) (Jn (n := 17) rfl) rfl rfl rfl (Js (r := [_, _]) rfl rfl)
  | 27, h => cases Option.some.inj h; exact MLit.ins (j1 := 25) (j2 := 26) (k := .agg [.int .i64 3, .int .i64 0].toArray) (v := .agg [.int .i64 0, .int .i64 5].toArray) (Jn (n := 8) rfl) (Jn (n := 16) rfl) (Jn (n := 17) rfl) rfl rfl rfl
  | 28, h => cases Option.some.inj h; exact MLit.pure (s := 20) (v := .agg [.int .i64 3, .int .i64 1].toArray) (Jn (n := 18) rfl) rfl rfl rfl (Js (r := [_, _]) rfl rfl)
  | 29, h => cases Option.some.inj h; exact MLit.pure (s := 21) (v := .agg [.int .i64 3, .int .i64 5].toArray) (Jn (n := 19) rfl) rfl rfl rfl (Js (r := [_, _]) rfl rfl)
  | 30, h => cases Option.some.inj h; exact MLit.ins (j1 := 28) (j2 := 29) (k := .agg [.int .i64 3, .int .i64 1].toArray) (v := .agg [.int .i64 3, .int .i64 5].toArray) (Jn (n := 9) rfl) (Jn (n := 18) rfl) (Jn (n := 19) rfl) rfl rfl rfl
  | 31, h => cases Option.some.inj h; exact MLit.pure (s := 22) (v := .agg [.int .i64 4, .int .i64 0].toArray) (Jn (n := 20) rfl) rfl rfl rfl (Js (r := [_, _]) rfl rfl)
  | 32, h => cases Option.some.inj h; exact MLit.pure (s := 23) (v := .agg [.int .i64 0, .int .i64 5].toArray) (Jn (n := 21) rfl) rfl rfl rfl (Js (r := [_, _]) rfl rfl)
  | 33, h => cases Option.some.inj h; exact MLit.ins (j1 := 31) (j2 := 32) (k := .agg [.int .i64 4, .int .i64 0].toArray) (v := .agg [.int .i64 0, .int .i64 5].toArray) (Jn (n := 10) rfl) (Jn (n := 20) rfl) (Jn (n := 21) rfl) rfl rfl rfl
  | 34, h => cases Option.some.inj h; exact MLit.pure (s := 24) (v := .agg [.int .i64 4, .int .i64 2].toArray) (Jn (n := 22) rfl) rfl rfl rfl (Js (r := [_, _]) rfl rfl)
  | 35, h => cases Option.some.inj h; exact MLit.pure (s := 25) (v := .agg [.int .i64 4, .int .i64 5].toArray) (Jn (n := 23) rfl) rfl rfl rfl (Js (r := [_, _]) rfl rfl)
  | 36, h => cases Option.some.inj h; exact MLit.ins (j1 := 34) (j2 := 35) (k := .agg [.int .i64 4, .int .i64 2].toArray) (v := .agg [.int .i64 4, .int .i64 5].toArray) (Jn (n := 11) rfl) (Jn (n := 22) rfl) (Jn (n := 23) rfl) rfl rfl rfl
  | 37, h => cases Option.some.inj h; exact MLit.pure (s := 26) (v := .agg [.int .i64 5, .int .i64 0].toArray) (Jn (n := 24) rfl) rfl rfl rfl (Js (r := [_, _]) rfl rfl)
  | 38, h => cases Option.some.inj h; exact MLit.pure (s := 27) (v := .agg [.int .i64 0, .int .i64 4].toArray) (Jn (n := 25) rfl) rfl rfl rfl (Js (r := [_, _]) rfl rfl)
  | 39, h => cases Option.some.inj h; exact MLit.ins (j1 := 37) (j2 := 38) (k := .agg [.int .i64 5, .int .i64 0].toArray) (v := .agg [.int .i64 0, .int .i64 4].toArray) (Jn (n := 12) rfl) (Jn (n := 24) rfl) (Jn (n := 25) rfl) rfl rfl rfl
  | 40, h => cases Option.some.inj h; exact MLit.pure (s := 28) (v := .agg [.int .i64 5, .int .i64 1].toArray) (Jn (n := 26) rfl) rfl rfl rfl (Js (r := [_, _]) rfl rfl)
  | 41, h => cases Option.some.inj h; exact MLit.pure (s := 29) (v := .agg [.int .i64 5, .int .i64 5].toArray) (Jn (n := 27) rfl) rfl rfl rfl (Js (r := [_, _]) rfl rfl)
  | 42, h => cases Option.some.inj h; exact MLit.ins (j1 := 40) (j2 := 41) (k := .agg [.int .i64 5, .int .i64 1].toArray) (v := .agg [.int .i64 5, .int .i64 5].toArray) (Jn (n := 13) rfl) (Jn (n := 26) rfl) (Jn (n := 27) rfl) rfl rfl rfl
  | 43, h => cases Option.some.inj h; exact MLit.mv (s := 30) (x := 1) (Jn (n := 0) rfl) rfl rfl (Or.inl rfl) rfl (Or.inl rfl)
  | 44, h => cases Option.some.inj h; exact MLit.mv (s := 0) (x := 30) (Jn (n := 1) rfl) rfl rfl (Or.inr rfl) rfl (Or.inr ⟨43, Jn (n := 0) rfl, rfl⟩)
  | n + 45, h => simp at h
 intro mr mes hmes hborn; refine Zx 2 rfl ?_; refine pT rfl rfl rfl fun w1 hs1 => ?_; exact ⟨⟨(mr, mes), hmes, hborn⟩, rfl, hs1⟩
def okI (k v : Int) : Bool := (qu k v).2.2
def loI (k v : Int) : Int := if okI k v then (qu k v).1 else 0
def hiI (k v : Int) : Int := if okI k v then (qu k v).2.1 else 0
theorem xK {x y z : Value} (h1 : VO x y = true) (h2 : VO x z = true) : VO y z = true := by
 unfold VO at *
 simp only [decide_eq_true_eq] at *; rw [← h1, h2]
theorem table_dist : tableKV.Pairwise fun p q => VO p.1 q.1 = false := by decide
theorem Jfa : ∀ p ∈ tableKV, xJ p.1 := by
 unfold tableKV
 simp only [List.forall_mem_cons]; exact ⟨⟨_, _, rfl⟩, ⟨_, _, rfl⟩, ⟨_, _, rfl⟩, ⟨_, _, rfl⟩, ⟨_, _, rfl⟩, ⟨_, _, rfl⟩, ⟨_, _, rfl⟩, ⟨_, _, rfl⟩, ⟨_, _, rfl⟩, ⟨_, _, rfl⟩, ⟨_, _, rfl⟩, ⟨_, _, rfl⟩, ⟨_, _, rfl⟩, ⟨_, _, rfl⟩, by simp⟩
theorem Jfb (k v : Int) : Kp VO (KB k v) tableKV = if okI k v then some (KB (loI k v) (hiI k v)) else none := by
 simp only [tableKV, Kp, yS, loI, hiI, okI, qu]
 by_cases h1 : k = 1
 ·subst h1; by_cases a0 : v = 0 <;> by_cases a1 : v = 1 <;> by_cases a2 : v = 2 <;> by_cases a3 : v = 126 <;> by_cases a4 : v = 4 <;> simp_all
 ·by_cases h2 : k = 2
  ·subst h2; by_cases a0 : v = 0 <;> by_cases a1 : v = 1 <;> by_cases a2 : v = 2 <;> simp_all
  ·by_cases h3 : k = 3
   ·subst h3; by_cases a0 : v = 0 <;> by_cases a1 : v = 1 <;> simp_all <;> rfl
   ·by_cases h4 : k = 4
    ·subst h4; by_cases a0 : v = 0 <;> by_cases a1 : v = 2 <;> simp_all <;> rfl
    ·by_cases h5 : k = 5
     ·subst h5; by_cases a0 : v = 0 <;> by_cases a1 : v = 1 <;> simp_all <;> rfl
     ·simp_all
theorem Jkf {kv : List (Value × Value)} (hp : kv.Perm tableKV) (k v : Int) : Kp VO (KB k v) kv = if okI k v then some (KB (loI k v) (hiI k v)) else none := by
 rw [← Jfb, Jap hp.symm]; refine table_dist.imp fun {p q} h ⟨h1, h2⟩ => ?_; rw [xK h1 h2] at h; cases h
theorem Jkg {kv : List (Value × Value)} (hp : kv.Perm tableKV) (k v : Int) :
  (if true = true then Value.tuple #[((Kp VO (KB k v) kv).getD (KB 0 0)), .bool (Kp VO (KB k v) kv).isSome] else (Kp VO (KB k v) kv).getD (KB 0 0)) =
   .tuple #[.agg [.int .i64 (loI k v), .int .i64 (hiI k v)].toArray, .bool (okI k v)] := by
 rw [Jkf hp, if_pos rfl]
 cases h : okI k v <;> simp [loI, hiI, KB, h]
theorem yT {mes : Array MapEntry} (hp : (mes.toList.map QS).Perm tableKV) : ∀ e ∈ mes.toList, xJ e.key := fun e he =>
 Jfa (QS e) (hp.subset (List.mem_map_of_mem he))
theorem wO (f k v : Int) : Pure Tryz.prog 105 [.int .i64 f, .int .i64 k, .int .i64 v].toArray (.bool (okI k v && decide (f ≥ loI k v) && decide (f ≤ hiI k v))) := by
 refine Jl Tryz.func105 rfl rfl fun w => ?_; refine JB ?_; refine Jq 7 rfl ?_; refine JR rfl rfl rfl (enters_of Tryz.func172 (by kernel_rfl) rfl) Zm fun x1 => ?_
 obtain ⟨⟨mr, mes⟩, hmes, hborn⟩ := x1
 change HL _ _ _ [(mr, .map mes mes.size)] _ _ _ _; refine LS 2 [] rfl rfl ?_; refine LR rfl (Js (r := [_, _]) rfl rfl) ?_; refine LR rfl (WI Jpv rfl rfl (kn 0 rfl) rfl rfl ⟨_, _, rfl⟩ (yT hmes) (Jkg hmes k v)) ?_; refine LS 3 [] rfl rfl ?_; refine LN rfl fun r1 => ?_
 refine LT 0 rfl rfl ?_; refine JG 7 rfl ?_
 refine J7 18 rfl (fun gb => ?_) (fun gb => ?_) <;> (try simp only [ZZ] at gb) <;> first | (refine QI rfl ?_) | (refine LK rfl ?_)
 all_goals first | refine LR rfl (JE rfl rfl rfl) ?_ | refine LK rfl ?_
 all_goals refine LW 4 [0] rfl rfl ?_
 all_goals first | refine LK rfl ?_ | (refine J7 24 rfl (fun gb => ?_) (fun gb => ?_) <;> (try simp only [ZZ] at gb) <;> first | (refine QI rfl ?_) | (refine LK rfl ?_))
 all_goals first | refine LR rfl (JE rfl rfl rfl) ?_ | refine LK rfl ?_
 all_goals (
  refine LW 4 [0] rfl rfl (Jy 1 rfl (Zx 2 rfl ?_)); refine pT rfl rfl rfl fun w1 hs1 => ?_; exact ⟨by (try simp_all [J8]); try omega, hs1.keep⟩
  skip)
def Jxm (v : Value) : Int := (wm v).headD 0
def Jzj (v : Value) : Int := ((wm v).drop 1).headD 0
theorem Jui (a b : Int) : Jxm (.agg [.int .i64 a, .int .i64 b].toArray) = a := rfl
theorem Juj (a b : Int) : Jzj (.agg [.int .i64 a, .int .i64 b].toArray) = b := rfl
def VP (k : Int) (l : List (Value × Value)) : List Int := (l.filter fun p => Jxm p.1 == k).map fun p => Jzj p.1
def wn (k : Int) (l : List MapEntry) : List Int := VP k (l.map QS)
theorem Jfc {k : Int} {l : List MapEntry} {e : MapEntry} {a b : Int} (h : e.key = .agg [.int .i64 a, .int .i64 b].toArray) : wn k (l ++ [e]) = wn k l ++ (if a = k then [b] else []) := by
 simp only [wn, VP, List.map_append, List.filter_append, List.map_cons, List.map_nil, QS, h, List.filter_cons, Jui, List.filter_nil]
 by_cases hk : a = k <;> simp [hk, Juj]
theorem wo (k : Int) (l : List (Value × Value)) : (VP k l).length ≤ l.length := by
 unfold VP; rw [List.length_map]; exact List.length_filter_le _ _
theorem qv {k : Int} {l l' : List (Value × Value)} (h : l.Perm l') : (VP k l).Perm (VP k l') := (h.filter _).map _
def nxV (ys : List Int) (v : List Value) (ys' : List Int) : Prop := ∃ x, v = [.int .i64 x] ∧ ys' = ys ++ [x] ∧ ys.length < 14
def fiV (k : Int) (ys : List Int) : Prop := ys.Perm (VP k tableKV)
theorem Jfd (k : Int) (p : Nat) : ZL Tryz.prog 171 [.pointer (some ⟨p, 0, none⟩)] [(p, .cells #[.int .i64 k] 3 (0, 0))] ([] : List Int) nxV (fiV k) := by
  refine QT Tryz.func171 rfl rfl fun q xids w2 XI XF hY => ?_; refine JB ?_; refine Jq 2 rfl ?_; refine JR rfl rfl rfl (enters_of Tryz.func172 (by kernel_rfl) rfl) Zm fun x1 => ?_
  obtain ⟨⟨mr, mes⟩, hmes, hborn⟩ := x1
  change HL _ _ _ [(mr, .map mes mes.size)] _ _ _ _
  have hnd : (mes.toList.map (·.born)).Nodup := by rw [show mes.toList.map (·.born) = List.range mes.size from hborn]; exact List.nodup_range
  have hlt : ∀ e ∈ mes.toList, e.born < mes.size := fun e he => List.mem_range.1 (by rw [← show mes.toList.map (·.born) = List.range mes.size from hborn]; exact List.mem_map_of_mem (f := (·.born)) he)
  have h14 : mes.toList.length = 14 := by have := List.Perm.length_eq (show (mes.toList.map QS).Perm tableKV from hmes); rw [List.length_map] at this; exact this
  refine Jaq (c := ⟨Tryz.prog, none, w2, [], xids, _, _⟩) rfl rfl rfl (kn 0 rfl) rfl fun qi => ?_; refine JM 3 rfl ?_; refine Jz (σ := List MapEntry × Array Nat) (fun s => (s.1 ++ KF mes.toList s.2).Perm mes.toList) (fun _ => [(0, .func (.yield q) #[] #[]), (1, .pointer (some ⟨p, 0, none⟩)), (5, .pointer (some ⟨qi, 0, none⟩))]) (fun s => [(qi, .mapIter (some mr) mes.size s.2 mes.size), (mr, .map mes mes.size)]) (fun s => XI (wn k s.1)) (fun s => (KF mes.toList s.2).length) ([], #[]) (by rw [Ji1]; exact List.Perm.refl _) (lK rfl) (List.Sublist.refl _) (fun _ _ h => h) ?_; rintro ⟨done, seen⟩ hI; simp only at hI; refine Jq 2 rfl ?_; refine Jq9 (k := 0) rfl rfl rfl rfl (kn 1 rfl) hlt (fun hleft => ?_) (fun e he L1 hL1 => ?_)
  all_goals try (simp only [List.set_cons_zero] at hL1; subst hL1)
  all_goals (
   refine LR rfl (Kg rfl rfl) (Jy 1 rfl (Zr 2 rfl ?_)); refine J1 rfl (fun g => ?_) (fun g => ?_)
   · try exact Bool.noConfusion g
     all_goals try simp only [ZZ] at g
     all_goals (
      refine Jq 5 rfl ?_
      obtain ⟨ka, kb, hab⟩ : xJ e.key := yT hmes e (Jas he)
      refine LR rfl (Jra rfl (kn 0 rfl) (kn 1 rfl) hnd (Jas he)) ?_; refine J3 (show _ = Value.tuple #[.agg [.int .i64 ka, .int .i64 kb].toArray, e.val] from by rw [hab]; rfl) ?_; refine LR rfl (Kg rfl rfl) ?_; refine LN rfl fun r1 => ?_
      refine Qz (k := 0) (n := 2) (cs' := #[_, _]) (vs := #[_, _]) rfl rfl rfl rfl rfl rfl rfl (by exact Nat.le_of_ble_eq_true rfl) rfl (by first | (simp only [List.set_cons_zero, List.set_cons_succ]; exact rfl) | exact rfl) ?_; refine JG 4 rfl ?_
      refine LR rfl (QQ rfl rfl (by first | (simp only [Nat.zero_add, Nat.reduceAdd, Nat.reduceMul, Nat.zero_mul, Nat.mul_one, Nat.add_zero]; exact rfl) | exact rfl)) ?_; refine LR rfl (Jd rfl (kn 0 rfl) rfl rfl) ?_; refine LR rfl (Jd rfl (Jx (k := 0) rfl) rfl rfl) ?_; refine JG 2 rfl ?_
      refine J7 14 rfl (fun gb => ?_) (fun gb => ?_) <;> (try simp only [ZZ] at gb) <;> first | (refine QI rfl ?_) | (refine LK rfl ?_)
      all_goals first | (refine LR rfl (QQ rfl rfl (by first | (simp only [Nat.zero_add, Nat.reduceAdd, Nat.reduceMul, Nat.zero_mul, Nat.mul_one, Nat.add_zero]; exact rfl) | exact rfl)) ?_) | refine LK rfl ?_
      all_goals first | refine LR rfl (Jd rfl (kn 0 rfl) rfl rfl) ?_ | refine LK rfl ?_
      all_goals first | (refine Vk (XT := XI (wn k done ++ [kb])) (XF := XF) rfl rfl rfl rfl (hY _ _ _ ⟨kb, rfl, rfl, by have h1 := (j3 hnd he hI).2.2; have h2 := wo k (done.map QS); rw [List.length_map] at h2; show (VP k (done.map QS)).length < 14; omega⟩) ?_ ?_) | (refine LK rfl ?_)
      all_goals first | refine Wi rfl ?_ | refine LK rfl ?_
      all_goals first | refine LR rfl (ZC rfl rfl) ?_ | refine LR rfl (ZD rfl rfl) ?_
      all_goals (
       refine Jy 1 rfl (Zr 1 rfl ?_); refine J1 rfl (fun g => ?_) (fun g => ?_)
       · try exact Bool.noConfusion g
         all_goals try simp only [ZZ] at g
         all_goals (
          refine Km 4 rfl ?_; refine Jh rfl rfl .nil (fun w1 hs1 => ?_)
          obtain ⟨xs1, hx1⟩ := hs1.now
          exact ⟨⟨_, rfl⟩, hs1.keep, .inr ⟨_, hx1⟩⟩
          skip)
       · try exact Bool.noConfusion g
         all_goals try simp only [ZZ] at g
         all_goals (
          refine Km 2 rfl ?_; refine Jw ?_; exact Jt (done ++ [e], seen.push e.born) (j3 hnd he hI).1 (j3 hnd he hI).2.1 (lK rfl) (.cons _ (List.Sublist.refl _)) (fun _ w h => by simp only [Jfc hab]; simp_all)
          skip)
       skip)
      skip)
   · try exact Bool.noConfusion g
     all_goals try simp only [ZZ] at g
     all_goals (
      refine Km 4 rfl ?_; refine Kj rfl rfl .nil (fun w1 hs1 => ?_)
      obtain ⟨xs1, hx1⟩ := hs1.now
      exact ⟨⟨_, rfl⟩, hs1.keep, .inl ⟨_, _, by rw [hleft, List.append_nil] at hI; exact (qv (hI.map QS)).trans (qv hmes), hx1⟩⟩
      skip)
   skip)
theorem wp : Pure Tryz.prog 174 [.int .u64 0].toArray (.int .i64 0) := ⟨fun w => (Tryz.bits_Len 0 w (by decide) (by decide)).mono fun _ _ ⟨h1, h2⟩ => ⟨h1, h2 ▸ Keep.refl _ _⟩⟩
theorem Jzk : Pure Tryz.prog 225 [.slice none 0 0, .int .i64 0, .int .i64 0].toArray (.tuple #[]) := by
 refine Jl Tryz.func225 rfl rfl fun w => ?_; refine JB ?_; refine Jq 4 rfl ?_; refine Jc (by omega) (by omega) ?_; refine JM 4 rfl ?_; refine Jz (σ := Unit) (fun _ => True) (fun _ => [(2, .int .i64 0), (6, .int .i64 1)]) (fun _ => []) (fun _ _ _ => True) (fun _ => 0) () trivial (lK rfl) (List.nil_sublist _) (fun _ _ h => h) ?_; rintro ⟨⟩ -; refine JP 8 rfl ?_; refine J1 rfl (fun h4 => ?_) (fun h4 => ?_)
 exact absurd h4 (by decide)
 ·try simp only [ZZ] at h4
  refine Km 4 rfl ?_; refine Kj rfl rfl .nil (fun w1 hs1 => ?_); exact ⟨rfl, hs1.keep⟩
theorem Jzl : Pure Tryz.prog 173 [.slice none 0 0, .int .i64 0, .int .i64 0, .int .i64 0].toArray (.tuple #[]) := by
 refine Jl Tryz.func173 rfl rfl fun w => ?_; refine JB ?_; refine JP 11 rfl ?_; refine Jz (σ := Unit) (fun _ => True) (fun _ => [(0, .slice none 0 0), (1, .int .i64 0), (2, .int .i64 0)]) (fun _ => []) (fun _ _ _ => True) (fun _ => 0) () trivial (lK rfl) (List.nil_sublist _) (fun _ _ h => h) ?_; rintro ⟨⟩ -; refine Jq 6 rfl ?_; refine Jc (by omega) (by omega) ?_; refine JM 10 rfl ?_; refine J1 rfl (fun h6 => ?_) (fun h6 => ?_)
 try simp only [ZZ] at h6
 refine Jq 5 rfl ?_; refine Jo rfl rfl rfl (enters_of Tryz.func225 (by kernel_rfl) rfl) Jzk ?_; refine Jy 7 rfl ?_; refine Jh rfl rfl .nil (fun w1 hs1 => ?_); exact ⟨rfl, hs1.keep⟩
 ·exact absurd h6 (by decide)
theorem Jfe : Pure Tryz.prog 106 [.slice none 0 0].toArray (.tuple #[]) := by
 refine Jl Tryz.func106 rfl rfl fun w => ?_; refine JB ?_; refine Jq 3 rfl ?_; refine LR rfl (JQ rfl rfl) ?_; refine JG 8 rfl ?_; refine VW (by omega) (by omega) ?_; refine Jo rfl rfl rfl (enters_of Tryz.func174 (by kernel_rfl) rfl) wp ?_; refine Jo rfl rfl rfl (enters_of Tryz.func173 (by kernel_rfl) rfl) Jzl ?_; refine Jy 1 rfl ?_; refine Kj rfl rfl .nil (fun w1 hs1 => ?_); exact ⟨rfl, hs1.keep⟩
def XY (xs : List Int) : List Int := xs.mergeSort fun x y => decide (x ≤ y)
theorem Jxn {c : Cx} {L : Ji} {X : XP} {k blk cap : Nat} {xs : List Int} {sp : List Value} (hP : c.P = Tryz.prog) (hk : L[k]? = some (blk, .cells (xs.map (Value.int .i64) ++ sp).toArray 3 (0, 0))) (hlen : xs.length < 4611686018427387904) :
  ∀ w, St c L X w → Calls c.P 106 [.slice (some ⟨blk, 0, none⟩) xs.length cap].toArray w fun e w' => ∃ _ : Unit, e = .returned (.tuple #[]) ∧ St c (L.set k (blk, .cells ((XY xs).map (Value.int .i64) ++ sp).toArray 3 (0, 0))) X w' := fun w hs => by
 rw [hP]
 have hb := hs.get hk
 refine (Tryz.slices_Sort_int blk 0 cap xs w (Ji2 hb) (J5 hb) hlen).mono ?_; rintro e w' ⟨rfl, n, os, hw⟩
 obtain ⟨h1, h2⟩ := Jdy (ys := XY xs) (by unfold XY; rw [List.length_mergeSort]) hw hb
 exact ⟨(), rfl, hs.set hk h1 h2⟩
theorem Jff (k : Int) : PureE (α := Nat) Tryz.prog 104 [.int .i64 k].toArray (fun r => .func (.func 171) #[] #[.pointer (some ⟨r, 0, none⟩)]) (fun r => [(r, .cells #[.int .i64 k] 3 (0, 0))]) := by
 refine JX Tryz.func104 rfl rfl fun w => ?_; refine JB ?_; refine Jq 2 rfl ?_; refine LN rfl fun r1 => ?_; refine JG 5 rfl ?_; refine LR rfl (JD rfl rfl) ?_; refine Jy 4 rfl ?_; refine pT rfl rfl rfl fun w1 hs1 => ?_; exact ⟨_, rfl, hs1⟩
def okL (f k v : Int) : Bool := okI k v && decide (f ≥ loI k v) && decide (f ≤ hiI k v)
def Wg (f k : Int) : List Int := XY ((VP k tableKV).filter (okL f k))
section
variable {c : Cx} {l : Kk} {L : Ji} {X : XP} {Q : Exit → Act → World → Prop} {d : List Deferred}
variable {ops : Array Oper} {rest : List Oper} {i : Nat} {ps : String} {af : Array Edge} {gd : Option (Nat × Bool)} {ty : TypeId}
theorem Jfg {f x : Operand} {at_ : Array TypeId} {xs : List Int} {row : QK} {L0 : Ji} (hP : c.P = Tryz.prog) (hp : L.Perm (JH 3 (xs.map (Value.int .i64)) row ++ L0))
  (hg : JV l ops ⟨some i, .call ⟨.value f, #[x], at_⟩, ty, ps, af, gd⟩ = some true) (hi : Nat.ble (i + 1) c.n = true) (hf : JT l f = some (.func (.func 106) #[] #[])) (hx : JT l x = some (J9 xs.length row)) (hok : rowOk 1 xs.length (xs.map (Value.int .i64)) row)
  (hlen : xs.length < 4611686018427387904)
  (h : HL c d ((i, .tuple #[]) :: l) (L0 ++ JH 3 ((XY xs).map (Value.int .i64)) row) X ops rest Q) : HL c d l L X ops (⟨some i, .call ⟨.value f, #[x], at_⟩, ty, ps, af, gd⟩ :: rest) Q := by
 refine Kn hp ?_
 cases row with
 | none =>
  obtain ⟨h1, h2⟩ := hok
  have hxs : xs = [] := by simpa using h2
  subst hxs; refine Jo hg hi ?_ (hP ▸ enters_of Tryz.func106 (by kernel_rfl) rfl) (hP ▸ Jfe) ?_
  ·simp only [Kc, hf, evs, hx]; rfl
  ·simpa [XY, JH] using h
 | some p =>
  obtain ⟨r, cap, sp⟩ := p
  refine WE (α := Unit) (V := fun _ => .tuple #[]) (X' := fun _ => X) (vs := [.slice (some ⟨r, 0, none⟩) xs.length cap]) hg hi ?_ (hP ▸ enters_of Tryz.func106 (by kernel_rfl) rfl) (Jxn (k := 0) (sp := sp) hP rfl hlen) fun _ => ?_
  ·simp only [Kc, hf, evs, hx]; rfl
  ·exact Kn (List.perm_append_comm (l₁ := [_])) h
end
theorem jS (f k : Int) : PureE (α := { row : QK // rowOk 1 (Wg f k).length ((Wg f k).map (Value.int .i64)) row }) Tryz.prog 48 [.int .i64 f, .int .i64 k].toArray (fun r => J9 (Wg f k).length r.1) (fun r => JH 3 ((Wg f k).map (Value.int .i64)) r.1) := by
  refine JX Tryz.func48 rfl rfl fun w => ?_; refine JB ?_; refine Jq 2 rfl ?_; refine LN rfl fun r1 => ?_; refine LN rfl fun r2 => ?_; refine JG 5 rfl ?_; refine LN rfl fun r3 => ?_; refine JG 5 rfl ?_; refine LR rfl (Jd rfl (kn 1 rfl) rfl rfl) ?_; refine JR rfl rfl rfl (enters_of Tryz.func104 (by kernel_rfl) rfl) (Jff k) fun rc => ?_; change HL _ _ _ [(rc, .cells #[.int .i64 k] 3 (0, 0)), (r3, _), (r2, _), (r1, _)] _ _ _ _; refine JM 3 rfl ?_; refine Wl [1, 0, 2, 3] (by decide) rfl ?_; refine WH (τ := Unit) (fun ys (s : List Value × QK) => s.1 = (ys.filter (okL f k)).map (.int .i64) ∧ rowOk 1 s.1.length s.1 s.2 ∧ ys.length ≤ 14) (fun s => (r3, .cells #[J9 s.1.length s.2] 92 (0, 0)) :: JH 3 s.1 s.2) (fun _ _ => False) (fun _ => []) [(rc, _), (r2, _), (r1, _)] ([], none) rfl rfl (enters_of Tryz.func171 (by kernel_rfl) rfl) (Jfd k rc) (by rintro _ _ _ ⟨x, rfl, _⟩; rfl) rfl (by simp) rfl ⟨rfl, ⟨rfl, rfl⟩, by simp⟩ ?_ ?_ ?_
  · rintro q Xr Xb w3 ys _ _ ⟨xs, row⟩ ⟨x, rfl, rfl, hys⟩ ⟨hxs, hrow, -⟩ Kr hKr; refine inR ?_
    simp only at hxs hrow hKr ⊢
    have hn : xs.length ≤ 14 := by rw [hxs, List.length_map]; exact Nat.le_trans (List.length_filter_le _ _) (by omega)
    refine Km 3 rfl ?_; refine hKr _ _ ?_; refine JB ?_; clear hKr; refine Jq 3 rfl ?_; refine LR rfl (Jd rfl (Jx (k := 2) rfl) rfl rfl) ?_; refine LR rfl (Jd rfl (Jx (k := 1) rfl) rfl rfl) ?_; refine QI rfl (Jo rfl rfl rfl (enters_of Tryz.func105 (by kernel_rfl) rfl) (wO ..) (JM 2 rfl ?_)); refine cD (fun g => ?_) fun g => ?_
    · refine XA 3 [0] rfl rfl ?_; refine JK (vs := [_]) (zs := [_]) (r := [_]) rfl rfl rfl rfl rfl rfl rfl rfl rfl (by show (madeCells #[_] _).toList = _; rw [QR]; exact rfl) rfl fun r4 => ?_; refine Kq (L0 := [_, _]) (xs := xs) (row := row) (n := xs.length) (sz := 1) (b := 8) (news := [_]) (List.perm_append_comm (l₁ := [_, _])) rfl rfl rfl rfl (kn 0 rfl) rfl rfl rfl rfl rfl (by decide) rfl rfl rfl (by decide) hrow (by omega) (by omega) fun ra cap sp hra => ?_
      refine LT 2 rfl rfl ?_; refine Jy 2 rfl ?_
      by_cases hlx : okL f k x = true
      · first
        | (refine Qm [2, 0] (L' := [_, _]) (by decide) rfl ?_
           refine Kt (xs ++ [.int .i64 x], some (ra, cap, sp)) ⟨?_, ?_, ?_⟩ ?_
           simp [hxs, List.filter_append, hlx]
           simpa using hra
           simp; omega
           simp [J9, JH])
        | (exfalso; unfold okL at hlx; simp_all; done)
      · first
        | (refine Kt (xs, row) ⟨?_, hrow, ?_⟩ rfl
           simp [hxs, List.filter_append, hlx]
           simp; omega)
        | (exfalso; unfold okL at hlx; simp_all; done)
    · refine Km 2 rfl ?_
      by_cases hlx : okL f k x = true
      · first
        | (refine Qm [2, 0] (L' := [_, _]) (by decide) rfl ?_
           refine Kt (xs ++ [.int .i64 x], some (ra, cap, sp)) ⟨?_, ?_, ?_⟩ ?_
           simp [hxs, List.filter_append, hlx]
           simpa using hra
           simp; omega
           simp [J9, JH])
        | (exfalso; unfold okL at hlx; simp_all; done)
      · first
        | (refine Kt (xs, row) ⟨?_, hrow, ?_⟩ rfl
           simp [hxs, List.filter_append, hlx]
           simp; omega)
        | (exfalso; unfold okL at hlx; simp_all; done)
  rintro D ys ⟨xs, row⟩ hfi ⟨hxs, hrow, hlen⟩
  simp only at hxs hrow ⊢; subst hxs; rw [List.length_map] at hrow ⊢
  have hn : (ys.filter (okL f k)).length ≤ 14 := Nat.le_trans (List.length_filter_le _ _) hlen
  have hv : Wg f k = XY (ys.filter (okL f k)) := (ZO (hfi.filter _)).symm
  refine gqo 4 rfl ?_; refine LR rfl (Jd rfl (kn 1 rfl) rfl rfl) ?_; refine Jfg (L0 := (D, _) :: (r3, _) :: [_, _, _]) rfl ((List.perm_append_comm_assoc [_, _] _ _)) rfl rfl rfl rfl hrow (by omega) ?_; refine Goq 9 [1] rfl rfl ?_; refine KM (k := 0) rfl rfl ?_; refine pT rfl rfl rfl fun w1 hs1 => ?_
  generalize Wg f k = vl at hv ⊢
  subst hv
  have hle : (XY (ys.filter (okL f k))).length = (ys.filter (okL f k)).length := by unfold XY; rw [List.length_mergeSort]
  exact ⟨⟨row, by rw [hle]; exact hrow.same (by simp [hle])⟩, by simp [J8, hle], hs1.weakL (List.sublist_append_right [_, _, _, _, _] _)⟩
  · exact fun _ _ _ h => h.elim
def okR (f k v : Int) : Bool := (qu k v).2.2 && decide ((qu k v).1 ≤ f) && decide (f ≤ (qu k v).2.1)
def Jpw (l : List Int) : Value := if l = [] then .tuple #[.int .i64 0, .int .i64 10] else .tuple #[.int .i64 (l.getD (l.length - 1) 0), .int .i64 0]
theorem Jki {l : List Int} (h : ¬ ((l.length : Nat) : Int) = 0) : (l.map (Value.int .i64))[l.length - 1]? = some (.int .i64 (l.getD (l.length - 1) 0)) := by
 have : l.length - 1 < l.length := by omega
 simp [this, List.getD_eq_getElem?_getD]
theorem Jkj (f k : Int) : (Wg f k).length ≤ 14 := by
 unfold Wg XY
 rw [List.length_mergeSort]; exact Nat.le_trans (List.length_filter_le _ _) (wo k tableKV)
theorem wq (f k : Int) : Pure Tryz.prog 21 [.int .i64 f, .int .i64 k].toArray (Jpw (Wg f k)) := by
  refine Jl Tryz.func21 rfl rfl fun w => ?_; refine JB ?_
  have hlen := Jkj f k
  refine Jq 10 rfl ?_; refine JR rfl rfl rfl (enters_of Tryz.func48 (by kernel_rfl) rfl) (jS f k) fun x1 => ?_
  rcases x1 with ⟨_ | ⟨ra, cap, sp⟩, hrow⟩
  all_goals first | change HL _ _ ((_, .slice none 0 0) :: _) [] _ _ _ _ | change HL _ _ ((_, .slice (some ⟨ra, 0, none⟩) (Wg f k).length cap) :: _) [(ra, .cells ((Wg f k).map (Value.int .i64) ++ sp).toArray 3 (0, 0))] _ _ _ _
  all_goals (
   refine Jy 2 rfl (gqo 5 rfl ?_); refine LR rfl (JQ rfl rfl) ?_; refine JM 3 rfl ?_; refine J1 rfl (fun g => ?_) (fun g => ?_)
   · try simp only [ZZ] at g
     refine Km 8 rfl ?_; refine Jh rfl rfl (.cons (Jj rfl) (.cons (Jj rfl) .nil)) (fun w1 hs1 => ?_); refine ⟨?_, hs1.keep⟩
     (have h0 : Wg f k = [] := by first | exact List.eq_nil_of_length_eq_zero hrow.1 | exact List.eq_nil_of_length_eq_zero (by omega)
      simp [J8, Jpw, h0]; done)
   · try exact Bool.noConfusion g
     all_goals try simp only [ZZ] at g
     all_goals (
      refine Jq 6 rfl ?_; refine LR rfl (JQ rfl rfl) ?_; refine Wi rfl (Jc (by omega) (by omega) (LR rfl (JF (j := (Wg f k).length - 1) (m := 1) (off' := (Wg f k).length - 1) rfl rfl rfl rfl (by omega) (by omega) (by omega)) ?_)); refine LR rfl (Jd rfl (kn 0 rfl) rfl (ZN (Jki (by assumption)))) ?_; refine Jy 5 rfl ?_; refine Jh rfl rfl (.cons (Jj rfl) (.cons (Jj rfl) .nil)) (fun w1 hs1 => ?_); refine ⟨?_, hs1.keep⟩
      (have h0 : Wg f k ≠ [] := fun h => by simp_all
       simp [J8, Jpw, h0])
      skip)
   skip)
def qw (k : Int) : List Int := if k = 1 then [0, 1, 2, 4, 126] else if k = 2 then [0, 1, 2] else if k = 3 then [0, 1] else if k = 4 then [0, 2] else if k = 5 then [0, 1] else []
def vl (f k : Int) : List Int := (qw k).filter (okR f k)
theorem Jfh (f k v : Int) : okL f k v = okR f k v := by
 unfold okL okR loI hiI okI
 cases h : (qu k v).2.2 <;> simp
theorem Jkk (k : Int) : (VP k tableKV).Perm (qw k) := by
 by_cases h1 : k = 1
 ·subst h1; decide
 by_cases h2 : k = 2
 ·subst h2; decide
 by_cases h3 : k = 3
 ·subst h3; decide
 by_cases h4 : k = 4
 ·subst h4; decide
 by_cases h5 : k = 5
 ·subst h5; decide
 have e1 : qw k = [] := by simp [qw, h1, h2, h3, h4, h5]
 have e2 : VP k tableKV = [] := by
  have a1 : (1 == k) = false := by simpa using Ne.symm h1
  have a2 : (2 == k) = false := by simpa using Ne.symm h2
  have a3 : (3 == k) = false := by simpa using Ne.symm h3
  have a4 : (4 == k) = false := by simpa using Ne.symm h4
  have a5 : (5 == k) = false := by simpa using Ne.symm h5
  have hp : ∀ a b, Jxm (KB a b) = a := fun _ _ => rfl
  simp [VP, tableKV, hp, Ne.symm h1, Ne.symm h2, Ne.symm h3, Ne.symm h4, Ne.symm h5]
 rw [e1, e2]
theorem Jdc (k : Int) : (qw k).Pairwise (fun x y => x < y) := by
 unfold qw
 split
 ·decide
 split
 ·decide
 split
 ·decide
 split
 ·decide
 split
 ·decide
 exact List.Pairwise.nil
theorem Jpx (f k : Int) : Wg f k = vl f k := by
 have h1 : (fun v => okL f k v) = okR f k := funext (Jfh f k)
 unfold Wg vl
 rw [show okL f k = okR f k from h1]; rw [show XY ((VP k tableKV).filter (okR f k)) = XY ((qw k).filter (okR f k)) from ZO ((Jkk k).filter _)]
 unfold XY
 exact List.mergeSort_of_pairwise (((Jdc k).filter _).imp fun h => by simpa using Int.le_of_lt h)
def Jif (l : List Int) : Int := l.getD (l.length - 1) 0
def Jpy (l : List Int) : Int := if l = [] then 10 else 0
def Jxo (l : List Int) : Value := .tuple #[.int .i64 (Jif l), .int .i64 (Jpy l)]
theorem Juk (l : List Int) : Jpw l = Jxo l := by
 unfold Jpw Jxo Jif Jpy
 by_cases h : l = [] <;> simp [h]
theorem Jzm (f k : Int) : Pure Tryz.prog 21 [.int .i64 f, .int .i64 k].toArray (Jxo (vl f k)) := by
 have := wq f k
 rwa [Jpx, Juk] at this
theorem Jxp {f k v : Int} (h : okI k v = true) : okR f k v = (decide (loI k v ≤ f) && decide (f ≤ hiI k v)) := by
 rw [← Jfh]; unfold okL; rw [h]; simp
theorem Jxq {f k v : Int} (h : okI k v = false) : okR f k v = false := by
 rw [← Jfh]; unfold okL; rw [h]; simp
theorem xM {f k v : Int} : okR f k v = true ↔ okI k v = true ∧ loI k v ≤ f ∧ f ≤ hiI k v := by
 cases h : okI k v with
 | true => rw [Jxp h]; simp
 | false => rw [Jxq h]; simp
theorem grow {a b c k v : Int} (h1 : a ≤ b) (h2 : b ≤ c) (ha : okR a k v = true) (hc : okR c k v = true) : okR b k v = true := by
 obtain ⟨a1, a2, a3⟩ := xM.1 ha
 obtain ⟨c1, c2, c3⟩ := xM.1 hc
 exact xM.2 ⟨a1, by omega, by omega⟩
def sV (s : List UInt8) : Value := .string (bs s)
def pV (p : List (List UInt8)) : Value := .agg (p.map sV).toArray
theorem Jdd {p : List (List UInt8)} {j : Nat} (h : j < p.length) : (p.map sV)[j]? = some (.string (bs (p.getD j []))) := by
 simp [h, sV, List.getD_eq_getElem?_getD]
def Jde (p : List (List UInt8)) : Bool := p.all fun x => decide (x.length = 32)
def yU (v : Int) : List UInt8 := YL [v.toNat, 0, 0, 0] 32
def Jdf (v : Int) (n : Nat) : List UInt8 := if v = 1 then ZR n 8 else []
def Wh (v : Int) (p : List (List UInt8)) (n : Nat) : List UInt8 × Int :=
 if v ≠ 0 ∧ v ≠ 1 then ([], 9) else if Jde p = false ∨ (v = 0 ∧ n ≠ 0) then ([], 2) else (yU v ++ p.flatten ++ Jdf v n, 0)
theorem Jxr {v : Int} {p : List (List UInt8)} {n : Nat} (h0 : ¬ v = 0) (h1 : ¬ v = 1) : Wh v p n = ([], 9) := by unfold Wh; rw [if_pos ⟨h0, h1⟩]
theorem Jul {v : Int} {p : List (List UInt8)} {n i : Nat} (h : v = 0 ∨ v = 1) (hi : i < p.length) (hl : ¬ (p.getD i []).length = 32) : Wh v p n = ([], 2) := by
 have ha : Jde p = false := by
  rw [Bool.eq_false_iff]; intro h2
  have := List.all_eq_true.1 h2 (p.getD i []) (by simp [List.getD_eq_getElem?_getD, hi])
  exact hl (of_decide_eq_true this)
 unfold Wh; rw [if_neg (by omega), if_pos (.inl ha)]
theorem Jum {v : Int} {p : List (List UInt8)} {n : Nat} (h : v = 0) (hn : ¬ n = 0) : Wh v p n = ([], 2) := by
 unfold Wh; rw [if_neg (by omega), if_pos (.inr ⟨h, hn⟩)]
theorem Jpz {p : List (List UInt8)} (h : ∀ j, j < p.length → (p.getD j []).length = 32) : Jde p = true := by
 refine List.all_eq_true.2 fun x hx => ?_
 obtain ⟨j, hj, rfl⟩ := List.getElem_of_mem hx
 have := h j hj
 rw [List.getD_eq_getElem?_getD, List.getElem?_eq_getElem hj] at this; exact decide_eq_true this
theorem Jig {v : Int} {p : List (List UInt8)} {n : Nat} (h : v = 0 ∨ v = 1) (ha : ∀ j, j < p.length → (p.getD j []).length = 32) (hn : v = 0 → n = 0) : Wh v p n = (yU v ++ p.flatten ++ Jdf v n, 0) := by
 unfold Wh; rw [if_neg (by omega), if_neg (by rw [Jpz ha]; rintro (h2 | ⟨h2, h3⟩); cases h2; exact h3 (hn h2))]
theorem Zf {p : List (List UInt8)} : ∀ i, i ≤ p.length → (∀ j, j < i → (p.getD j []).length = 32) → (p.take i).flatten.length = 32 * i
 | 0, _, _ => by simp
 | i + 1, hi, h => by
  rw [List.take_succ, List.getElem?_eq_getElem (by omega), List.flatten_append, List.length_append, Zf i (by omega) fun j hj => h j (by omega)]
  have := h i (by omega)
  rw [List.getD_eq_getElem?_getD, List.getElem?_eq_getElem (by omega)] at this; simp at this ⊢; omega
theorem Jkl {p : List (List UInt8)} {i : Nat} (hi : i < p.length) : (p.take (i + 1)).flatten = (p.take i).flatten ++ p.getD i [] := by
 rw [List.take_succ, List.getElem?_eq_getElem hi, List.flatten_append, List.getD_eq_getElem?_getD, List.getElem?_eq_getElem hi]; simp
theorem J0v {n : Nat} (hn : n < 18446744073709551616) : wH n 8 = (ZR n 8, 0) := by
 unfold wH; rw [if_neg (by have := Js2 hn; omega)]; rfl
theorem yV (v : Int) : (yU v).length = 32 := Vs _ _
theorem Jkm {p : List (List UInt8)} (hp : p.length = 3) {n : Nat} (hn : n < 18446744073709551616) (v : Int) : Pure Tryz.prog 49 [.int .i64 v, pV p, uV n].toArray (Yt (Wh v p n)) := by
  refine Jl Tryz.func49 rfl rfl fun w => ?_; refine JB ?_
  have hhl := yV v
  refine Jq 2 rfl ?_; refine Ko (cs := (p.map sV).toArray) rfl rfl rfl rfl fun r1 => ?_; refine JG 10 rfl ?_
  refine J7 14 rfl (fun gb => ?_) (fun gb => ?_) <;> (try simp only [ZZ] at gb) <;> first | (refine QI rfl ?_) | (refine LK rfl ?_)
  all_goals (
   refine LW 2 [] rfl rfl (Jy 1 rfl (Zr 1 rfl ?_)); refine J1 rfl (fun g => ?_) (fun g => ?_)
   · try exact Bool.noConfusion g
     all_goals try simp only [ZZ] at g
     all_goals (
      refine Km 8 rfl ?_; refine Jh rfl rfl (.cons (Jj rfl) (.cons (Jj rfl) .nil)) (fun w1 hs1 => ?_); refine ⟨?_, hs1.keep⟩; rw [Jxr (by omega) (by omega)]; rfl
      skip)
   · try simp only [ZZ] at g
     refine JP 3 rfl ?_
     have hv01 : v = 0 ∨ v = 1 := by omega
     refine Jq 3 rfl ?_; refine J3 (show _ = uV v.toNat from congrArg (Value.int .u64) (by rw [wrap_u64 (by omega) (by omega)]; omega)) ?_; refine Jo rfl rfl rfl qk (V3 v.toNat) ?_; refine Jo rfl rfl rfl Jb2 (QA (l := [v.toNat, 0, 0, 0]) (Jwo (by omega))) ?_; refine J3 (show _ = Value.string (bs (yU v ++ (p.take 0).flatten)) from by simp [yU]) ?_; refine JM 10 rfl ?_; refine Jz (σ := Nat) (fun i => i ≤ p.length ∧ ∀ j, j < i → (p.getD j []).length = 32) (fun i => [(0, .int .i64 v), (2, uV n), (4, .pointer (some ⟨r1, 0, none⟩)), (8, .string (bs (yU v ++ (p.take i).flatten))), (22, .int .i64 (i : Int))]) (fun i => [(r1, .cells (p.map sV).toArray 56 (0, 0))]) (fun _ _ _ => True) (fun i => 3 - i) 0 ⟨Nat.zero_le _, fun j hj => by omega⟩ (lK rfl) (List.Sublist.refl _) (fun _ _ h => h) ?_; rintro i ⟨hi, hall⟩; refine JP 6 rfl ?_; refine cD (fun g => ?_) fun g => ?_
     refine JP 12 rfl ?_
     have hfl := Zf i (by omega) hall
     refine Jq 2 rfl ?_; refine LR rfl (JI (j := i) (m := 1) (off' := i) rfl rfl rfl rfl (by omega) (by omega) (by omega)) ?_; refine LR rfl (KG rfl (kn 0 rfl) rfl (Jdd (by omega))) ?_; refine LR rfl (Qg rfl rfl) ?_; refine JM 3 rfl ?_; refine cD (fun g => ?_) fun g => ?_
     refine Km 13 rfl ?_; refine Jh rfl rfl (.cons (Jj rfl) (.cons (Jj rfl) .nil)) (fun w1 hs1 => ?_); refine ⟨?_, hs1.keep⟩; rw [Jul (i := i) hv01 (by omega) (by omega)]; rfl
     refine Jq 5 rfl ?_; refine LR rfl (JI (j := i) (m := 1) (off' := i) rfl rfl rfl rfl (by omega) (by omega) (by omega)) ?_; refine LR rfl (KG rfl (kn 0 rfl) rfl (Jdd (by omega))) ?_; refine LR rfl (Q0 rfl rfl (by simp only [List.length_append]; omega)) ?_; refine JG 6 rfl ?_; refine Jc (by omega) (by omega) ?_; refine Jy 2 rfl ?_; refine Jw ?_
     exact Jt (i + 1) ⟨by omega, fun j hj => by
       by_cases hji : j = i
       subst hji; omega
       exact hall j (by omega)⟩ (by omega) (.cons rfl (.cons rfl (.cons rfl (.cons (by rw [Jkl (by omega), ← List.append_assoc]; rfl) (.cons rfl .nil))))) (List.Sublist.refl _) (fun _ _ h => h)
     · refine JP 7 rfl ?_
       have hi3 : i = p.length := by omega
       subst hi3
       have hfl := Zf p.length (Nat.le_refl _) hall
       rw [List.take_length] at hfl ⊢; rw [hp] at hfl; refine Jq 4 rfl ?_
       refine J7 38 rfl (fun gb => ?_) (fun gb => ?_) <;> (try simp only [ZZ] at gb) <;> first | (refine QI rfl ?_) | (refine LK rfl ?_)
       all_goals (
        refine LW 2 [] rfl rfl (Jy 1 rfl (Zr 1 rfl ?_)); refine J1 rfl (fun g => ?_) (fun g => ?_)
        · try exact Bool.noConfusion g
          all_goals try simp only [ZZ] at g
          all_goals (
           refine Km 8 rfl ?_; refine Jh rfl rfl (.cons (Jj rfl) (.cons (Jj rfl) .nil)) (fun w1 hs1 => ?_); refine ⟨?_, hs1.keep⟩; rw [Jum (by omega) (by omega)]; rfl
           skip)
        try simp only [ZZ] at g
        refine JP 9 rfl ?_; refine cD (fun g => ?_) fun g => ?_
        refine Jq 3 rfl ?_; refine Jo rfl rfl rfl Jsi (jl hn 8) ?_; refine J3 (congrArg Yt (J0v hn)) ?_; refine JG 10 rfl ?_; refine LR rfl (Q0 rfl rfl (by simp only [List.length_append, Vd]; omega)) ?_; refine Jy 11 rfl ?_; refine Jh rfl rfl (.cons (Jj rfl) (.cons (Jj rfl) .nil)) (fun w1 hs1 => ?_); refine ⟨?_, hs1.keep⟩
        rw [Jig hv01 hall (by omega)]; simp only [Jdf]; first | (rw [if_pos (by omega)]; rfl) | (rw [if_neg (by omega), List.append_nil]; rfl)
        refine Km 10 rfl ?_; refine Jh rfl rfl (.cons (Jj rfl) (.cons (Jj rfl) .nil)) (fun w1 hs1 => ?_); refine ⟨?_, hs1.keep⟩
        rw [Jig hv01 hall (by omega)]; simp only [Jdf]; first | (rw [if_pos (by omega)]; rfl) | (rw [if_neg (by omega), List.append_nil]; rfl)
        skip)
   skip)
def WY (v : Int) (p : List (List UInt8)) (n : Nat) : List UInt8 × Int := if (Wh v p n).2 = 0 then (Wj (Wh v p n).1, 0) else ([], (Wh v p n).2)
theorem Jp0 {v : Int} {p : List (List UInt8)} (hp : p.length = 3) (n : Nat) : (Wh v p n).1.length ≤ 136 := by
 unfold Wh
 split
 ·simp
 ·split
  ·simp
  ·rename_i h1 h2
   have ha : ∀ j, j < p.length → (p.getD j []).length = 32 := fun j hj => by
    have h3 : Jde p = true := by
     cases h : Jde p with
     | true => rfl
     | false => exact absurd (.inl h) h2
    exact of_decide_eq_true (List.all_eq_true.1 h3 (p.getD j []) (by simp [List.getD_eq_getElem?_getD, hj]))
   have hf := Zf p.length (Nat.le_refl _) ha
   rw [List.take_length] at hf; simp only [List.length_append, yV, hf, hp, Jdf]
   split <;> simp [Vd]
theorem Yq {p : List (List UInt8)} (hp : p.length = 3) {n : Nat} (hn : n < 18446744073709551616) (v : Int) : Pure Tryz.prog 22 [.int .i64 v, pV p, uV n].toArray (Yt (WY v p n)) := by
 refine Jl Tryz.func22 rfl rfl fun w => ?_; refine JB ?_
 have hpl := Jp0 (v := v) hp n
 refine Jq 2 rfl ?_; refine Ko (cs := (p.map sV).toArray) rfl rfl rfl rfl fun r1 => ?_; refine JG 7 rfl ?_; refine LR rfl (Jf (xs := p.map sV) (n := 3) rfl (kn 0 rfl) rfl rfl (by rw [List.length_map, hp])) ?_; refine QI rfl (Jo rfl rfl rfl (enters_of Tryz.func49 (by kernel_rfl) rfl) (Jkm hp hn v) (JM 14 rfl ?_)); refine cD (fun g => ?_) fun g => ?_
 refine Km 9 rfl ?_; refine Jh rfl rfl (.cons (Jj rfl) (.cons (Jj rfl) .nil)) (fun w1 hs1 => ?_); refine ⟨?_, hs1.keep⟩; rw [show WY v p n = ([], (Wh v p n).2) from by unfold WY; rw [if_neg (by assumption)]]; rfl
 ·refine Jq 5 rfl ?_; refine Jo rfl rfl rfl Jeu (vP (by omega)) ?_; refine Jy 5 rfl ?_; refine Jh rfl rfl (.cons (Jj rfl) (.cons (Jj rfl) .nil)) (fun w1 hs1 => ?_); refine ⟨?_, hs1.keep⟩; rw [show WY v p n = (Wj (Wh v p n).1, 0) from by unfold WY; rw [if_pos (by assumption)]]; rfl
def jt : List Nat → Bool
 | x :: y :: l => decide (x ≤ y) && jt (y :: l)
 | _ => true
theorem Jih : ∀ {l : List Nat} {i x y : Nat}, l[i]? = some x → l[i + 1]? = some y → y < x → jt l = false
 | [], i, x, y, h, _, _ => by simp at h
 | [a], i, x, y, _, h, _ => by simp at h
 | a :: b :: l, 0, x, y, h1, h2, h => by
  simp only [List.getElem?_cons_zero, List.getElem?_cons_succ, Nat.zero_add, Option.some.injEq] at h1 h2; subst h1 h2
  unfold jt
  rw [decide_eq_false (by omega)]; rfl
 | a :: b :: l, i + 1, x, y, h1, h2, h => by
  rw [List.getElem?_cons_succ] at h1 h2
  unfold jt
  rw [Jih h1 h2 h, Bool.and_false]
theorem Jdg : ∀ {l : List Nat}, (∀ i x y, l[i]? = some x → l[i + 1]? = some y → x ≤ y) → jt l = true
 | [], _ => rfl
 | [a], _ => rfl
 | a :: b :: l, h => by
  unfold jt
  rw [decide_eq_true (h 0 a b rfl rfl), Jdg fun i x y h1 h2 => h (i + 1) x y (by rw [List.getElem?_cons_succ]; exact h1) (by rw [List.getElem?_cons_succ]; exact h2)]; rfl
theorem xN : ∀ {l : List Nat}, jt l = true → ∀ {i j x y : Nat}, i ≤ j → l[i]? = some x → l[j]? = some y → x ≤ y
 | [], _, i, j, x, y, _, h, _ => by simp at h
 | [a], _, i, j, x, y, hij, h1, h2 => by
  cases i with
  | zero => cases j with
   | zero => rw [h1] at h2; cases h2; exact Nat.le_refl _
   | succ j => simp at h2
  | succ i => simp at h1
 | a :: b :: l, h, i, j, x, y, hij, h1, h2 => by
  unfold jt at h
  obtain ⟨ha, hr⟩ := Bool.and_eq_true_iff.1 h
  have ha := of_decide_eq_true ha
  cases j with
  | zero =>
   obtain rfl : i = 0 := by omega
   rw [h1] at h2; cases h2; exact Nat.le_refl _
  | succ j =>
   rw [List.getElem?_cons_succ] at h2
   cases i with
   | zero =>
    simp only [List.getElem?_cons_zero, Option.some.injEq] at h1; subst h1; exact Nat.le_trans ha (xN hr (Nat.zero_le _) (i := 0) rfl h2)
   | succ i => rw [List.getElem?_cons_succ] at h1; exact xN hr (by omega) h1 h2
def ju (t : Nat) : List Nat → Nat
 | x :: l => if x ≤ t then ju t l + 1 else 0
 | [] => 0
theorem xO (t : Nat) : ∀ l : List Nat, ju t l ≤ l.length
 | [] => Nat.le_refl _
 | x :: l => by
  have := xO t l
  unfold ju
  split <;> simp only [List.length_cons] <;> omega
theorem Jii {t : Nat} : ∀ {l : List Nat} {i x : Nat}, i < ju t l → l[i]? = some x → x ≤ t
 | [], i, x, h, _ => by unfold ju at h; omega
 | a :: l, i, x, h, hx => by
  unfold ju at h
  split at h
  ·cases i with
   | zero => simp only [List.getElem?_cons_zero, Option.some.injEq] at hx; subst hx; assumption
   | succ i => rw [List.getElem?_cons_succ] at hx; exact Jii (by omega) hx
  ·omega
theorem Jij {t : Nat} : ∀ {l : List Nat} {x : Nat}, l[ju t l]? = some x → t < x
 | [], x, h => by simp at h
 | a :: l, x, h => by
  unfold ju at h
  split at h
  ·rw [List.getElem?_cons_succ] at h; exact Jij h
  ·simp only [List.getElem?_cons_zero, Option.some.injEq] at h; subst h; omega
theorem Jp1 {t : Nat} {l : List Nat} (hr : jt l = true) {i x : Nat} (hx : l[i]? = some x) : decide (t < x) = decide (ju t l ≤ i) := by
 by_cases h : ju t l ≤ i
 ·have hl := (List.getElem?_eq_some_iff.1 hx).1
  obtain ⟨y, hy⟩ : ∃ y, l[ju t l]? = some y := ⟨_, List.getElem?_eq_getElem (by omega)⟩
  have h1 := Jij hy
  have h2 := xN hr h hy hx
  rw [decide_eq_true h, decide_eq_true (by omega)]
 ·have := Jii (t := t) (l := l) (i := i) (by omega) hx
  rw [decide_eq_false h, decide_eq_false (by omega)]
def Jfi (ts : List Nat) : Int := if ts.length < 1 ∨ ts.length > 6 then 2 else if jt ts = false then 11 else 0
def QN (ts : List Nat) (t : Nat) : Int × Int := if Jfi ts ≠ 0 then (0, Jfi ts) else if ju t ts = 0 then (0, 10) else ((ju t ts : Int) - 1, 0)
def Jzn (n : Nat) (p : Pl) : Value := .agg #[Kz n p]
abbrev unC (ts : List Nat) : List Value := ts.map uV
theorem xP {ts : List Nat} {i x : Nat} (h : ts[i]? = some x) : (unC ts)[i]? = some (uV x) := by rw [List.getElem?_map, h]; rfl
theorem Jxs {ts : List Nat} {i : Nat} (h : i < ts.length) : ∃ x, ts[i]? = some x ∧ x ∈ ts := ⟨ts[i], List.getElem?_eq_getElem h, List.getElem_mem h⟩
theorem Jp2 (a : Nat) : Pure Tryz.prog 318 [uV a].toArray (.bool false) := by
 refine Jl Tryz.func318 rfl rfl fun w => ?_; refine JB ?_; refine Km 14 rfl ?_; refine pT rfl rfl rfl fun w1 hs1 => ?_; refine ⟨?_, hs1.keep⟩
 simp [J8]
theorem Jun (a b : Nat) : Pure Tryz.prog 247 [uV a, uV b].toArray (.bool (decide (a < b))) := by
 refine Jl Tryz.func247 rfl rfl fun w => ?_; refine JB ?_; refine Jq 8 rfl ?_; refine Jo rfl rfl rfl (enters_of Tryz.func318 (by kernel_rfl) rfl) (Jp2 _) ?_; refine Jy 14 rfl ?_; refine pT rfl rfl rfl fun w1 hs1 => ?_; refine ⟨?_, hs1.keep⟩
 simp_all [J8]
theorem Jfj {R : Ji} {ts : List Nat} {p : Pl} (hl : ts.length ≤ 9223372036854775807) (h1 : 1 ≤ ts.length) (hs : Seg R ts.length (unC ts) p) : PureR Tryz.prog 193 [Kz ts.length p].toArray (.bool (jt ts)) R := by
 refine Ja Tryz.func193 rfl rfl fun w => ?_; refine JB ?_; refine Jq 9 rfl ?_; refine LR rfl (J0 rfl hs rfl) ?_; refine Wi rfl (Jc (by omega) (by omega) ?_); refine J3 (show _ = Value.int .i64 ((ts.length - 1 : Nat) : Int) from by rw [Int.ofNat_sub h1]; rfl) ?_; refine JM 4 rfl ?_; refine Jz (σ := Nat) (fun j => j < ts.length ∧ ∀ i x y, j ≤ i → ts[i]? = some x → ts[i + 1]? = some y → x ≤ y) (fun j => [(0, Kz ts.length p), (3, .int .i64 (j : Int))]) (fun _ => []) (fun _ _ _ => True) (fun j => j) (ts.length - 1) ⟨by omega, fun i x y hi _ hy => absurd (List.getElem?_eq_some_iff.1 hy).1 (by omega)⟩ (lK rfl) (List.nil_sublist _) (fun _ _ h => h) ?_; rintro j ⟨hj1, hinv⟩; refine JP 7 rfl ?_; refine cD (fun g => ?_) fun g => ?_
 refine JP 5 rfl ?_
 obtain ⟨i, rfl⟩ : ∃ i, j = i + 1 := ⟨j - 1, by omega⟩
 obtain ⟨x, hx, hmx⟩ := Jxs (show i < ts.length by omega)
 obtain ⟨y, hy, hmy⟩ := Jxs (show i + 1 < ts.length by omega)
 refine JJ 10 (by kernel_rfl) (by kernel_rfl) ?_; refine Jb rfl rfl rfl (Jg rfl) ?_; refine Jb rfl rfl rfl (Jg rfl) ?_
 refine Jb rfl rfl rfl (Jr (j := (i + 1)) rfl hs rfl rfl rfl (by first | rfl | omega) (by omega)) ?_; refine Jb rfl rfl rfl (VJ oR rfl hs (by omega) rfl (xP hy)) ?_; refine Jb rfl rfl rfl (Jg rfl) ?_; refine Jb rfl rfl rfl (Jg rfl) ?_; refine Jb rfl rfl rfl (Jv rfl rfl rfl) ?_; refine Vw (by omega) (by omega) ?_
 refine Jb rfl rfl rfl (Jr (j := i) rfl hs rfl rfl rfl (by first | rfl | omega) (by omega)) ?_; refine Jb rfl rfl rfl (VJ oR rfl hs (by omega) rfl (xP hx)) ?_; refine Ky rfl rfl rfl (enters_of Tryz.func247 (by kernel_rfl) rfl) (Jun _ _) ?_; refine JW ?_; refine JM 2 rfl ?_; refine cD (fun g => ?_) fun g => ?_
 refine Km 11 rfl ?_; refine pT rfl rfl rfl fun w1 hs1 => ?_; refine ⟨?_, hs1.keep⟩; rw [Jih hx hy (by simp_all)]; rfl
 refine Jq 6 rfl ?_; refine Jc (by omega) (by omega) ?_; refine J3 (show _ = Value.int .i64 (i : Int) from by congr 1; omega) ?_; refine Jy 2 rfl ?_; refine Jw ?_
 exact Jt i ⟨by omega, fun q u v hq hu hv => by
  rcases Nat.eq_or_lt_of_le hq with rfl | hq
  rw [hx] at hu; rw [hy] at hv; cases hu; cases hv; simp_all
  exact hinv q u v (by omega) hu hv⟩ (by omega) (lK rfl) (List.nil_sublist _) (fun _ _ h => h)
 ·refine Km 11 rfl ?_; refine pT rfl rfl rfl fun w1 hs1 => ?_; refine ⟨?_, hs1.keep⟩; rw [Jdg fun i x y hx hy => hinv i x y (by omega) hx hy]; rfl
theorem Jkn {R : Ji} {ts : List Nat} {p : Pl} (hl : ts.length ≤ 9223372036854775807) (hs : Seg R ts.length (unC ts) p) : PureR Tryz.prog 120 [Jzn ts.length p].toArray (.int .i64 (Jfi ts)) R := by
  have hE : Jfi ts = if decide ((ts.length : Int) < 1) = true ∨ (ts.length : Int) > 6 then 2 else if jt ts = false then 11 else 0 := by
    unfold Jfi
    exact ite_congr (propext (by rw [decide_eq_true_eq]; omega)) (fun _ => rfl) (fun _ => rfl)
  refine Ja Tryz.func120 rfl rfl fun w => ?_; refine JB ?_; refine Jq 2 rfl ?_; refine LN rfl fun r1 => ?_; refine XB 9 [0] rfl rfl ?_; refine LR rfl (J0 rfl hs rfl) ?_; refine LS 2 [] rfl rfl ?_
  refine J7 8 rfl (fun gb => ?_) (fun gb => ?_) <;> (try simp only [ZZ] at gb) <;> first | (refine LR rfl (JE rfl rfl rfl) ?_) | (refine LK rfl ?_)
  all_goals refine LW 1 [0] rfl rfl ?_
  all_goals first | refine LR rfl (J0 rfl hs rfl) ?_ | refine LK rfl ?_
  all_goals (
   refine LW 3 [] rfl rfl (Jy 1 rfl (Zr 1 rfl ?_)); refine J1 rfl (fun g => ?_) (fun g => ?_)
   try simp only [ZZ] at g
   refine Km 8 rfl ?_; refine pT rfl rfl rfl fun w1 hs1 => ?_; refine ⟨?_, hs1.keep⟩; rw [hE]; simp only [J8]
   simp_all
   · try exact Bool.noConfusion g
     all_goals try simp only [ZZ] at g
     all_goals (
      refine XA 4 [0] rfl rfl ?_; refine Je rfl rfl rfl (enters_of Tryz.func193 (by kernel_rfl) rfl) (Jfj hl (by omega) hs) oR ?_; refine JM 4 rfl ?_; refine cD (fun g => ?_) fun g => ?_
      refine Km 8 rfl ?_; refine pT rfl rfl rfl fun w1 hs1 => ?_; refine ⟨?_, hs1.keep⟩; rw [hE]; simp only [J8]
      simp_all
      refine Km 9 rfl ?_; refine pT rfl rfl rfl fun w1 hs1 => ?_; refine ⟨?_, hs1.keep⟩; rw [hE]; simp only [J8]
      simp_all
      skip)
   skip)
theorem Jp3 {R : Ji} {n k : Nat} (hn : n ≤ 1000) (hk : k ≤ n) {g : FuncId} {caps : List Value} (eg : Enters Tryz.prog g) (hg : ∀ i, i < n → PureR Tryz.prog g (.int .i64 (i : Int) :: caps).toArray (.bool (decide (k ≤ i))) R) :
  PureR Tryz.prog 121 [.int .i64 (n : Int), .func (.func g) #[] caps.toArray].toArray (.int .i64 (k : Int)) R := by
 refine Ja Tryz.func121 rfl rfl fun w => ?_; refine JB ?_; refine JP 14 rfl ?_; refine Jz (σ := Nat × Nat) (fun s => s.1 ≤ k ∧ k ≤ s.2 ∧ s.2 ≤ n) (fun s => [(1, .func (.func g) #[] caps.toArray), (5, .int .i64 (s.1 : Int)), (6, .int .i64 (s.2 : Int))]) (fun _ => []) (fun _ _ _ => True) (fun s => s.2 - s.1) (0, n) ⟨Nat.zero_le _, hk, Nat.le_refl _⟩ (lK rfl) (List.nil_sublist _) (fun _ _ h => h) ?_; rintro ⟨i, j⟩ ⟨hi0, hj0, hj1⟩; simp only at hi0 hj0 hj1; change HC _ _ [(1, _), (5, .int .i64 (i : Int)), (6, .int .i64 (j : Int))] _ _ _ _; refine JP 8 rfl ?_; refine cD (fun h6 => ?_) fun h6 => ?_
 refine Jq 8 rfl ?_; refine Jc (by omega) (by omega) ?_; refine Wi rfl (VW (by omega) (by omega) (J3 (show _ = Value.int .u64 ((i + j : Nat) : Int) from by rw [Int.natCast_add]) ?_)); refine LR rfl (vh (n := 1) (b := (((i + j) / 2 : Nat) : Int)) rfl rfl rfl (by decide) (by omega) (by omega)) ?_; refine Wi rfl (Jc (by omega) (by omega) (JG 7 rfl ?_)); refine Je rfl rfl rfl eg (hg ((i + j) / 2) (by omega)) oR ?_; refine JM 3 rfl ?_; refine cD (fun h9 => ?_) fun h9 => ?_
 refine Jq 3 rfl ?_; refine Jc (by omega) (by omega) ?_; refine Jy 3 rfl ?_; refine Jw ?_; exact Jt ((i + j) / 2 + 1, j) ⟨by simp only; simp at *; omega, hj0, hj1⟩ (by simp only; omega) (lK rfl) (List.nil_sublist _) (fun _ _ h => h)
 refine Km 5 rfl ?_; refine Jw ?_; exact Jt (i, (i + j) / 2) ⟨hi0, by simp only; simp at *; omega, by simp only; omega⟩ (by simp only; omega) (lK rfl) (List.nil_sublist _) (fun _ _ h => h)
 ·refine Km 12 rfl ?_; refine pT rfl rfl rfl fun w1 hs1 => ?_; refine ⟨?_, hs1.keep⟩; rw [show i = k by omega]; rfl
theorem Jxt {R : Ji} {ts : List Nat} {p : Pl} (hs : Seg R ts.length (unC ts) p) {rs rt es et : Nat} {t : Nat} (h1 : (rs, Obj.cells #[Kz ts.length p] es (0, 0)) ∈ R) (h2 : (rt, Obj.cells #[uV t] et (0, 0)) ∈ R) (hr : jt ts = true) {i : Nat} (hi : i < ts.length) :
  PureR Tryz.prog 122 [.int .i64 (i : Int), .pointer (some ⟨rs, 0, none⟩), .pointer (some ⟨rt, 0, none⟩)].toArray (.bool (decide (ju t ts ≤ i))) R := by
 obtain ⟨x, hx, hmx⟩ := Jxs hi
 refine Ja Tryz.func122 rfl rfl fun w => ?_; refine JB ?_; refine JP 6 rfl ?_; refine JJ 8 (by kernel_rfl) (by kernel_rfl) ?_
 refine Jb rfl rfl rfl (JE rfl rfl rfl) ?_; refine Jb rfl rfl rfl (Jd rfl (Or.inr h1) rfl rfl) ?_; refine Jb rfl rfl rfl (Jg rfl) ?_
 refine Jb rfl rfl rfl (Jr (j := i) rfl hs rfl rfl rfl (by first | rfl | omega) (by omega)) ?_; refine Jb rfl rfl rfl (VJ oR rfl hs (by omega) rfl (xP hx)) ?_; refine Jb rfl rfl rfl (Jd rfl (Or.inr h2) rfl rfl) ?_; refine Jb rfl rfl rfl (Jv rfl rfl rfl) ?_; refine Jb rfl rfl rfl (JA rfl) ?_; refine JW ?_; refine Jy 3 rfl ?_; refine pT rfl rfl rfl fun w1 hs1 => ?_; refine ⟨?_, hs1.keep⟩; rw [← Jp1 hr hx]
 simp [J8]
theorem Jp4 {R : Ji} {ts : List Nat} {p : Pl} (hl : ts.length ≤ 9223372036854775807) (hs : Seg R ts.length (unC ts) p) (t : Nat) : PureR Tryz.prog 71 [Jzn ts.length p, uV t].toArray (.tuple #[.int .i64 (QN ts t).1, .int .i64 (QN ts t).2]) R := by
 refine Ja Tryz.func71 rfl rfl fun w => ?_; refine JB ?_; refine Jq 2 rfl ?_; refine LN rfl fun r1 => ?_; refine LN rfl fun r2 => ?_; refine JG 7 rfl ?_; refine LR rfl (Jp (vs := [_]) rfl (kn 1 rfl) rfl rfl rfl rfl) ?_; refine Je rfl rfl rfl (enters_of Tryz.func120 (by kernel_rfl) rfl) (Jkn hl hs) oR ?_; refine JM 9 rfl ?_; refine cD (fun g => ?_) fun g => ?_
 refine Km 9 rfl ?_; refine Jh rfl rfl (.cons (Jj rfl) (.cons (Jj rfl) .nil)) (fun w1 hs1 => ?_); refine ⟨?_, hs1.keep⟩; simp only [J8, QN]
 simp_all
 ·refine JP 3 rfl ?_
  have hz : Jfi ts = 0 := by assumption
  have h6 : 1 ≤ ts.length ∧ ts.length ≤ 6 ∧ jt ts = true := by
   unfold Jfi at hz
   split at hz
   cases hz
   split at hz
   cases hz
   refine ⟨by omega, by omega, ?_⟩; simp_all
  refine XA 3 [1] rfl rfl ?_; refine LR rfl (J0 rfl hs rfl) ?_; refine LR rfl (JD rfl rfl) ?_; refine Je (Rl := (r1, Obj.cells #[Kz ts.length p] 24 (0, 0)) :: (r2, Obj.cells #[uV t] 25 (0, 0)) :: R) rfl rfl rfl (enters_of Tryz.func121 (by kernel_rfl) rfl) (Jp3 (caps := [.pointer (some ⟨r1, 0, none⟩), .pointer (some ⟨r2, 0, none⟩)]) (by omega) (xO t ts) (enters_of Tryz.func122 (by kernel_rfl) rfl) (fun i hi => Jxt (hs.mono fun q hq => List.mem_cons_of_mem _ (List.mem_cons_of_mem _ hq)) List.mem_cons_self (List.mem_cons_of_mem _ List.mem_cons_self) h6.2.2 hi)) (fun q hq => (List.mem_cons.1 hq).elim (fun h => Or.inl (by rw [h]; simp)) fun hq => (List.mem_cons.1 hq).elim (fun h => Or.inl (by rw [h]; simp)) Or.inr) ?_; refine JM 10 rfl ?_; refine cD (fun g => ?_) fun g => ?_
  refine Km 8 rfl ?_; refine Jh rfl rfl (.cons (Jj rfl) (.cons (Jj rfl) .nil)) (fun w1 hs1 => ?_); refine ⟨?_, hs1.keep⟩; simp only [J8, QN]
  simp_all
  ·refine JP 3 rfl ?_
   have hc6 := xO t ts
   refine Jq 3 rfl ?_; refine Jc (by omega) (by omega) ?_; refine Jy 5 rfl ?_; refine Jh rfl rfl (.cons (Jj rfl) (.cons (Jj rfl) .nil)) (fun w1 hs1 => ?_); refine ⟨?_, hs1.keep⟩; simp only [J8, QN]
   simp_all
end Go.Proofs.YtfaagelglpgpkaaGreatDoor
