import Derived.Test.YtfaagelglpgpkaaGreatDoorZtBuildsd
set_option maxRecDepth 100000
namespace Go.Proofs.YtfaagelglpgpkaaGreatDoor
set_option linter.all false
open Go.SL Go.RowKit Go.Shelf
theorem Jqg {R : Jm} {xs : List (BS × BS)} {p : Pl} (hl : xs.length ≤ 1000) (hs : Seg R xs.length (xs.flatMap Qk) p) :
  PureT (α := { row : QD // rowOk 2 xs.length (xs.flatMap Qk) row }) Tryz.prog 325 [KB xs.length p].toArray (fun x => J8 xs.length x.1) [] (fun x => JH 97 (xs.flatMap Qk) x.1) R := by
 cases p with
 | none =>
  have h0 : xs = [] := List.length_eq_zero_iff.1 hs
  subst h0; refine Jw Tryz.func325 rfl rfl fun w => ?_; refine JD ?_; refine JK 12 rfl ?_; refine cD (fun g => ?_) fun g => ?_
  refine Kh 7 rfl ?_; refine pT rfl rfl rfl fun w1 hs1 => ?_; exact ⟨⟨none, rfl, rfl⟩, rfl, hs1⟩
  try exact Bool.noConfusion g
 | some q =>
  refine Jw Tryz.func325 rfl rfl fun w => ?_; refine JD ?_; refine JK 12 rfl ?_; refine J0 rfl (fun g => ?_) (fun g => ?_)
  try exact Bool.noConfusion g
  ·refine Jq 4 rfl ?_; refine Xn rfl rfl rfl rfl fun r1 => ?_; refine Q1 rfl (wm (k := 0) (b := 32) (sz := 2) rfl rfl rfl rfl rfl rfl hs oR rfl rfl rfl rfl rfl (by decide) (Kt JW xs) (Yx j5 xs) (by omega) (by omega) fun row hrow => (Jx 4 rfl ?_)); refine pT rfl rfl rfl fun w1 hs1 => ?_; exact ⟨⟨row, hrow⟩, rfl, hs1.weakL (List.sublist_append_left _ _)⟩
theorem Jlu {R : Jm} {xs : List (BS × BS)} {row : QD} (hl : xs.length ≤ 1000) (hrow : rowOk 2 xs.length (xs.flatMap Qk) row) {i : Nat} (hi : i ≤ xs.length) {y : (BS × BS)} {rv : Nat} (hv : (rv, Obj.cells (Qk y).toArray 97 (0, 0)) ∈ R) :
  PureT (α := { row' : QD // rowOk 2 (xs.length + 1) ((xs.take i ++ y :: xs.drop i).flatMap Qk) row' }) Tryz.prog 326 [J8 xs.length row, .int .i64 (i : Int), .slice (some ⟨rv, 0, none⟩) 1 1].toArray (fun x => J8 (xs.length + 1) x.1) (JH 97 (xs.flatMap Qk) row) (fun x => JH 97 ((xs.take i ++ y :: xs.drop i).flatMap Qk) x.1) R := by
 obtain ⟨A, hA⟩ : ∃ A, A = (xs.take i).flatMap Qk := ⟨_, rfl⟩
 obtain ⟨B, hB⟩ : ∃ B, B = (xs.drop i).flatMap Qk := ⟨_, rfl⟩
 obtain ⟨n, hn⟩ : ∃ n, n = xs.length := ⟨_, rfl⟩
 have e1 : xs.flatMap Qk = A ++ B := by rw [hA, hB, ← List.flatMap_append, List.take_append_drop]
 have e2 : (xs.take i ++ y :: xs.drop i).flatMap Qk = A ++ (Qk y ++ B) := by rw [List.flatMap_append, List.flatMap_cons, hA, hB]
 have lA : A.length = i * 2 := by rw [hA, Kt JW, List.length_take, Nat.min_eq_left hi]
 have lB : B.length = (n - i) * 2 := by rw [hB, Kt JW, List.length_drop, hn]
 have lF : (Qk y).length = 2 := JW y
 have oF : (Qk y).all Q3 = true := j5 y
 have oA : A.all Q3 = true := by rw [hA]; exact Yx j5 _
 have oB : B.all Q3 = true := by rw [hB]; exact Yx j5 _
 rw [e1] at hrow; rw [e1, e2]; rw [← hn] at hl hi hrow ⊢; clear hA hB e1 e2 hn
 cases row with
 | none =>
  obtain ⟨rfl, hAB⟩ := hrow
  obtain rfl : i = 0 := by omega
  obtain ⟨rfl, rfl⟩ := List.append_eq_nil_iff.1 hAB
  refine Jw Tryz.func326 rfl rfl fun w => ?_; refine JD ?_; refine Jq 15 rfl ?_; refine LR rfl (Ka rfl rfl) ?_; refine JI 10 rfl ?_; refine cD (fun g => ?_) fun g => ?_
  first | exact Bool.noConfusion g | omega
  refine Jq 5 rfl ?_; refine LR rfl (Ka rfl rfl) ?_; refine JI 11 rfl ?_; refine J0 rfl (fun g => ?_) (fun g => ?_)
  try simp only [ZZ] at g
  refine Jq 4 rfl ?_; refine Wb (n := 0) (m := 1) (b := 32) (sz := 2) (news := Qk y) (xs := []) (L0 := []) rfl rfl rfl rfl (Or.inr hv) rfl rfl rfl rfl rfl (by decide) rfl rfl oF (by decide) SlOwn.nil (by decide) (by decide) fun r1 cap1 sp1 hsp1 => ?_; refine Jx 5 rfl ?_; refine pT rfl rfl rfl fun w1 hs1 => ?_; exact ⟨⟨some (r1, cap1, sp1), by simp [lF], hsp1⟩, rfl, by simpa [JH] using hs1⟩
  try exact Bool.noConfusion g
 | some q =>
  obtain ⟨r, cap, sp⟩ := q
  obtain ⟨hr1, hr2⟩ := hrow
  have hcap : n ≤ cap := by omega
  refine Jw Tryz.func326 rfl rfl fun w => ?_; refine JD ?_; change HC _ _ _ [(r, .cells ((A ++ B) ++ sp).toArray 97 (0, 0))] _ _ _; refine Jq 9 rfl ?_; refine LR rfl (JU (m := i) (kl := some i) (kh := none) (km := none) (q := n) (z := cap) rfl rfl rfl ⟨_, rfl⟩ trivial trivial rfl rfl rfl (by omega) (by omega) (by omega) (fun _ => rfl) rfl) ?_; refine JJ 5 rfl ?_; refine LR rfl (Ka rfl rfl) ?_; refine JI 10 rfl ?_; refine J0 rfl (fun g => ?_) (fun g => ?_)
  try exact Bool.noConfusion g
  ·refine Jq 5 rfl ?_; refine LR rfl (Ka rfl rfl) ?_; refine JI 11 rfl ?_; refine J0 rfl (fun g => ?_) (fun g => ?_)
   try simp only [ZZ] at g
   refine Jq 4 rfl ?_
   obtain rfl : B = [] := List.length_eq_zero_iff.1 (by omega)
   refine Wb (n := n) (m := 1) (b := 32) (sz := 2) (news := Qk y) (xs := A ++ []) (L0 := []) rfl rfl rfl rfl (Or.inr hv) rfl rfl rfl rfl rfl (by decide) rfl lF oF (by decide) (SlOwn.own (k := 0) rfl (by simp only [List.toList_toArray]; rw [List.take_left' hr1]) hr1 (by rw [List.size_toArray, List.length_append, hr1]; omega) rfl) (by omega) (by omega) fun r1 cap1 sp1 hsp1 => ?_; refine Jx 5 rfl ?_; refine pT rfl rfl rfl fun w1 hs1 => ?_; exact ⟨⟨some (r1, cap1, sp1), by simp only [List.length_append, List.length_nil, lF]; omega, hsp1⟩, rfl, by simpa [JH] using hs1⟩
   ·try simp only [ZZ] at g
    refine Jq 8 rfl ?_; refine Jc (by omega) (by omega) ?_; refine Q1 rfl (LR rfl (Jhx rfl rfl) (JI 3 rfl ?_)); refine cD (fun g => ?_) fun g => ?_
    ·refine Jq 4 rfl ?_
     refine LR rfl (JU (sz := 2) (q := i) (kl := none) (kh := some (i)) (km := none) (m := 0) (z := cap) (off' := 0) rfl rfl rfl trivial ⟨_, rfl⟩ trivial rfl rfl rfl (by omega) (by omega) (by omega) (fun h => by cases h) (by split <;> omega)) ?_; refine LS 3 [] rfl rfl ?_; refine Jc (by omega) (by omega) ?_; refine JJ 2 rfl ?_; refine J3 (show _ = Value.int .i64 ((n + 1 - i : Nat) : Int) from by rw [wrap_i64 (by omega) (by omega)]; congr 1 <;> omega) ?_; refine wg (r := r) (off := 0) (n := i) (cap := cap) (m := n + 1 - i) (sz := 2) (b := 32) (xs := A) rfl rfl rfl rfl (kn 0 rfl) rfl rfl rfl rfl rfl rfl (by decide) (by simp only [List.toList_toArray, List.drop_zero]; rw [List.append_assoc, List.take_left' lA]) lA (by omega) (by omega) (by omega) (by omega) (by omega) fun r2 cap2 Z sp2 hZ hsp2 => ?_; rw [show i + (n + 1 - i) = n + 1 by omega] at hsp2 ⊢
     obtain ⟨Z1, Z2, rfl, lZ1⟩ := cut (l := Z) (a := 2) (by omega)
     have lZ2 : Z2.length = (n - i) * 2 := by rw [List.length_append, lZ1] at hZ; omega
     rw [show A ++ (Z1 ++ Z2) ++ sp2 = A ++ (Z1 ++ (Z2 ++ sp2)) by simp only [List.append_assoc]]; refine JJ 7 rfl ?_; refine LR rfl (JU (sz := 2) (m := i) (kl := some (i)) (kh := none) (km := none) (q := n + 1) (z := cap2) (off' := i * 2) rfl rfl rfl ⟨_, rfl⟩ trivial trivial rfl rfl rfl (by omega) (by omega) (by omega) (fun _ => rfl) (by rw [if_neg (by omega)]; omega)) ?_; refine Q1 rfl ?_
     refine XB (k := 0) (n := 1) (sz := 2) (vs := Qk y) (cs' := A ++ (Qk y ++ (Z2 ++ sp2))) rfl rfl rfl rfl rfl (Or.inr hv) rfl rfl (by simp only [Nat.min_def]; split <;> omega) rfl lF oF (by simp only [List.size_toArray, List.length_append]; omega) (Xo lA (by rw [lZ1])) rfl ?_; refine JI 3 rfl ?_; refine JE 8 (by kernel_rfl) (by kernel_rfl) ?_; refine Ja rfl rfl rfl (Jf rfl) ?_; refine Ja rfl rfl rfl (Jf rfl) ?_; refine Ja rfl rfl rfl (Jf rfl) ?_
     refine Ja rfl rfl rfl (J2 rfl rfl rfl) ?_; refine KR (show _ = Value.int .i64 ((i + 1 : Nat) : Int) from by rw [wrap_i64 (by omega) (by omega)]; congr 1 <;> omega) ?_; refine Ja rfl rfl rfl (JU (sz := 2) (m := i + 1) (kl := some (i + 1)) (kh := none) (km := none) (q := n + 1) (z := cap2) (off' := (i + 1) * 2) rfl rfl rfl ⟨_, rfl⟩ trivial trivial rfl rfl rfl (by omega) (by omega) (by omega) (fun _ => rfl) (by rw [if_neg (by omega)]; omega)) ?_; refine Ja rfl rfl rfl (Jf rfl) ?_; refine Ja rfl rfl rfl (Jf rfl) ?_; refine Ja rfl rfl rfl (JU (sz := 2) (m := i) (kl := some (i)) (kh := none) (km := none) (q := n) (z := cap) (off' := i * 2) rfl rfl rfl ⟨_, rfl⟩ trivial trivial rfl rfl rfl (by omega) (by omega) (by omega) (fun _ => rfl) (by rw [if_neg (by omega)]; omega)) ?_; refine JS ?_; rw [show A ++ (Qk y ++ (Z2 ++ sp2)) = (A ++ Qk y) ++ (Z2 ++ sp2) by simp only [List.append_assoc]]
     refine XB (k := 0) (n := n - i) (sz := 2) (vs := B) (cs' := (A ++ Qk y) ++ (B ++ sp2)) rfl rfl rfl rfl rfl (kn 1 rfl) rfl rfl (by simp only [Nat.min_def]; split <;> omega) (by simp only [List.toList_toArray]; rw [List.append_assoc, List.drop_left' lA, List.take_left' lB]) lB oB (by simp only [List.size_toArray, List.length_append]; omega) (Xo (by rw [List.length_append, lA, lF]; omega) lZ2) rfl ?_; refine Jx 10 rfl ?_; refine pT rfl rfl rfl fun w1 hs1 => ?_; exact ⟨⟨some (r2, cap2, sp2), by simp only [List.length_append]; omega, hsp2⟩, rfl, hs1.weakL (by simp [JH])⟩
    ·refine Jq 8 rfl ?_; refine J3 (show _ = Value.int .i64 ((n + 1 : Nat) : Int) from by rw [wrap_i64 (by omega) (by omega)]; congr 1 <;> omega) ?_
     refine LR rfl (JU (sz := 2) (q := n + 1) (kl := none) (kh := some (n + 1)) (km := none) (m := 0) (z := cap) (off' := 0) rfl rfl rfl trivial ⟨_, rfl⟩ trivial rfl rfl rfl (by omega) (by omega) (by omega) (fun h => by cases h) (by split <;> omega)) ?_; refine JJ 11 rfl ?_; refine J3 (show _ = Value.int .i64 ((i + 1 : Nat) : Int) from by rw [wrap_i64 (by omega) (by omega)]; congr 1 <;> omega) ?_; refine LR rfl (JU (sz := 2) (m := i + 1) (kl := some (i + 1)) (kh := none) (km := none) (q := n + 1) (z := cap) (off' := (i + 1) * 2) rfl rfl rfl ⟨_, rfl⟩ trivial trivial rfl rfl rfl (by omega) (by omega) (by omega) (fun _ => rfl) (by rw [if_neg (by omega)]; omega)) ?_; refine LR rfl (qM (k := 0) rfl rfl rfl hv rfl rfl rfl (by simp only [List.size_toArray, List.length_append]; omega) Tryz.func356 rfl rfl rfl rfl) ?_; refine JI 3 rfl ?_; refine J0 rfl (fun g => ?_) (fun g => ?_)
     ·try simp only [ZZ] at g
      refine JK 1 rfl ?_; refine JE 8 (by kernel_rfl) (by kernel_rfl) ?_; refine Ja rfl rfl rfl (Jf rfl) ?_; refine Ja rfl rfl rfl (Jf rfl) ?_; refine Ja rfl rfl rfl (Jf rfl) ?_
      refine Ja rfl rfl rfl (J2 rfl rfl rfl) ?_; refine KR (show _ = Value.int .i64 ((i + 1 : Nat) : Int) from by rw [wrap_i64 (by omega) (by omega)]; congr 1 <;> omega) ?_; refine Ja rfl rfl rfl (JU (sz := 2) (m := i + 1) (kl := some (i + 1)) (kh := none) (km := none) (q := n + 1) (z := cap) (off' := (i + 1) * 2) rfl rfl rfl ⟨_, rfl⟩ trivial trivial rfl rfl rfl (by omega) (by omega) (by omega) (fun _ => rfl) (by rw [if_neg (by omega)]; omega)) ?_; refine Ja rfl rfl rfl (Jf rfl) ?_; refine Ja rfl rfl rfl (Jf rfl) ?_; refine Ja rfl rfl rfl (JU (sz := 2) (m := i) (kl := some (i)) (kh := none) (km := none) (q := n + 1) (z := cap) (off' := i * 2) rfl rfl rfl ⟨_, rfl⟩ trivial trivial rfl rfl rfl (by omega) (by omega) (by omega) (fun _ => rfl) (by rw [if_neg (by omega)]; omega)) ?_; refine JS ?_
      obtain ⟨X1, X2, hX, lX1⟩ := cut (l := B ++ sp) (a := 2) (by rw [List.length_append]; omega)
      obtain ⟨X3, X4, rfl, lX3⟩ := cut (l := X2) (a := (n - i) * 2) (by have := congrArg List.length hX; simp only [List.length_append] at this; omega)
      rw [show (A ++ B) ++ sp = (A ++ X1) ++ (X3 ++ X4) by rw [List.append_assoc, hX]; simp only [List.append_assoc]]
      refine XB (k := 0) (n := n - i) (sz := 2) (vs := B) (cs' := (A ++ X1) ++ (B ++ X4)) rfl rfl rfl rfl rfl (kn 0 rfl) rfl rfl (by simp only [Nat.min_def]; split <;> omega) (by simp only [List.toList_toArray]; rw [List.append_assoc, List.drop_left' lA, ← hX, List.take_left' lB]) lB oB (by have := congrArg List.length hX; simp only [List.size_toArray, List.length_append] at this ⊢; omega) (Xo (by rw [List.length_append, lA, lX1]; omega) lX3) rfl ?_; refine JJ 6 rfl ?_; refine LR rfl (JU (sz := 2) (m := i) (kl := some (i)) (kh := none) (km := none) (q := n + 1) (z := cap) (off' := i * 2) rfl rfl rfl ⟨_, rfl⟩ trivial trivial rfl rfl rfl (by omega) (by omega) (by omega) (fun _ => rfl) (by rw [if_neg (by omega)]; omega)) ?_; refine Q1 rfl ?_; rw [show (A ++ X1) ++ (B ++ X4) = A ++ (X1 ++ (B ++ X4)) by simp only [List.append_assoc]]
      refine XB (k := 0) (n := 1) (sz := 2) (vs := Qk y) (cs' := A ++ (Qk y ++ (B ++ X4))) rfl rfl rfl rfl rfl (Or.inr hv) rfl rfl (by simp only [Nat.min_def]; split <;> omega) rfl lF oF (by simp only [List.size_toArray, List.length_append]; omega) (Xo lA (by rw [lX1])) rfl ?_; refine Jx 10 rfl ?_; refine pT rfl rfl rfl fun w1 hs1 => ?_; exact ⟨⟨some (r, cap, X4), by simp only [List.length_append]; omega, by have := congrArg List.length hX; simp only [List.length_append] at this; omega⟩, rfl, by simpa [JH] using hs1⟩
     ·try exact Bool.noConfusion g
theorem Ju8 {R : Jm} {xs : List AcL} {p : Pl} (hl : xs.length ≤ 1000) (hs : Seg R xs.length (xs.flatMap AcL.cells) p) (hso : Ks AcL.addr xs) (y : AcL) :
  PureT (α := { row : QD // rowOk 8 (KQ AcL.addr y xs).length ((KQ AcL.addr y xs).flatMap AcL.cells) row }) Tryz.prog 256 [KB xs.length p, vA y, fV 98].toArray (fun x => J8 (KQ AcL.addr y xs).length x.1) [] (fun x => JH 48 ((KQ AcL.addr y xs).flatMap AcL.cells) x.1) R := by
 have hins := Joa (x := y) hso
 obtain ⟨j, hj⟩ : ∃ j, j = ZV AcL.addr (AcL.addr y) xs := ⟨_, rfl⟩
 have hjl : j ≤ xs.length := hj ▸ Jn8 _ _
 have hpl := Jqe (k := AcL.addr y) hl hs hso
 have hlt : VD AcL.addr (AcL.addr y) xs = true → j < xs.length := fun h => hj ▸ Jc8 h
 rw [← hj] at hins hpl
 obtain ⟨b, hb⟩ : ∃ b, b = VD AcL.addr (AcL.addr y) xs := ⟨_, rfl⟩
 rw [← hb] at hins hpl hlt; clear hj hb; refine Jw Tryz.func256 rfl rfl fun w => ?_; refine JD ?_; refine Jq 2 rfl ?_; refine LN rfl fun r1 => ?_; refine Xf 8 [0] rfl rfl ?_; refine Jn rfl rfl rfl Jtz (Ja0 y) ?_; refine Q1 rfl (Ji rfl rfl rfl (enters_of Tryz.func322 (by kernel_rfl) rfl) hpl oR (JJ 10 rfl ?_)); refine Ke rfl rfl rfl (enters_of Tryz.func79 (by kernel_rfl) rfl) (Jek hl hs) oR fun x => ?_
 obtain ⟨row, hrow⟩ := x
 change HL _ _ ((20, J8 xs.length row) :: _) (JH 48 (xs.flatMap AcL.cells) row ++ [(r1, _)]) _ _ _ _; refine JI 9 rfl ?_; refine cD (fun g => ?_) fun g => ?_
 refine JK 1 rfl ?_
 have hltb := hlt (by assumption)
 obtain ⟨r2, cap2, sp2, rfl⟩ := row_some hrow (by omega)
 change HC _ _ _ [(r2, .cells (xs.flatMap AcL.cells ++ sp2).toArray 48 (0, 0)), (r1, _)] _ _ _; refine Jq 3 rfl ?_; refine LR rfl (Js (vs := AcL.cells y) rfl (kn 1 rfl) rfl rfl rfl rfl) ?_; refine LR rfl (JF (j := j) (m := 8) rfl rfl rfl rfl rfl (by omega) rfl) ?_; refine Qm (k := 0) (n := 8) (vs := (AcL.cells y).toArray) (cs' := ((xs.set j y).flatMap AcL.cells ++ sp2).toArray) rfl rfl rfl rfl rfl rfl (AcL.one y) (by have := hrow.1; simp only [List.size_toArray, List.length_append, Kt AcL.len]; omega) (by apply Array.toList_inj.1; simp only [List.toList_toArray, Nat.zero_add]; exact Jaa AcL.len hltb y sp2) rfl ?_; refine Jx 10 rfl ?_; refine pT rfl rfl rfl fun w1 hs1 => ?_
 (rw [if_pos (by assumption)] at hins
  rw [hins, List.length_set]
  exact ⟨⟨some (r2, cap2, sp2), hrow.same (by rw [Kt AcL.len, Kt AcL.len, List.length_set])⟩, rfl, hs1.weakL (by simp [JH])⟩)
 ·refine Jq 6 rfl ?_; refine LR rfl (Js (vs := AcL.cells y) rfl (Or.inl (List.mem_append_right _ List.mem_cons_self)) rfl rfl rfl rfl) ?_; refine J4 (n := 1) (sz := 8) (vs := [_]) (zs := [_, _, _, _, _, _, _, _]) (r := AcL.cells y) rfl rfl rfl rfl rfl rfl rfl rfl rfl (by rw [JO]; exact rfl) rfl fun rv => ?_; refine Qw (T := JH 48 (xs.flatMap AcL.cells) row) (L0 := [(rv, _), (r1, _)]) (Rl := [(rv, Obj.cells (AcL.cells y).toArray 48 (0, 0))]) (by exact List.perm_middle.symm) rfl rfl rfl (enters_of Tryz.func323 (by kernel_rfl) rfl) (Jlt (i := j) (y := y) hl hrow hjl List.mem_cons_self) (fun q hq => Or.inl (by rw [List.mem_singleton.1 hq]; exact List.mem_cons_self)) fun x => ?_
  obtain ⟨row2, hrow2⟩ := x
  refine Jx 4 rfl ?_; refine pT rfl rfl rfl fun w1 hs1 => ?_
  (rw [if_neg (by simp_all)] at hins
   have hln : (xs.take j ++ y :: xs.drop j).length = xs.length + 1 := by simp only [List.length_append, List.length_take, List.length_cons, List.length_drop]; omega
   rw [hins, hln]
   exact ⟨⟨row2, hrow2⟩, rfl, hs1.weakL (List.sublist_append_left _ _)⟩)
theorem Ju9 {R : Jm} {xs : List (BS × BS)} {p : Pl} (hl : xs.length ≤ 1000) (hs : Seg R xs.length (xs.flatMap Qk) p) (hso : Ks Prod.fst xs) (y : (BS × BS)) :
  PureT (α := { row : QD // rowOk 2 (KQ Prod.fst y xs).length ((KQ Prod.fst y xs).flatMap Qk) row }) Tryz.prog 257 [KB xs.length p, vS y, fV 156].toArray (fun x => J8 (KQ Prod.fst y xs).length x.1) [] (fun x => JH 97 ((KQ Prod.fst y xs).flatMap Qk) x.1) R := by
 have hins := Joa (x := y) hso
 obtain ⟨j, hj⟩ : ∃ j, j = ZV Prod.fst (Prod.fst y) xs := ⟨_, rfl⟩
 have hjl : j ≤ xs.length := hj ▸ Jn8 _ _
 have hpl := Jqf (k := Prod.fst y) hl hs hso
 have hlt : VD Prod.fst (Prod.fst y) xs = true → j < xs.length := fun h => hj ▸ Jc8 h
 rw [← hj] at hins hpl
 obtain ⟨b, hb⟩ : ∃ b, b = VD Prod.fst (Prod.fst y) xs := ⟨_, rfl⟩
 rw [← hb] at hins hpl hlt; clear hj hb; refine Jw Tryz.func257 rfl rfl fun w => ?_; refine JD ?_; refine Jq 2 rfl ?_; refine LN rfl fun r1 => ?_; refine Xf 8 [0] rfl rfl ?_; refine Jn rfl rfl rfl Jh9 (Ja1 y) ?_; refine Q1 rfl (Ji rfl rfl rfl (enters_of Tryz.func324 (by kernel_rfl) rfl) hpl oR (JJ 10 rfl ?_)); refine Ke rfl rfl rfl (enters_of Tryz.func325 (by kernel_rfl) rfl) (Jqg hl hs) oR fun x => ?_
 obtain ⟨row, hrow⟩ := x
 change HL _ _ ((20, J8 xs.length row) :: _) (JH 97 (xs.flatMap Qk) row ++ [(r1, _)]) _ _ _ _; refine JI 9 rfl ?_; refine cD (fun g => ?_) fun g => ?_
 refine JK 1 rfl ?_
 have hltb := hlt (by assumption)
 obtain ⟨r2, cap2, sp2, rfl⟩ := row_some hrow (by omega)
 change HC _ _ _ [(r2, .cells (xs.flatMap Qk ++ sp2).toArray 97 (0, 0)), (r1, _)] _ _ _; refine Jq 3 rfl ?_; refine LR rfl (Js (vs := Qk y) rfl (kn 1 rfl) rfl rfl rfl rfl) ?_; refine LR rfl (JF (j := j) (m := 2) rfl rfl rfl rfl rfl (by omega) rfl) ?_; refine Qm (k := 0) (n := 2) (vs := (Qk y).toArray) (cs' := ((xs.set j y).flatMap Qk ++ sp2).toArray) rfl rfl rfl rfl rfl rfl (j5 y) (by have := hrow.1; simp only [List.size_toArray, List.length_append, Kt JW]; omega) (by apply Array.toList_inj.1; simp only [List.toList_toArray, Nat.zero_add]; exact Jaa JW hltb y sp2) rfl ?_; refine Jx 10 rfl ?_; refine pT rfl rfl rfl fun w1 hs1 => ?_
 (rw [if_pos (by assumption)] at hins
  rw [hins, List.length_set]
  exact ⟨⟨some (r2, cap2, sp2), hrow.same (by rw [Kt JW, Kt JW, List.length_set])⟩, rfl, hs1.weakL (by simp [JH])⟩)
 ·refine Jq 6 rfl ?_; refine LR rfl (Js (vs := Qk y) rfl (Or.inl (List.mem_append_right _ List.mem_cons_self)) rfl rfl rfl rfl) ?_; refine J4 (n := 1) (sz := 2) (vs := [_]) (zs := [_, _]) (r := Qk y) rfl rfl rfl rfl rfl rfl rfl rfl rfl (by rw [JO]; exact rfl) rfl fun rv => ?_; refine Qw (T := JH 97 (xs.flatMap Qk) row) (L0 := [(rv, _), (r1, _)]) (Rl := [(rv, Obj.cells (Qk y).toArray 97 (0, 0))]) (by exact List.perm_middle.symm) rfl rfl rfl (enters_of Tryz.func326 (by kernel_rfl) rfl) (Jlu (i := j) (y := y) hl hrow hjl List.mem_cons_self) (fun q hq => Or.inl (by rw [List.mem_singleton.1 hq]; exact List.mem_cons_self)) fun x => ?_
  obtain ⟨row2, hrow2⟩ := x
  refine Jx 4 rfl ?_; refine pT rfl rfl rfl fun w1 hs1 => ?_
  (rw [if_neg (by simp_all)] at hins
   have hln : (xs.take j ++ y :: xs.drop j).length = xs.length + 1 := by simp only [List.length_append, List.length_take, List.length_cons, List.length_drop]; omega
   rw [hins, hln]
   exact ⟨⟨row2, hrow2⟩, rfl, hs1.weakL (List.sublist_append_left _ _)⟩)
theorem Jva (x : BS × BS) : YN x = (((x.1.length : Int) != 32) || ((x.2.length : Int) != 32)) := by
 have key : ∀ n : Nat, decide (n ≠ 32) = ((n : Int) != 32) := fun n => by
  by_cases h : n = 32
  ·subst h; rfl
  ·have h2 : ¬ (n : Int) = 32 := by omega
   simp [h, h2]
 unfold YN
 rw [key, key]
theorem J0r (x : BS × BS) : Pure Tryz.prog 152 [vS x].toArray (.bool (YN x)) := by
 refine Jl Tryz.func152 rfl rfl fun w => ?_; refine JD ?_; refine Jq 2 rfl ?_; refine LN rfl fun r1 => ?_; refine Xf 7 [0] rfl rfl ?_; refine LR rfl (KK rfl rfl) ?_; refine LS 2 [] rfl rfl ?_
 refine J6 7 rfl (fun gb => ?_) (fun gb => ?_) <;> (try simp only [ZZ] at gb) <;> first | (refine LR rfl (JA rfl rfl rfl) ?_) | (refine LK rfl ?_)
 all_goals refine LW 1 [0] rfl rfl ?_
 all_goals first | refine LR rfl (KK rfl rfl) ?_ | refine LK rfl ?_
 all_goals (
  refine LW 3 [] rfl rfl (Jx 1 rfl (ZT 2 rfl ?_)); refine pT rfl rfl rfl fun w1 hs1 => ?_; refine ⟨?_, hs1.keep⟩; rw [Jva]
  simp_all [JG]
  skip)
theorem Jvb (x : BS × BS) : Pure Tryz.prog 153 [vS x].toArray (.bool (WA x)) := by
 refine Jl Tryz.func153 rfl rfl fun w => ?_; refine JD ?_; refine Jq 2 rfl ?_; refine LN rfl fun r1 => ?_; refine JI 4 rfl ?_; refine JE 5 (by kernel_rfl) (by kernel_rfl) ?_
 refine Ja rfl rfl rfl (JA rfl rfl rfl) ?_; refine Ja rfl rfl rfl (Je rfl (kn 0 rfl) rfl rfl) ?_; refine Ky rfl rfl rfl (enters_of Tryz.func116 (by kernel_rfl) rfl) Jqd ?_; refine Ja rfl rfl rfl (WO rfl rfl) ?_; refine Ja rfl rfl rfl (JC rfl) ?_; refine JS ?_; refine Jx 3 rfl ?_; refine pT rfl rfl rfl fun w1 hs1 => ?_; exact ⟨rfl, hs1.keep⟩
theorem qW {R : Jm} {xs : List (BS × BS)} {p : Pl} (hl : xs.length ≤ 9223372036854775807) (hs : Seg R xs.length (xs.flatMap Qk) p) {g : FuncId} {caps : List Value} {pr : BS × BS → Bool} (eg : Enters Tryz.prog g) (hg : ∀ x ∈ xs, PureR Tryz.prog g (vS x :: caps).toArray (.bool (pr x)) R) :
  PureR Tryz.prog 154 [KB xs.length p, .func (.func g) #[] caps.toArray].toArray (.bool (xs.any pr)) R := by
 have h := Jej hl hs eg hg
 refine Jb Tryz.func154 rfl rfl fun w => ?_; refine JD ?_; refine Jq 9 rfl ?_; refine Ji rfl rfl rfl (enters_of Tryz.func114 (by kernel_rfl) rfl) h oR ?_; refine VQ rfl (J3 (congrArg Value.bool Jtp) (Jx 4 rfl ?_)); refine pT rfl rfl rfl fun w1 hs1 => ?_; exact ⟨rfl, hs1.keep⟩
theorem Jgi {R : Jm} {a : AcL} (ha : a.In R) : PureR Tryz.prog 96 [a.val].toArray (.int .i64 (VM a.er)) R := by
  have h1 := qW (g := 152) (caps := []) ha.len ha.seg (enters_of Tryz.func152 (by kernel_rfl) rfl) (fun x _ => (J0r x).toR)
  have h2 := qW (g := 153) (caps := []) ha.len ha.seg (enters_of Tryz.func153 (by kernel_rfl) rfl) (fun x _ => (Jvb x).toR)
  have h3 := Jqb ha.len ha.seg
  have hl := ha.len
  have hseg := ha.seg
  have hE : VM a.er = if ¬ ((a.addr.length : Int) = 20) ∨ a.slots.any YN = true then 2 else if Q4 Prod.fst a.slots = false then 11 else if (512 < (a.code.length : Int)) ∨ (16 < (a.slots.length : Int)) then 5 else if a.slots.any WA = true then 8 else 0 := by
    exact ite_congr (propext (or_congr (by show ¬ a.addr.length = 20 ↔ _; omega) Iff.rfl)) (fun _ => rfl) (fun _ => ite_congr rfl (fun _ => rfl) (fun _ => ite_congr (propext (or_congr (by show a.code.length > 512 ↔ _; omega) (by show a.slots.length > 16 ↔ _; omega))) (fun _ => rfl) (fun _ => rfl)))
  rw [hE]; clear hE
  generalize a.slots.any YN = oB at h1 ⊢
  generalize a.slots.any WA = sBo at h2 ⊢
  generalize Q4 Prod.fst a.slots = rB at h3 ⊢
  refine Jb Tryz.func96 rfl rfl fun w => ?_; refine JD ?_; refine Jq 2 rfl ?_; refine LN rfl fun r1 => ?_; refine Xf 19 [0] rfl rfl ?_; refine LR rfl (KK rfl rfl) ?_; refine LS 2 [] rfl rfl ?_
  refine J6 10 rfl (fun gb => ?_) (fun gb => ?_) <;> (try simp only [ZZ] at gb) <;> first | (refine LR rfl (JA rfl rfl rfl) ?_) | (refine LK rfl ?_)
  all_goals refine LW 2 [0] rfl rfl ?_
  all_goals first | (refine Ji rfl rfl rfl (enters_of Tryz.func154 (by kernel_rfl) rfl) h1 oR ?_) | refine LK rfl ?_
  all_goals (
   refine LW 2 [] rfl rfl (Jx 1 rfl (XN 1 rfl ?_)); refine J0 rfl (fun h10 => ?_) (fun h10 => ?_)
   try simp only [ZZ] at h10
   refine Kh 8 rfl ?_; refine pT rfl rfl rfl fun w1 hs1 => ?_; refine ⟨?_, hs1.keep⟩; simp only [JG]
   simp_all
   · try exact Bool.noConfusion h10
     all_goals try simp only [ZZ] at h10
     all_goals (
      refine Vw 4 [0] rfl rfl ?_; refine Ji rfl rfl rfl (enters_of Tryz.func155 (by kernel_rfl) rfl) h3 oR ?_; refine JI 4 rfl ?_; refine cD (fun h13 => ?_) fun h13 => ?_
      refine Kh 8 rfl ?_; refine pT rfl rfl rfl fun w1 hs1 => ?_; refine ⟨?_, hs1.keep⟩; simp only [JG]
      simp_all
      · refine Vw 4 [0] rfl rfl ?_; refine LR rfl (KK rfl rfl) ?_; refine LS 2 [] rfl rfl ?_
        refine J6 26 rfl (fun gb => ?_) (fun gb => ?_) <;> (try simp only [ZZ] at gb) <;> first | (refine LR rfl (JA rfl rfl rfl) ?_) | (refine LK rfl ?_)
        all_goals refine LW 1 [0] rfl rfl ?_
        all_goals first | refine LR rfl (Jz rfl hseg rfl) ?_ | refine LK rfl ?_
        all_goals (
         refine LW 3 [] rfl rfl (Jx 1 rfl (XN 1 rfl ?_)); refine J0 rfl (fun h20 => ?_) (fun h20 => ?_)
         try simp only [ZZ] at h20
         refine Kh 8 rfl ?_; refine pT rfl rfl rfl fun w1 hs1 => ?_; refine ⟨?_, hs1.keep⟩; simp only [JG]
         simp_all
         · try exact Bool.noConfusion h20
           all_goals try simp only [ZZ] at h20
           all_goals (
            refine Vw 5 [0] rfl rfl ?_; refine Ji rfl rfl rfl (enters_of Tryz.func154 (by kernel_rfl) rfl) h2 oR ?_; refine JI 3 rfl ?_; refine cD (fun h23 => ?_) fun h23 => ?_
            refine Kh 8 rfl ?_; refine pT rfl rfl rfl fun w1 hs1 => ?_; refine ⟨?_, hs1.keep⟩; simp only [JG]
            simp_all
            refine Kh 9 rfl ?_; refine pT rfl rfl rfl fun w1 hs1 => ?_; refine ⟨?_, hs1.keep⟩; simp only [JG]
            simp_all
            skip)
         skip)
      skip)
   skip)
theorem Jvc {R : Jm} {rb e : Nat} {k : BS} (hb : (rb, Obj.cells #[J1 k] e (0, 0)) ∈ R) (a : AcL) : PureR Tryz.prog 43 [vA a, .pointer (some ⟨rb, 0, none⟩)].toArray (.bool (decide (a.addr = k))) R := by
 refine Jb Tryz.func43 rfl rfl fun w => ?_; refine JD ?_; refine Jq 2 rfl ?_; refine LN rfl fun r1 => ?_; refine Xf 7 [0] rfl rfl ?_; refine LR rfl (Je rfl (Or.inr hb) rfl rfl) ?_; refine LR rfl (WO rfl rfl) ?_; refine Jx 4 rfl ?_; refine pT rfl rfl rfl fun w1 hs1 => ?_; exact ⟨rfl, hs1.keep⟩
theorem Jyp {R : Jm} {rb e : Nat} {k : BS} (hb : (rb, Obj.cells #[J1 k] e (0, 0)) ∈ R) (x : BS × BS) : PureR Tryz.prog 259 [vS x, .pointer (some ⟨rb, 0, none⟩)].toArray (.bool (decide (x.1 = k))) R := by
 refine Jb Tryz.func259 rfl rfl fun w => ?_; refine JD ?_; refine Jq 2 rfl ?_; refine LN rfl fun r1 => ?_; refine Xf 7 [0] rfl rfl ?_; refine LR rfl (Je rfl (Or.inr hb) rfl rfl) ?_; refine LR rfl (WO rfl rfl) ?_; refine Jx 4 rfl ?_; refine pT rfl rfl rfl fun w1 hs1 => ?_; exact ⟨rfl, hs1.keep⟩
theorem Jqh {R : Jm} {s : StL} (hs : s.In R) (k : BS) : PureR Tryz.prog 18 [s.val, J1 k].toArray (.tuple #[(Qy s k).val, .bool (VW s k)]) R := by
 have hl := hs.len
 have hseg := hs.seg
 refine Jb Tryz.func18 rfl rfl fun w => ?_; refine JD ?_; refine Jq 2 rfl ?_; refine LN rfl fun r1 => ?_; refine LN rfl fun r2 => ?_; refine LN rfl fun r3 => ?_; refine Xf 7 [2] rfl rfl ?_; refine LR rfl (JN rfl rfl) ?_; refine Ji (Rl := (r2, Obj.cells #[J1 k] 9 (0, 0)) :: R) rfl rfl rfl (enters_of Tryz.func42 (by kernel_rfl) rfl) (Jp9 (caps := [.pointer (some ⟨r2, 0, none⟩)]) (pr := fun a => decide (a.addr = k)) hl (hseg.mono fun q hq => List.mem_cons_of_mem _ hq) (enters_of Tryz.func43 (by kernel_rfl) rfl) (fun a _ => Jvc List.mem_cons_self a)) (fun q hq => (List.mem_cons.1 hq).elim (fun h => Or.inl (by rw [h]; simp)) Or.inr) ?_; refine JI 10 rfl ?_; refine cD (fun g => ?_) fun g => ?_
 refine JK 1 rfl ?_
 have hf := Jc3 (by assumption)
 refine Jq 1 rfl ?_; refine LR rfl (Jt (r := [_, _, _, _, _, _, _, _]) rfl rfl) ?_
 refine LT 0 rfl rfl ?_; refine Jx 5 rfl ?_; refine Jg rfl rfl (.cons (Jr (vs := [_, _, _, _, _, _, _, _]) rfl (kn 0 rfl) rfl rfl) (.cons (Jj rfl) .nil)) (fun w1 hs1 => ?_); refine ⟨?_, hs1.keep⟩; rw [(zp hf).1, (zp hf).2]; rfl
 ·refine JK 3 rfl ?_
  obtain ⟨i, a, hidx, ha, hf⟩ := Jtq (by assumption)
  refine Vw 4 [2] rfl rfl ?_
  refine LR rfl (Jk (j := i) rfl hseg rfl rfl rfl (by first | rfl | omega) (by have := (List.getElem?_eq_some_iff.1 ha).1; omega)) ?_; refine LR rfl (JV AcL.len oR rfl hseg ha rfl rfl) ?_
  refine LT 0 rfl rfl ?_; refine Jx 4 rfl ?_; refine Jg rfl rfl (.cons (Jr (vs := [_, _, _, _, _, _, _, _]) rfl (kn 0 rfl) rfl rfl) (.cons (Jj rfl) .nil)) (fun w1 hs1 => ?_); refine ⟨?_, hs1.keep⟩; rw [(Jda hf).1, (Jda hf).2]; rfl
theorem Zv {R : Jm} {s : StL} (hs : s.In R) : PureR Tryz.prog 44 [s.val].toArray (.int .i64 (KC s.er)) R := by
  have hl : s.accts.length ≤ 9223372036854775807 := hs.len
  have hseg := hs.seg
  obtain ⟨hc5, hcg⟩ := Jh1 s
  refine Jb Tryz.func44 rfl rfl fun w => ?_; refine JD ?_; refine Jq 2 rfl ?_; refine LN rfl fun r1 => ?_; refine Xf 8 [0] rfl rfl ?_; refine LR rfl (Jz rfl hseg rfl) ?_; refine JI 3 rfl ?_; refine cD (fun g => ?_) fun g => ?_
  refine Kh 7 rfl ?_; refine pT rfl rfl rfl fun w1 hs1 => ?_; refine ⟨?_, hs1.keep⟩; rw [hc5 (by assumption)]; rfl
  · refine Vw 7 [0] rfl rfl ?_; refine LR rfl (Jz rfl hseg rfl) ?_; refine JI 4 rfl ?_; refine Jy (σ := Nat) (fun i => i ≤ s.accts.length ∧ goS (W1 s.er i) (s.er.drop i) = goS none s.er) (fun i => [(1, .pointer (some ⟨r1, 0, none⟩)), (11, KB s.accts.length s.p), (12, .int .i64 (s.accts.length : Int)), (13, .int .i64 (i : Int))]) (fun _ => [(r1, .cells s.cells.toArray 36 (0, 0))]) (fun _ _ _ => True) (fun i => s.accts.length - i) 0 ⟨Nat.zero_le _, rfl⟩ (lK rfl) (List.Sublist.refl _) (fun _ _ h => h) ?_; rintro i ⟨hi1, hinv⟩; refine JK 6 rfl ?_; refine cD (fun g => ?_) fun g => ?_
    · refine JK 5 rfl ?_
      obtain ⟨a, ha, hma⟩ := Qs (show i < s.accts.length by omega)
      rw [Jhz (XR ha)] at hinv; refine Jq 2 rfl ?_
      refine LR rfl (Jk (j := i) rfl hseg rfl rfl rfl (by first | rfl | omega) (by omega)) ?_; refine LR rfl (JV AcL.len oR rfl hseg ha rfl rfl) ?_; refine LN rfl fun r2 => ?_; refine Q1 rfl (Jh (k := 0) (n := 8) (ys := a.cells) rfl rfl rfl rfl rfl a.len rfl a.one rfl (JJ 4 rfl ?_)); refine LR rfl (Jd (xs := a.cells) (n := 8) rfl (kn 0 rfl) rfl rfl a.len) ?_; refine Ji rfl rfl rfl Jx1 (Jgi (hs.accts a hma)) oR ?_; refine JJ 9 rfl ?_
      refine J6 22 rfl (fun gb => ?_) (fun gb => ?_) <;> (try simp only [ZZ] at gb) <;> first | (refine Q1 rfl ?_) | (refine LK rfl ?_)
      all_goals refine LW 3 [] rfl rfl ?_
      all_goals first | refine LK rfl ?_ | (refine J6 26 rfl (fun gb => ?_) (fun gb => ?_) <;> (try simp only [ZZ] at gb) <;> first | (refine LR rfl (JA rfl rfl rfl) ?_) | (refine LK rfl ?_))
      all_goals refine LW 2 [1] rfl rfl ?_
      all_goals first | (refine VQ rfl ?_; refine Jc (by omega) (by omega) ?_) | refine LK rfl ?_
      all_goals refine LW 1 [] rfl rfl ?_
      all_goals first | (refine VQ rfl ?_; refine Jc (by omega) (by omega) ?_) | refine LK rfl ?_
      all_goals first | (obtain ⟨x, hx, hmx⟩ := Qs (show i - 1 < s.accts.length by omega); refine LR rfl (Jk3 (sz := 8) (a := i - 1) (b := i + 1) (m := 2) rfl hseg rfl rfl (by omega) (by omega) rfl rfl (by omega) (by omega) (by omega)) ?_; have hlast := Jac hx (show i - 1 + 1 = i by omega)) | refine LK rfl ?_
      all_goals first | (refine Ji rfl rfl rfl (enters_of Tryz.func97 (by kernel_rfl) rfl) (Jqa (xs := [x, a]) (show 2 ≤ 9223372036854775807 by decide) (hseg.two AcL.len hx ha (by omega))) oR ?_; refine J3 (congrArg Value.bool (Jfw x a)) ?_) | refine LK rfl ?_
      all_goals (
       refine LW 2 [] rfl rfl (Jx 1 rfl (XN 1 rfl ?_)); refine J0 rfl (fun g => ?_) (fun g => ?_)
       · try exact Bool.noConfusion g
         all_goals try simp only [ZZ] at g
         all_goals (
          refine JK 5 rfl ?_
          have hst : QQ (W1 s.er i) a.er = 11 ∨ QQ (W1 s.er i) a.er = VM a.er := by unfold QQ; split <;> simp
          have hst : QQ (W1 s.er i) a.er = 11 := Jh0 (by assumption) hlast (by assumption)
          rw [hst] at hinv; refine JK 5 rfl ?_; refine J0 rfl (fun g => ?_) (fun g => ?_)
          try simp only [ZZ] at g
          refine Kh 12 rfl ?_; refine pT rfl rfl rfl fun w1 hs1 => ?_; refine ⟨?_, hs1.keep⟩; rw [hcg (by omega), ← hinv, if_pos (by simp_all)]; rfl
          try exact Bool.noConfusion g
          skip)
       · try simp only [ZZ] at g
         refine JK 3 rfl ?_
         have hst : QQ (W1 s.er i) a.er = 11 ∨ QQ (W1 s.er i) a.er = VM a.er := by unfold QQ; split <;> simp
         have hst : QQ (W1 s.er i) a.er = VM a.er := Jab (by first | exact Or.inl (by assumption) | exact Or.inr (Or.inl (by rw [show i = 0 by omega]; rfl)) | exact Or.inr (Or.inr ⟨_, hlast, by assumption⟩))
         rw [hst] at hinv; refine JK 5 rfl ?_; refine cD (fun g => ?_) fun g => ?_
         refine Kh 12 rfl ?_; refine pT rfl rfl rfl fun w1 hs1 => ?_; refine ⟨?_, hs1.keep⟩; rw [hcg (by omega), ← hinv, if_pos (by simp_all)]; rfl
         refine Jq 5 rfl ?_; refine Jc (by omega) (by omega) ?_; refine Jx 2 rfl ?_; refine Jv ?_; exact Jo (i + 1) ⟨by omega, by rw [if_neg (by simp_all)] at hinv; exact hinv⟩ (by omega) (lK rfl) (List.sublist_cons_self _ _) (fun _ _ h => h)
       skip)
    · refine Kh 11 rfl ?_; refine pT rfl rfl rfl fun w1 hs1 => ?_; refine ⟨?_, hs1.keep⟩; rw [hcg (by omega), ← hinv, List.drop_of_length_le (by rw [s.er_len]; omega)]; rfl
theorem Jqi {R : Jm} {xs : List (BS × BS)} {row : QD} (hl : xs.length ≤ 1000) (hrow : rowOk 2 xs.length (xs.flatMap Qk) row) {g : FuncId} {caps : List Value} {pr : BS × BS → Bool} (eg : Enters Tryz.prog g) (hg : ∀ x ∈ xs, PureR Tryz.prog g (vS x :: caps).toArray (.bool (pr x)) R) :
  PureT (α := { row' : QD // rowOk 2 (xs.filter fun x => !pr x).length ((xs.filter fun x => !pr x).flatMap Qk) row' }) Tryz.prog 258 [J8 xs.length row, .func (.func g) #[] caps.toArray].toArray (fun x => J8 (xs.filter fun x => !pr x).length x.1) (JH 97 (xs.flatMap Qk) row) (fun x => JH 97 ((xs.filter fun x => !pr x).flatMap Qk) x.1) R := by
 have hseg := Km (e := 97) hrow (by decide)
 have hV := QZ xs.length row (fun h => by subst h; exact hrow.1)
 have hidx := Jej (R := JH 97 (xs.flatMap Qk) row ++ R) (by omega) (hseg.mono fun q hq => List.mem_append_left _ hq) eg (fun x hx => (hg x hx).mono fun q hq => List.mem_append_right _ hq)
 rw [hV] at hidx
 obtain ⟨m, hm⟩ : ∃ m, m = Yw pr xs := ⟨_, rfl⟩
 rw [← hm] at hidx; refine Jw Tryz.func258 rfl rfl fun w => ?_; refine JD ?_; refine Jq 9 rfl ?_; refine Ji (Rl := JH 97 (xs.flatMap Qk) row ++ R) rfl rfl rfl (enters_of Tryz.func114 (by kernel_rfl) rfl) hidx (fun q hq => (List.mem_append.1 hq).elim Or.inl Or.inr) ?_; refine JI 10 rfl ?_; refine cD (fun h5 => ?_) fun h5 => ?_
 refine Kh 8 rfl ?_; refine pT rfl rfl rfl fun w1 hs1 => ?_
 (have hall := Jts (pr := pr) (xs := xs) (by omega)
  rw [hall]
  exact ⟨⟨row, hrow⟩, rfl, hs1⟩)
 ·refine JK 4 rfl ?_
  obtain ⟨i, e0⟩ : ∃ i : Nat, m = (i : Int) := by
   rcases wn (pr := pr) (xs := xs) with ⟨h, _⟩ | ⟨i, _, h, _⟩
   ·unfold Yw at hm h; split at hm <;> split at h <;> first | omega | simp_all
   exact ⟨i, hm.trans h⟩
  subst e0
  obtain ⟨hil, hif⟩ := Jtr hm.symm
  obtain ⟨r, cap, sp, rfl⟩ := row_some hrow (by omega)
  obtain ⟨hr1, hr2⟩ := hrow
  obtain ⟨x0, hx0, _⟩ := Qs hil
  have hsplit : xs.flatMap Qk ++ sp = ((xs.take (i + 1)).filter fun x => !pr x).flatMap Qk ++ (Qk x0 ++ ((xs.drop (i + 1)).flatMap Qk ++ sp)) := by
   rw [hif, ← List.append_assoc (Qk x0), ← Jdb hx0, ← List.append_assoc, ← List.flatMap_append, List.take_append_drop]
  change HC _ _ _ [(r, .cells (xs.flatMap Qk ++ sp).toArray 97 (0, 0))] _ _ _; rw [hsplit]
  have hcap : xs.length ≤ cap := by omega
  have hi1 : ((xs.take (i + 1)).filter fun x => !pr x).length = i := by rw [hif, List.length_take]; omega
  refine Jq 3 rfl ?_; refine Jc (by omega) (by omega) ?_; refine JI 4 rfl ?_; refine Jy (σ := Nat × List Value) (fun s => s.1 ≤ xs.length ∧ ((xs.take s.1).filter fun x => !pr x).length < s.1 ∧ s.2.length + ((xs.take s.1).filter fun x => !pr x).length * 2 = s.1 * 2) (fun s => [(0, .slice (some ⟨r, 0, none⟩) xs.length cap), (1, .func (.func g) #[] caps.toArray), (5, .int .i64 (((xs.take s.1).filter fun x => !pr x).length : Nat)), (6, .int .i64 (s.1 : Int))]) (fun s => [(r, .cells (((xs.take s.1).filter fun x => !pr x).flatMap Qk ++ (s.2 ++ ((xs.drop s.1).flatMap Qk ++ sp))).toArray 97 (0, 0))]) (fun _ _ _ => True) (fun s => xs.length - s.1) (i + 1, Qk x0) ⟨by simp only; omega, by simp only; omega, by simp only [JW]; omega⟩ (.cons rfl (.cons rfl (.cons (by rw [hi1]; rfl) (.cons rfl .nil)))) (List.Sublist.refl _) (fun _ _ h => h) ?_; rintro ⟨j, G⟩ ⟨hj1, hj2, hG⟩; simp only at hj1 hj2 hG; change HC _ _ [(0, _), (1, _), (5, .int .i64 (((xs.take j).filter fun x => !pr x).length : Nat)), (6, .int .i64 (j : Int))] [(r, .cells (((xs.take j).filter fun x => !pr x).flatMap Qk ++ (G ++ ((xs.drop j).flatMap Qk ++ sp))).toArray 97 (0, 0))] _ _ _; refine Jq 5 rfl ?_; refine LR rfl (Ka rfl rfl) ?_; refine JI 3 rfl ?_; refine cD (fun h11 => ?_) fun h11 => ?_
  refine JK 5 rfl ?_
  obtain ⟨x, hx, hmx⟩ := Qs (show j < xs.length by omega)
  rw [Jdb hx, List.append_assoc (Qk x)]; refine Jq 3 rfl ?_; refine LR rfl (JF (j := j) (m := 2) rfl rfl rfl rfl rfl (by omega) rfl) ?_; refine LR rfl (Js (n := 2) (vs := Qk x) rfl (kn 0 rfl) rfl rfl (by simp only [List.toList_toArray]; rw [← List.append_assoc, List.drop_left' (by rw [List.length_append, Kt JW]; omega), List.take_left' (JW x)]) rfl) ?_; refine LN rfl fun r1 => ?_; refine Jh (k := 0) (n := 2) (ys := Qk x) rfl rfl rfl rfl rfl rfl rfl rfl rfl ?_; refine JJ 5 rfl ?_; refine LR rfl (Jd (xs := Qk x) (n := 2) rfl (kn 0 rfl) rfl rfl rfl) ?_; refine Ji rfl rfl rfl eg (hg x hmx) oR ?_; refine JI 3 rfl ?_; refine cD (fun h15 => ?_) fun h15 => ?_
  refine JK 1 rfl ?_
  obtain ⟨M, G2, hcut, lM⟩ := cut (l := G ++ Qk x) (a := 2) (by rw [List.length_append, JW]; omega)
  have lG2 : G2.length = G.length := by have := congrArg List.length hcut; simp only [List.length_append, JW] at this; omega
  have hkeep := Ye (pr := fun x => !pr x) hx
  rw [if_pos (by simp_all)] at hkeep; refine Jq 3 rfl ?_; refine LR rfl (Jd (xs := Qk x) (n := 2) rfl (kn 0 rfl) rfl rfl rfl) ?_; refine LR rfl (JF (j := ((xs.take j).filter fun x => !pr x).length) (m := 2) rfl rfl rfl rfl rfl (by omega) rfl) ?_; refine Qm (k := 1) (n := 2) (vs := (Qk x).toArray) (cs' := (((xs.take j).filter fun x => !pr x).flatMap Qk ++ (Qk x ++ (G2 ++ ((xs.drop (j + 1)).flatMap Qk ++ sp)))).toArray) rfl rfl rfl rfl rfl rfl rfl (by simp only [List.size_toArray, List.length_append, Kt JW]; omega) (by apply Array.toList_inj.1; simp only [List.toList_toArray, Nat.zero_add]; rw [show G ++ (Qk x ++ ((xs.drop (j + 1)).flatMap Qk ++ sp)) = M ++ (G2 ++ ((xs.drop (j + 1)).flatMap Qk ++ sp)) by rw [← List.append_assoc, hcut, List.append_assoc]]; exact Xo (Kt JW _) lM) rfl ?_; refine JJ 5 rfl ?_; refine Jc (by omega) (by omega) ?_; refine JJ 7 rfl ?_; refine Jc (by omega) (by omega) ?_; refine Jx 2 rfl ?_; refine Jv ?_; exact Jo (j + 1, G2) ⟨by simp only; omega, by simp only; rw [hkeep, List.length_append, List.length_singleton]; omega, by simp only; rw [hkeep, List.length_append, List.length_singleton]; omega⟩ (by simp only; omega) (.cons rfl (.cons rfl (.cons (by simp only [QI]; rw [hkeep, List.length_append, List.length_singleton]; rfl) (.cons rfl .nil)))) (by simp only [hkeep, List.flatMap_append, List.flatMap_singleton, List.append_assoc]; exact List.sublist_cons_self _ _) (fun _ _ h => h)
  refine Jq 6 rfl ?_; refine Jc (by omega) (by omega) ?_; refine Jx 2 rfl ?_; refine Jv ?_
  (have hdel := Ye (pr := fun x => !pr x) hx
   rw [if_neg (by simp_all), List.append_nil] at hdel
   exact Jo (j + 1, G ++ Qk x) ⟨by simp only; omega, by simp only; rw [hdel]; omega, by simp only [List.length_append, JW]; rw [hdel]; omega⟩ (by simp only; omega) (.cons rfl (.cons rfl (.cons (by simp only [QI]; rw [hdel]; try rfl) (.cons rfl .nil)))) (by simp only [hdel, List.append_assoc]; exact List.sublist_cons_self _ _) (fun _ _ h => h))
  ·refine JK 6 rfl ?_
   have hjn : j = xs.length := by omega
   have hdrop : (xs.drop j).flatMap Qk = [] := by rw [List.drop_of_length_le (by omega)]; rfl
   rw [hdrop, List.nil_append]; refine Jq 3 rfl ?_; refine LR rfl (JU (sz := 2) (m := ((xs.take j).filter fun x => !pr x).length) (kl := some ((xs.take j).filter fun x => !pr x).length) (kh := none) (km := none) (q := xs.length) (z := cap) (off' := ((xs.take j).filter fun x => !pr x).length * 2) rfl rfl rfl ⟨_, rfl⟩ trivial trivial rfl rfl rfl (by omega) (by omega) (by omega) (fun _ => rfl) (by rw [if_neg (by omega)]; omega)) ?_; refine zm (k := 0) (sz := 2) rfl rfl rfl rfl rfl rfl rfl (by decide) (by simp only [List.size_toArray, List.length_append, Kt JW, List.length_drop]; omega) (Xo (P := ((xs.take j).filter fun x => !pr x).flatMap Qk) (M := G) (S := sp) (Kt JW _) (by omega)) rfl ?_; refine JJ 6 rfl ?_
   refine LR rfl (JU (sz := 2) (q := ((xs.take j).filter fun x => !pr x).length) (kl := none) (kh := some ((xs.take j).filter fun x => !pr x).length) (km := none) (m := 0) (z := cap) (off' := 0) rfl rfl rfl trivial ⟨_, rfl⟩ trivial rfl rfl rfl (by omega) (by omega) (by omega) (fun h => by cases h) (by split <;> omega)) ?_; refine Jx 4 rfl ?_; refine pT rfl rfl rfl fun w1 hs1 => ?_
   (have hfull : (xs.take j).filter (fun x => !pr x) = xs.filter fun x => !pr x := by rw [hjn, List.take_length]
    rw [hfull] at hs1 ⊢; refine ⟨⟨some (r, cap, _), Kt JW _, ?_⟩, rfl, hs1.weakL (by simp only [JH]; exact List.Sublist.refl _)⟩
    have hz : ∀ n, (Builtin.zeroCells (Value.agg #[Value.string ⟨#[]⟩, Value.string ⟨#[]⟩]).cells n).toList.length = n * 2 := fun n => by rw [Array.length_toList, size_zeroCells]; rfl
    rw [List.length_append, hz]
    have := List.length_filter_le (fun x => !pr x) xs
    omega)
theorem J0s {R : Jm} {a : AcL} (ha : a.In R) (k v : BS) : PureT (α := AcRes R (Vz a.er k v)) Tryz.prog 197 [a.val, J1 k, J1 v].toArray (fun x => x.val) [] (fun x => x.L) R := by
  have hlk := Jgi ha
  have hl := ha.len
  have hseg := ha.seg
  have hset : Vz a.er k v = if VM a.er ≠ 0 then (a.er, VM a.er) else if k.length ≠ 32 ∨ v.length ≠ 32 then (a.er, 2) else if (Ko a.slots k v).length > 16 then (a.er, 5) else (⟨a.addr, a.nonce, a.bal, a.code, Ko a.slots k v⟩, 0) := rfl
  refine Jw Tryz.func197 rfl rfl fun w => ?_; refine JD ?_; refine Jq 2 rfl ?_; refine LN rfl fun r1 => ?_; refine LN rfl fun r2 => ?_; refine LN rfl fun r3 => ?_; refine JJ 6 rfl ?_; refine LR rfl (Js (vs := [_, _, _, _, _, _, _, _]) rfl (kn 2 rfl) rfl rfl rfl rfl) ?_; refine Ji rfl rfl rfl Jx1 hlk oR ?_; refine JI 9 rfl ?_; refine cD (fun g => ?_) fun g => ?_
  refine Vw 4 [2] rfl rfl ?_
  refine LT 0 rfl rfl ?_; refine Jx 5 rfl ?_; refine Jg rfl rfl (.cons (Jr (vs := [_, _, _, _, _, _, _, _]) rfl (kn 0 rfl) rfl rfl) (.cons (Jj rfl) .nil)) (fun w1 hs1 => ?_); rw [hset, if_pos (by omega)]; exact ⟨⟨a, VM a.er, [], ha, rfl⟩, rfl, hs1.weakL (List.nil_sublist _)⟩
  · refine Jq 5 rfl ?_; refine LR rfl (Je rfl (kn 1 rfl) rfl rfl) ?_; refine LR rfl (KK rfl rfl) ?_; refine LS 2 [] rfl rfl ?_
    refine J6 19 rfl (fun gb => ?_) (fun gb => ?_) <;> (try simp only [ZZ] at gb) <;> first | (refine Q1 rfl ?_) | (refine LK rfl ?_)
    all_goals first | refine LR rfl (KK rfl rfl) ?_ | refine LK rfl ?_
    all_goals (
     refine LW 2 [] rfl rfl (Jx 1 rfl (XN 1 rfl ?_)); refine J0 rfl (fun g => ?_) (fun g => ?_)
     try simp only [ZZ] at g
     refine Jq 2 rfl ?_; refine LR rfl (Js (vs := [_, _, _, _, _, _, _, _]) rfl (kn 2 rfl) rfl rfl rfl rfl) ?_
     refine LT 0 rfl rfl ?_; refine Jx 5 rfl ?_; refine Jg rfl rfl (.cons (Jr (vs := [_, _, _, _, _, _, _, _]) rfl (kn 0 rfl) rfl rfl) (.cons (Jj rfl) .nil)) (fun w1 hs1 => ?_); rw [hset, if_neg (by omega), if_pos (by omega)]; exact ⟨⟨a, 2, [], ha, rfl⟩, rfl, hs1.weakL (List.nil_sublist _)⟩
     · try exact Bool.noConfusion g
       all_goals try simp only [ZZ] at g
       all_goals (
        refine JK 3 rfl ?_
        have hok : Ks Prod.fst a.slots ∧ a.slots.length ≤ 16 := ⟨(QH (a := a.er) (by omega)).2.2.1, (QH (a := a.er) (by omega)).2.2.2.2⟩
        have hinl : (KQ Prod.fst (k, v) a.slots).length ≤ 17 := by
          have := hok.2
          rw [xT hok.1]
          split <;> omega
        refine Vw 5 [2, 1] rfl rfl ?_; refine LR rfl (Jt (r := [_, _]) rfl rfl) ?_; refine Ke rfl rfl rfl (enters_of Tryz.func257 (by kernel_rfl) rfl) (Ju9 (by have := hok.2; omega) hseg hok.1 (k, v)) oR fun x => ?_
        obtain ⟨row, hrow⟩ := x
        refine Kk List.perm_append_comm ?_; change HL _ _ ((30, J8 (KQ Prod.fst (k, v) a.slots).length row) :: _) ((r3, _) :: (r2, _) :: (r1, _) :: JH _ _ row) _ _ _ _; refine JJ 7 rfl ?_; refine Jn rfl rfl rfl (enters_of Tryz.func116 (by kernel_rfl) rfl) Jqd ?_; refine LR rfl (WO rfl rfl) ?_; refine JI 2 rfl ?_; refine cD (fun g => ?_) fun g => ?_
        have hdC := Jqi (R := [(r2, Obj.cells #[J1 k] 9 (0, 0))]) (caps := [.pointer (some ⟨r2, 0, none⟩)]) (pr := fun x => decide (x.1 = k)) (by omega) hrow (enters_of Tryz.func259 (by kernel_rfl) rfl) (fun x _ => Jyp List.mem_cons_self x)
        rw [Jfx, show YD Prod.fst k a.slots = Ko a.slots k v from by unfold Ko; rw [if_pos (by assumption)]] at hdC; refine Jq 2 rfl ?_; refine LR rfl (JN rfl rfl) ?_; refine Qw (T := JH _ _ row) (L0 := [(r3, _), (r2, _), (r1, _)]) (Rl := [(r2, Obj.cells #[J1 k] 9 (0, 0))]) (List.perm_append_comm (l₁ := [_, _, _])) rfl rfl rfl (enters_of Tryz.func258 (by kernel_rfl) rfl) hdC (fun q hq => Or.inl (by rw [List.mem_singleton.1 hq]; exact List.mem_cons_of_mem _ List.mem_cons_self)) fun x => ?_
        obtain ⟨row2, hrow2⟩ := x
        refine Kk List.perm_append_comm ?_; change HL _ _ ((36, J8 (Ko a.slots k v).length row2) :: _) ((r3, _) :: (r2, _) :: (r1, _) :: JH _ _ row2) _ _ _ _; refine JI 5 rfl ?_
        try rw [show KQ Prod.fst (k, v) a.slots = Ko a.slots k v from by unfold Ko; rw [if_neg (by assumption)]] at hrow ⊢
        refine Jq 2 rfl ?_; refine LR rfl (Wt rfl hrow2.zero rfl) ?_; refine JI 3 rfl ?_; refine cD (fun g => ?_) fun g => ?_
        refine Jq 2 rfl ?_; refine LR rfl (Js (vs := [_, _, _, _, _, _, _, _]) rfl (kn 2 rfl) rfl rfl rfl rfl) ?_
        refine LT 0 rfl rfl ?_; refine Jx 5 rfl ?_; refine Jg rfl rfl (.cons (Jr (vs := [_, _, _, _, _, _, _, _]) rfl (kn 0 rfl) rfl rfl) (.cons (Jj rfl) .nil)) (fun w1 hs1 => ?_); rw [hset, if_neg (by omega), if_neg (by omega), if_pos (by omega)]; exact ⟨⟨a, 5, [], ha, rfl⟩, rfl, hs1.weakL (List.nil_sublist _)⟩
        refine Jq 6 rfl ?_; refine Kn (k := 2) (cs' := #[J1 a.addr, uV a.nonce, uV a.bal.a, uV a.bal.b, uV a.bal.c, uV a.bal.d, J1 a.code, J8 (Ko a.slots k v).length row2]) rfl rfl rfl rfl rfl (VX _ _) rfl rfl rfl rfl ?_; refine JJ 4 rfl ?_; refine LR rfl (Js (vs := [_, _, _, _, _, _, _, _]) rfl (kn 2 rfl) rfl rfl rfl rfl) ?_; refine Qm (k := 0) (n := 8) (cs' := #[J1 a.addr, uV a.nonce, uV a.bal.a, uV a.bal.b, uV a.bal.c, uV a.bal.d, J1 a.code, J8 (Ko a.slots k v).length row2]) (vs := #[_, _, _, _, _, _, _, _]) rfl rfl rfl rfl rfl rfl (by show (Q3 (J8 _ _) && true) = true; rw [VX]; rfl) (by exact Nat.le_of_ble_eq_true rfl) rfl rfl ?_; refine Jx 4 rfl ?_; refine Jg rfl rfl (.cons (Jr (vs := [_, _, _, _, _, _, _, _]) rfl (kn 0 rfl) rfl rfl) (.cons (Jj rfl) .nil)) (fun w1 hs1 => ?_)
        (rw [hset, if_neg (by omega), if_neg (by omega), if_neg (by omega)]
         exact ⟨⟨⟨a.addr, a.nonce, a.bal, a.code, Ko a.slots k v, Qo row2⟩, 0, JH 97 ((Ko a.slots k v).flatMap Qk) row2, Yy ha (by omega) (by omega) (by omega) (Km hrow2 (by decide)), rfl⟩, by show Ending.returned _ = Ending.returned (Value.tuple #[Value.agg #[J1 a.addr, uV a.nonce, uV a.bal.a, uV a.bal.b, uV a.bal.c, uV a.bal.d, J1 a.code, KB (Ko a.slots k v).length (Qo row2)], .int .i64 0]); rw [QZ _ _ hrow2.zero]; rfl, hs1.weakL (List.sublist_append_right [_, _, _] _)⟩)
        refine JK 4 rfl ?_
        try rw [show KQ Prod.fst (k, v) a.slots = Ko a.slots k v from by unfold Ko; rw [if_neg (by assumption)]] at hrow ⊢
        refine Jq 2 rfl ?_; refine LR rfl (Wt rfl hrow.zero rfl) ?_; refine JI 3 rfl ?_; refine cD (fun g => ?_) fun g => ?_
        refine Jq 2 rfl ?_; refine LR rfl (Js (vs := [_, _, _, _, _, _, _, _]) rfl (kn 2 rfl) rfl rfl rfl rfl) ?_
        refine LT 0 rfl rfl ?_; refine Jx 5 rfl ?_; refine Jg rfl rfl (.cons (Jr (vs := [_, _, _, _, _, _, _, _]) rfl (kn 0 rfl) rfl rfl) (.cons (Jj rfl) .nil)) (fun w1 hs1 => ?_); rw [hset, if_neg (by omega), if_neg (by omega), if_pos (by omega)]; exact ⟨⟨a, 5, [], ha, rfl⟩, rfl, hs1.weakL (List.nil_sublist _)⟩
        refine Jq 6 rfl ?_; refine Kn (k := 2) (cs' := #[J1 a.addr, uV a.nonce, uV a.bal.a, uV a.bal.b, uV a.bal.c, uV a.bal.d, J1 a.code, J8 (Ko a.slots k v).length row]) rfl rfl rfl rfl rfl (VX _ _) rfl rfl rfl rfl ?_; refine JJ 4 rfl ?_; refine LR rfl (Js (vs := [_, _, _, _, _, _, _, _]) rfl (kn 2 rfl) rfl rfl rfl rfl) ?_; refine Qm (k := 0) (n := 8) (cs' := #[J1 a.addr, uV a.nonce, uV a.bal.a, uV a.bal.b, uV a.bal.c, uV a.bal.d, J1 a.code, J8 (Ko a.slots k v).length row]) (vs := #[_, _, _, _, _, _, _, _]) rfl rfl rfl rfl rfl rfl (by show (Q3 (J8 _ _) && true) = true; rw [VX]; rfl) (by exact Nat.le_of_ble_eq_true rfl) rfl rfl ?_; refine Jx 4 rfl ?_; refine Jg rfl rfl (.cons (Jr (vs := [_, _, _, _, _, _, _, _]) rfl (kn 0 rfl) rfl rfl) (.cons (Jj rfl) .nil)) (fun w1 hs1 => ?_)
        (rw [hset, if_neg (by omega), if_neg (by omega), if_neg (by omega)]
         exact ⟨⟨⟨a.addr, a.nonce, a.bal, a.code, Ko a.slots k v, Qo row⟩, 0, JH 97 ((Ko a.slots k v).flatMap Qk) row, Yy ha (by omega) (by omega) (by omega) (Km hrow (by decide)), rfl⟩, by show Ending.returned _ = Ending.returned (Value.tuple #[Value.agg #[J1 a.addr, uV a.nonce, uV a.bal.a, uV a.bal.b, uV a.bal.c, uV a.bal.d, J1 a.code, KB (Ko a.slots k v).length (Qo row)], .int .i64 0]); rw [QZ _ _ hrow.zero]; rfl, hs1.weakL (List.sublist_append_right [_, _, _] _)⟩)
        skip)
     skip)
theorem J0t {R : Jm} {s : StL} {a : AcL} (hs : s.In R) (ha : a.In R) : PureT (α := StRes R (YO s.er a.er)) Tryz.prog 196 [s.val, a.val].toArray (fun x => x.val) [] (fun x => x.L) R := by
 have hc := Zv hs
 have hlk := Jgi ha
 have hl := hs.len
 have hseg := hs.seg
 have hput : YO s.er a.er = if KC s.er ≠ 0 then (s.er, KC s.er) else if VM a.er ≠ 0 then (s.er, VM a.er) else if (KQ AcE.addr a.er s.er).length > 32 then (s.er, 5) else (KQ AcE.addr a.er s.er, 0) := rfl
 have hil : (KQ AcE.addr a.er s.er).length = (KQ AcL.addr a s.accts).length := by unfold StL.er; rw [← Jad, List.length_map]
 rw [hil] at hput; refine Jw Tryz.func196 rfl rfl fun w => ?_; refine JD ?_; refine Jq 2 rfl ?_; refine LN rfl fun r1 => ?_; refine LN rfl fun r2 => ?_; refine LN rfl fun r3 => ?_; refine JJ 6 rfl ?_; refine LR rfl (Js (vs := [_]) rfl (kn 2 rfl) rfl rfl rfl rfl) ?_; refine Ji rfl rfl rfl Jtx hc oR ?_; refine JI 9 rfl ?_; refine cD (fun g => ?_) fun g => ?_
 refine Vw 4 [2] rfl rfl ?_
 refine LT 0 rfl rfl ?_; refine Jx 5 rfl ?_; refine Jg rfl rfl (.cons (Jr (vs := [_]) rfl (kn 0 rfl) rfl rfl) (.cons (Jj rfl) .nil)) (fun w1 hs1 => ?_); rw [hput, if_pos (by omega)]; exact ⟨⟨s, KC s.er, [], hs, rfl⟩, rfl, hs1.weakL (List.nil_sublist _)⟩
 ·refine Jq 5 rfl ?_; refine LR rfl (Js (vs := [_, _, _, _, _, _, _, _]) rfl (kn 1 rfl) rfl rfl rfl rfl) ?_; refine Ji rfl rfl rfl Jx1 hlk oR ?_; refine JI 9 rfl ?_; refine cD (fun g => ?_) fun g => ?_
  refine Vw 4 [2] rfl rfl ?_
  refine LT 0 rfl rfl ?_; refine Jx 5 rfl ?_; refine Jg rfl rfl (.cons (Jr (vs := [_]) rfl (kn 0 rfl) rfl rfl) (.cons (Jj rfl) .nil)) (fun w1 hs1 => ?_); rw [hput, if_neg (by omega), if_pos (by omega)]; exact ⟨⟨s, VM a.er, [], hs, rfl⟩, rfl, hs1.weakL (List.nil_sublist _)⟩
  ·refine JK 3 rfl ?_
   have hok : s.accts.length ≤ 32 ∧ Ks AcL.addr s.accts := by
    have h := Xl.1 (show KC s.er = 0 by omega)
    rw [s.er_len] at h; exact ⟨h.1, (zq s).2 h.2.2⟩
   refine Vw 4 [2, 1] rfl rfl ?_; refine Ke rfl rfl rfl (enters_of Tryz.func256 (by kernel_rfl) rfl) (Ju8 (by omega) hseg hok.2 a) oR fun x => ?_
   obtain ⟨row, hrow⟩ := x
   refine Kk List.perm_append_comm ?_; change HL _ _ ((24, J8 (KQ AcL.addr a s.accts).length row) :: _) ((r3, _) :: (r2, _) :: (r1, _) :: JH _ _ row) _ _ _ _; refine JJ 7 rfl ?_; refine LR rfl (Wt rfl hrow.zero rfl) ?_; refine JI 3 rfl ?_; refine cD (fun g => ?_) fun g => ?_
   refine Jq 2 rfl ?_; refine LR rfl (Js (vs := [_]) rfl (kn 2 rfl) rfl rfl rfl rfl) ?_
   refine LT 0 rfl rfl ?_; refine Jx 5 rfl ?_; refine Jg rfl rfl (.cons (Jr (vs := [_]) rfl (kn 0 rfl) rfl rfl) (.cons (Jj rfl) .nil)) (fun w1 hs1 => ?_); rw [hput, if_neg (by omega), if_neg (by omega), if_pos (by omega)]; exact ⟨⟨s, 5, [], hs, rfl⟩, rfl, hs1.weakL (List.nil_sublist _)⟩
   ·refine Jq 5 rfl ?_
    refine LR rfl (Jt (r := [J8 _ row]) rfl (by cases row <;> rfl)) ?_; refine Qm (k := 0) (n := 1) (cs' := #[J8 (KQ AcL.addr a s.accts).length row]) (vs := #[_]) rfl rfl rfl rfl rfl rfl (by show (Q3 (J8 _ _) && true) = true; rw [VX]; rfl) (by exact Nat.le_of_ble_eq_true rfl) rfl rfl ?_; refine Jx 4 rfl ?_; refine Jg rfl rfl (.cons (Jr (vs := [_]) rfl (kn 0 rfl) rfl rfl) (.cons (Jj rfl) .nil)) (fun w1 hs1 => ?_)
    (rw [hput, if_neg (by omega), if_neg (by omega), if_neg (by omega)]
     exact ⟨⟨⟨KQ AcL.addr a s.accts, Qo row⟩, 0, JH 48 ((KQ AcL.addr a s.accts).flatMap AcL.cells) row, ⟨by show (KQ AcL.addr a s.accts).length ≤ 9223372036854775807; omega, (Km hrow (by decide)).mono fun q hq => List.mem_append_left _ hq, fun x hx => ((j4 hx).elim (fun e => by rw [e]; exact ha) (hs.accts x)).mono fun q hq => List.mem_append_right _ hq⟩, by unfold StL.er; rw [Jad]⟩, by show Ending.returned _ = Ending.returned (Value.tuple #[Value.agg #[KB (KQ AcL.addr a s.accts).length (Qo row)], .int .i64 0]); rw [QZ _ _ hrow.zero]; rfl, hs1.weakL (List.sublist_append_right [_, _, _] _)⟩)
theorem wX (f : Int) : decide (Qf f) = (decide (f ≥ 0) && decide (f ≤ 5)) := by
 rw [Bool.eq_iff_iff, Bool.and_eq_true, decide_eq_true_eq, decide_eq_true_eq, decide_eq_true_eq]; exact Iff.rfl
theorem Jel (f : Int) : Pure Tryz.prog 55 [.int .i64 f].toArray (.bool (decide (Qf f))) := by
 rw [wX]; refine Jl Tryz.func55 rfl rfl fun w => ?_; refine JD ?_; refine Jq 10 rfl ?_
 refine J6 5 rfl (fun gb => ?_) (fun gb => ?_) <;> (try simp only [ZZ] at gb) <;> first | (refine Q1 rfl ?_) | (refine LK rfl ?_)
 all_goals (
  refine LW 3 [] rfl rfl (Jx 1 rfl (ZT 2 rfl ?_)); refine pT rfl rfl rfl fun w1 hs1 => ?_; refine ⟨?_, hs1.keep⟩
  simp_all [JG]
  all_goals first | done | omega | trace_state
  skip)
theorem Jqj : WOk w40.l := w40_ok.wok
theorem Jvd : Pure Tryz.prog 58 [].toArray (J1 Qc) := by
 rw [Jxt]; refine Jl Tryz.func58 rfl rfl fun w => ?_; refine JD ?_; refine Jq 7 rfl ?_; refine LR rfl (Jt (r := [_, _, _, _]) rfl rfl) ?_; refine Jn rfl rfl rfl Jdf (QU Jqj) ?_; refine Jx 4 rfl ?_; refine pT rfl rfl rfl fun w1 hs1 => ?_; exact ⟨rfl, hs1.keep⟩
theorem Jyq {n : Nat} (h : VV n) : Pure Tryz.prog 61 [uV n].toArray (J1 (Wg n)) := by
 refine Jl Tryz.func61 rfl rfl fun w => ?_; refine JD ?_; refine Jq 8 rfl ?_; refine Jn rfl rfl rfl qR (VK n) ?_; refine Jn rfl rfl rfl Jdf (QU (xW h).wok) ?_; refine Jx 4 rfl ?_; refine pT rfl rfl rfl fun w1 hs1 => ?_; exact ⟨rfl, hs1.keep⟩
theorem P_Addr0 : Pure Tryz.prog 19 [.int .i64 0].toArray (J1 A0) := by
 refine Jl Tryz.func19 rfl rfl fun w => ?_; refine JD ?_; refine JK 16 rfl ?_; refine J0 rfl (fun g => ?_) (fun g => ?_)
 try exact Bool.noConfusion g
 ·try simp only [ZZ] at g
  refine Jq 4 rfl ?_; refine VA (n := 20) (b := 1) rfl rfl rfl rfl rfl rfl rfl rfl rfl (by decide) (by decide) fun r1 => ?_; refine JJ 9 rfl ?_; refine Jc (by omega) (by omega) ?_; refine VQ rfl (Yo (by omega) (by omega) (LR rfl (JF (j := 0) (m := 1) rfl rfl rfl rfl rfl (by decide) rfl) ?_)); refine LT 0 rfl rfl ?_; refine LR rfl (JF (j := 19) (m := 1) rfl rfl rfl rfl rfl (by decide) rfl) ?_; refine LT 0 rfl rfl ?_; refine JJ 5 rfl ?_; refine LR rfl (KS (b := A0) (row := some (r1, 20, [])) (e := 5) rfl ⟨rfl, rfl⟩ (fun p hp => .inl (by rw [List.mem_singleton.1 hp]; exact List.mem_cons_self)) rfl rfl rfl) ?_; refine Jx 4 rfl ?_; refine pT rfl rfl rfl fun w1 hs1 => ?_; exact ⟨rfl, hs1.keep⟩
theorem Jve : Pure Tryz.prog 19 [.int .i64 1].toArray (J1 A1) := by
 refine Jl Tryz.func19 rfl rfl fun w => ?_; refine JD ?_; refine JK 16 rfl ?_; refine J0 rfl (fun g => ?_) (fun g => ?_)
 try exact Bool.noConfusion g
 ·try simp only [ZZ] at g
  refine Jq 4 rfl ?_; refine VA (n := 20) (b := 1) rfl rfl rfl rfl rfl rfl rfl rfl rfl (by decide) (by decide) fun r1 => ?_; refine JJ 9 rfl ?_; refine Jc (by omega) (by omega) ?_; refine VQ rfl (Yo (by omega) (by omega) (LR rfl (JF (j := 0) (m := 1) rfl rfl rfl rfl rfl (by decide) rfl) ?_)); refine LT 0 rfl rfl ?_; refine LR rfl (JF (j := 19) (m := 1) rfl rfl rfl rfl rfl (by decide) rfl) ?_; refine LT 0 rfl rfl ?_; refine JJ 5 rfl ?_; refine LR rfl (KS (b := A1) (row := some (r1, 20, [])) (e := 5) rfl ⟨rfl, rfl⟩ (fun p hp => .inl (by rw [List.mem_singleton.1 hp]; exact List.mem_cons_self)) rfl rfl rfl) ?_; refine Jx 4 rfl ?_; refine pT rfl rfl rfl fun w1 hs1 => ?_; exact ⟨rfl, hs1.keep⟩
theorem Jvf {f : Int} (h : f < 0 ∨ f > 1) : Pure Tryz.prog 19 [.int .i64 f].toArray (J1 []) := by
  refine Jl Tryz.func19 rfl rfl fun w => ?_; refine JD ?_; refine Jq 11 rfl ?_
  refine J6 6 rfl (fun gb => ?_) (fun gb => ?_) <;> (try simp only [ZZ] at gb) <;> first | (refine Q1 rfl ?_) | (refine LK rfl ?_)
  all_goals (
   refine LW 2 [] rfl rfl (Jx 1 rfl (XN 1 rfl ?_)); refine J0 rfl (fun g => ?_) (fun g => ?_)
   try simp only [ZZ] at g
   refine Kh 7 rfl ?_; refine pT rfl rfl rfl fun w1 hs1 => ?_
   first | exact ⟨rfl, hs1.keep⟩ | (exfalso; omega)
   · try exact Bool.noConfusion g
     all_goals try simp only [ZZ] at g
     all_goals (
      refine Jq 4 rfl ?_
      exfalso; omega
      skip)
   skip)
theorem Jqk (f : Int) : Pure Tryz.prog 19 [.int .i64 f].toArray (J1 (Qx f)) := by
 by_cases h0 : f = 0
 ·subst h0; exact P_Addr0
 ·by_cases h1 : f = 1
  ·subst h1; exact Jve
  ·have h : f < 0 ∨ f > 1 := by omega
   have e : Qx f = [] := by unfold Qx; rw [if_pos h]
   rw [e]; exact Jvf h
def cdC (p : Int × BS) : List Value := [.int .i64 p.1, J1 p.2]
theorem Jje (p : Int × BS) : (cdC p).length = 2 := rfl
def codes0 : List (Int × BS) := [(0, cOne), (1, Jz3), (3, Jn2), (5, Jwr)]
def codes1 : List (Int × BS) := [(2, Jz4)]
def Yl (f : Int) : List (Int × BS) → BS × Bool → BS × Bool
 | [], acc => acc
 | p :: l, acc => Yl f l (if f ≥ p.1 then (p.2, true) else acc)
theorem qX {f : Int} (h : Qf f) : Yl f codes0 ([], false) = KG f 0 ∧ Yl f codes1 ([], false) = KG f 1 := by
 rcases Yu h with rfl | rfl | rfl | rfl | rfl | rfl <;> exact ⟨by decide +kernel, by decide +kernel⟩
theorem wY {f : Int} {p : Int × BS} : ∀ (l : List (Int × BS)) (acc : BS × Bool), Yl f (l ++ [p]) acc = if f ≥ p.1 then (p.2, true) else Yl f l acc
 | [], acc => rfl
 | q :: l, acc => by rw [List.cons_append, Yl, Yl, wY l]
theorem Vn {f : Int} {l : List (Int × BS)} {i : Nat} {p : Int × BS} (h : l[i]? = some p) : Yl f (l.take (i + 1)) ([], false) = if f ≥ p.1 then (p.2, true) else Yl f (l.take i) ([], false) := by
 obtain ⟨h1, h2⟩ := List.getElem?_eq_some_iff.1 h
 rw [List.take_succ_eq_append_getElem h1, h2, wY]
theorem Jjf : PureE (α := Nat × Nat) Tryz.prog 111 [].toArray (fun p => .agg #[.slice (some ⟨p.1, 0, none⟩) 4 4, .slice (some ⟨p.2, 0, none⟩) 1 1]) (fun p => [(p.2, .cells (codes1.flatMap cdC).toArray 160 (0, 0)), (p.1, .cells (codes0.flatMap cdC).toArray 160 (0, 0))]) := by
 refine Kf Tryz.func111 rfl rfl fun w => ?_; refine JD ?_; refine Jq 2 rfl ?_; refine LN rfl fun r1 => ?_; refine JJ 4 rfl ?_; refine LR rfl (Jt (r := [_, _]) rfl rfl) ?_; refine LR rfl (Jt (r := [_, _]) rfl rfl) ?_; refine LR rfl (Jt (r := [_, _]) rfl rfl) ?_; refine LR rfl (Jt (r := [_, _]) rfl rfl) ?_; refine J4 (vs := [_, _, _, _]) (zs := [_, _, _, _, _, _, _, _]) (r := [_, _, _, _, _, _, _, _]) rfl rfl rfl rfl rfl rfl rfl rfl rfl (by rw [JO]; exact rfl) rfl fun r2 => ?_; refine LR rfl (Jt (r := [_, _]) rfl rfl) ?_; refine J4 (vs := [_]) (zs := [_, _]) (r := [_, _]) rfl rfl rfl rfl rfl rfl rfl rfl rfl (by rw [JO]; exact rfl) rfl fun r3 => ?_; refine LR rfl (Jt (r := [_, _]) rfl rfl) ?_
 refine LT 2 rfl rfl ?_; refine Jx 3 rfl ?_; refine Jg rfl rfl (.cons (Jr (vs := [_, _]) rfl (kn 2 rfl) rfl rfl) .nil) (fun w1 hs1 => ?_); exact ⟨(r2, r3), rfl, hs1.weakL (.cons_cons _ (.cons_cons _ (List.nil_sublist _)))⟩
theorem J0u {f : Int} (hf : Qf f) : Pure Tryz.prog 56 [.int .i64 f, .int .i64 0].toArray (.tuple #[J1 (KG f 0).1, .bool (KG f 0).2]) := by
 refine Jl Tryz.func56 rfl rfl fun w => ?_; refine JD ?_; refine Jq 15 rfl ?_; refine JZ rfl rfl rfl (enters_of Tryz.func111 (by kernel_rfl) rfl) Jjf fun pp => ?_
 obtain ⟨p1, p2⟩ := pp
 change HL _ _ _ [(p2, _), (p1, _)] _ _ _ _; refine Q1 rfl (LR rfl (vO (j := 0) rfl rfl rfl rfl rfl rfl (by decide) rfl) (LR rfl (Ka rfl rfl) ?_)); refine JI 4 rfl ?_; refine Jy (σ := Nat) (fun i => i ≤ 4) (fun i => [(0, .int .i64 f), (6, J1 (Yl f (codes0.take i) ([], false)).1), (7, .bool (Yl f (codes0.take i) ([], false)).2), (12, .slice (some ⟨p1, 0, none⟩) 4 4), (13, .int .i64 4), (14, .int .i64 (i : Int))]) (fun _ => [(p2, .cells (codes1.flatMap cdC).toArray 160 (0, 0)), (p1, .cells (codes0.flatMap cdC).toArray 160 (0, 0))]) (fun _ _ _ => True) (fun i => 4 - i) 0 (Nat.zero_le _) (lK rfl) (List.Sublist.refl _) (fun _ _ h => h) ?_; intro i hi1; refine JK 6 rfl ?_; refine cD (fun g => ?_) fun g => ?_
 refine JK 5 rfl ?_
 obtain ⟨p, hp, -⟩ := Qs (l := codes0) (show i < 4 by omega)
 refine Jq 1 rfl ?_; refine LR rfl (JF (j := i) (m := 2) (off' := i * 2) rfl rfl rfl rfl rfl (by omega) (by omega)) ?_; refine LR rfl (Js (n := 2) (vs := cdC p) rfl (kn 1 rfl) rfl rfl (Wn Jje hp) rfl) ?_; refine LN rfl fun r1 => ?_
 refine LT 0 rfl rfl ?_; refine Goc 10 [0] rfl rfl ?_; refine cD (fun g => ?_) fun g => ?_
 refine Vw 10 [0] rfl rfl ?_; refine Jc (by omega) (by omega) ?_; refine Jx 2 rfl ?_; refine Jv ?_; exact Jo (i + 1) (by omega) (by omega) (.cons rfl (.cons (by rw [Vn hp, if_pos (by omega)]; rfl) (.cons (by rw [Vn hp, if_pos (by omega)]; rfl) (lK rfl)))) (List.sublist_cons_self _ _) (fun _ _ h => h)
 refine Jq 5 rfl ?_; refine Jc (by omega) (by omega) ?_; refine Jx 2 rfl ?_; refine Jv ?_; exact Jo (i + 1) (by omega) (by omega) (.cons rfl (.cons (by rw [Vn hp, if_neg (by omega)]; rfl) (.cons (by rw [Vn hp, if_neg (by omega)]; rfl) (lK rfl)))) (List.sublist_cons_self _ _) (fun _ _ h => h)
 ·refine Kh 14 rfl ?_; refine Jg rfl rfl (.cons (Jj rfl) (.cons (Jj rfl) .nil)) (fun w1 hs1 => ?_); refine ⟨?_, hs1.keep⟩
  obtain rfl : i = 4 := by omega
  rw [← (qX hf).1]
  rfl
theorem J0v {f : Int} (hf : Qf f) : Pure Tryz.prog 56 [.int .i64 f, .int .i64 1].toArray (.tuple #[J1 (KG f 1).1, .bool (KG f 1).2]) := by
 refine Jl Tryz.func56 rfl rfl fun w => ?_; refine JD ?_; refine Jq 15 rfl ?_; refine JZ rfl rfl rfl (enters_of Tryz.func111 (by kernel_rfl) rfl) Jjf fun pp => ?_
 obtain ⟨p1, p2⟩ := pp
 change HL _ _ _ [(p2, _), (p1, _)] _ _ _ _; refine Q1 rfl (LR rfl (vO (j := 1) rfl rfl rfl rfl rfl rfl (by decide) rfl) (LR rfl (Ka rfl rfl) ?_)); refine JI 4 rfl ?_; refine Jy (σ := Nat) (fun i => i ≤ 1) (fun i => [(0, .int .i64 f), (6, J1 (Yl f (codes1.take i) ([], false)).1), (7, .bool (Yl f (codes1.take i) ([], false)).2), (12, .slice (some ⟨p2, 0, none⟩) 1 1), (13, .int .i64 1), (14, .int .i64 (i : Int))]) (fun _ => [(p2, .cells (codes1.flatMap cdC).toArray 160 (0, 0)), (p1, .cells (codes0.flatMap cdC).toArray 160 (0, 0))]) (fun _ _ _ => True) (fun i => 1 - i) 0 (Nat.zero_le _) (lK rfl) (List.Sublist.refl _) (fun _ _ h => h) ?_; intro i hi1; refine JK 6 rfl ?_; refine cD (fun g => ?_) fun g => ?_
 refine JK 5 rfl ?_
 obtain ⟨p, hp, -⟩ := Qs (l := codes1) (show i < 1 by omega)
 refine Jq 1 rfl ?_; refine LR rfl (JF (j := i) (m := 2) (off' := i * 2) rfl rfl rfl rfl rfl (by omega) (by omega)) ?_; refine LR rfl (Js (n := 2) (vs := cdC p) rfl (kn 0 rfl) rfl rfl (Wn Jje hp) rfl) ?_; refine LN rfl fun r1 => ?_
 refine LT 0 rfl rfl ?_; refine Goc 10 [0] rfl rfl ?_; refine cD (fun g => ?_) fun g => ?_
 refine Vw 10 [0] rfl rfl ?_; refine Jc (by omega) (by omega) ?_; refine Jx 2 rfl ?_; refine Jv ?_; exact Jo (i + 1) (by omega) (by omega) (.cons rfl (.cons (by rw [Vn hp, if_pos (by omega)]; rfl) (.cons (by rw [Vn hp, if_pos (by omega)]; rfl) (lK rfl)))) (List.sublist_cons_self _ _) (fun _ _ h => h)
 refine Jq 5 rfl ?_; refine Jc (by omega) (by omega) ?_; refine Jx 2 rfl ?_; refine Jv ?_; exact Jo (i + 1) (by omega) (by omega) (.cons rfl (.cons (by rw [Vn hp, if_neg (by omega)]; rfl) (.cons (by rw [Vn hp, if_neg (by omega)]; rfl) (lK rfl)))) (List.sublist_cons_self _ _) (fun _ _ h => h)
 ·refine Kh 14 rfl ?_; refine Jg rfl rfl (.cons (Jj rfl) (.cons (Jj rfl) .nil)) (fun w1 hs1 => ?_); refine ⟨?_, hs1.keep⟩
  obtain rfl : i = 1 := by omega
  rw [← (qX hf).2]
  rfl
def Qh (r o : Nat) : Value := .pointer (some ⟨r, o, none⟩)
theorem qw (r : Nat) : Pure Tryz.prog 179 [Qh r 0].toArray (Qh r 14) := by
 refine Jl Tryz.func179 rfl rfl fun w => ?_; refine JD ?_; refine Kh 14 rfl ?_; refine pT rfl rfl rfl fun w1 hs1 => ?_; exact ⟨rfl, hs1.keep⟩
theorem Jql (r : Nat) : Pure Tryz.prog 181 [Qh r 0].toArray (Qh r 0) := by
 refine Jl Tryz.func181 rfl rfl fun w => ?_; refine JD ?_; refine Kh 14 rfl ?_; refine pT rfl rfl rfl fun w1 hs1 => ?_; exact ⟨rfl, hs1.keep⟩
theorem Jqm (r : Nat) : Pure Tryz.prog 182 [Qh r 0].toArray (Qh r 1) := by
 refine Jl Tryz.func182 rfl rfl fun w => ?_; refine JD ?_; refine Kh 14 rfl ?_; refine pT rfl rfl rfl fun w1 hs1 => ?_; exact ⟨rfl, hs1.keep⟩
theorem Jqn (r : Nat) : Pure Tryz.prog 184 [Qh r 0].toArray (Qh r 2) := by
 refine Jl Tryz.func184 rfl rfl fun w => ?_; refine JD ?_; refine Kh 14 rfl ?_; refine pT rfl rfl rfl fun w1 hs1 => ?_; exact ⟨rfl, hs1.keep⟩
theorem Jqo (r : Nat) : Pure Tryz.prog 185 [Qh r 0].toArray (Qh r 10) := by
 refine Jl Tryz.func185 rfl rfl fun w => ?_; refine JD ?_; refine Kh 14 rfl ?_; refine pT rfl rfl rfl fun w1 hs1 => ?_; exact ⟨rfl, hs1.keep⟩
theorem Jqp (r : Nat) : Pure Tryz.prog 186 [Qh r 0].toArray (Qh r 15) := by
 refine Jl Tryz.func186 rfl rfl fun w => ?_; refine JD ?_; refine Kh 14 rfl ?_; refine pT rfl rfl rfl fun w1 hs1 => ?_; exact ⟨rfl, hs1.keep⟩
theorem Jqq (r : Nat) : Pure Tryz.prog 187 [Qh r 0].toArray (Qh r 6) := by
 refine Jl Tryz.func187 rfl rfl fun w => ?_; refine JD ?_; refine Kh 14 rfl ?_; refine pT rfl rfl rfl fun w1 hs1 => ?_; exact ⟨rfl, hs1.keep⟩
theorem Ja2 (r : Nat) : Pure Tryz.prog 188 [Qh r 0].toArray (Qh r 16) := by
 refine Jl Tryz.func188 rfl rfl fun w => ?_; refine JD ?_; refine Kh 14 rfl ?_; refine pT rfl rfl rfl fun w1 hs1 => ?_; exact ⟨rfl, hs1.keep⟩
theorem Jjg {R : Jm} {b1 b2 e1 e2 : Nat} {gl gh : FuncId} {ol oh x y : Nat} (egl : Enters Tryz.prog gl) (egh : Enters Tryz.prog gh) (hgl : ∀ ρ, Pure Tryz.prog gl [Qh ρ 0].toArray (Qh ρ ol)) (hgh : ∀ ρ, Pure Tryz.prog gh [Qh ρ 0].toArray (Qh ρ oh))
  (h1 : (b1, Obj.cells #[fV gl] e1 (0, 0)) ∈ R) (h2 : (b2, Obj.cells #[fV gh] e2 (0, 0)) ∈ R) (r : Rec) (hx : WJ r.cells ol = some (uV x)) (hy : WJ r.cells oh = some (uV y)) : PureR Tryz.prog 239 [r.val, Qh b1 0, Qh b2 0].toArray (wV [x, y, 0, 0]) R := by
 refine Jb Tryz.func239 rfl rfl fun w => ?_; refine JD ?_; refine Jq 2 rfl ?_; refine JR (cs := r.cells.toArray) rfl rfl rfl rfl fun rb => ?_; refine LN rfl fun r1 => ?_; refine JJ 4 rfl ?_; refine LR rfl (Je rfl (Or.inr h1) rfl rfl) ?_; refine Jn rfl rfl rfl egl (hgl rb) ?_; refine VQ rfl (LR rfl (Je rfl (kn 1 rfl) rfl hx) (Jn rfl rfl rfl qR (VK x) ?_)); refine LN rfl fun r2 => ?_
 refine LT 0 rfl rfl ?_; refine JJ 5 rfl ?_; refine LR rfl (Je rfl (Or.inr h2) rfl rfl) ?_; refine JI 3 rfl ?_; refine J0 rfl (fun g => ?_) (fun g => ?_)
 try simp only [ZZ] at g
 refine Jq 1 rfl ?_; refine LR rfl (Je rfl (Or.inr h2) rfl rfl) ?_; refine Jn rfl rfl rfl egh (hgh rb) ?_; refine VQ rfl (LR rfl (Je rfl (kn 2 rfl) rfl hy) ?_)
 refine LR rfl (JP (j := 1) rfl rfl rfl rfl rfl (by first | decide | omega) (by first | (simp only [Nat.zero_add, Nat.reduceAdd, Nat.reduceMul, Nat.zero_mul, Nat.mul_one, Nat.add_zero]; exact rfl) | exact rfl)) ?_
 refine LT 0 rfl rfl ?_; refine JJ 4 rfl ?_; refine LR rfl (Js (vs := [_, _, _, _]) rfl (kn 0 rfl) rfl rfl rfl rfl) ?_
 refine LT 1 rfl rfl ?_; refine Jx 3 rfl ?_; refine Jg rfl rfl (.cons (Jr (vs := [_, _, _, _]) rfl (kn 1 rfl) rfl rfl) .nil) (fun w1 hs1 => ?_); exact ⟨rfl, hs1.keep⟩
 ·try exact Bool.noConfusion g
theorem Jjh {R : Jm} {b1 b2 e1 e2 : Nat} {gl gh : FuncId} {ol oh x y : Nat} (egl : Enters Tryz.prog gl) (egh : Enters Tryz.prog gh) (hgl : ∀ ρ, Pure Tryz.prog gl [Qh ρ 0].toArray (Qh ρ ol)) (hgh : ∀ ρ, Pure Tryz.prog gh [Qh ρ 0].toArray (Qh ρ oh))
  (h1 : (b1, Obj.cells #[fV gl] e1 (0, 0)) ∈ R) (h2 : (b2, Obj.cells #[.nilFunc] e2 (0, 0)) ∈ R) (r : Rec) (hx : WJ r.cells ol = some (uV x)) (hy : WJ r.cells oh = some (uV y)) : PureR Tryz.prog 239 [r.val, Qh b1 0, Qh b2 0].toArray (wV [x, 0, 0, 0]) R := by
 refine Jb Tryz.func239 rfl rfl fun w => ?_; refine JD ?_; refine Jq 2 rfl ?_; refine JR (cs := r.cells.toArray) rfl rfl rfl rfl fun rb => ?_; refine LN rfl fun r1 => ?_; refine JJ 4 rfl ?_; refine LR rfl (Je rfl (Or.inr h1) rfl rfl) ?_; refine Jn rfl rfl rfl egl (hgl rb) ?_; refine VQ rfl (LR rfl (Je rfl (kn 1 rfl) rfl hx) (Jn rfl rfl rfl qR (VK x) ?_)); refine LN rfl fun r2 => ?_
 refine LT 0 rfl rfl ?_; refine JJ 5 rfl ?_; refine LR rfl (Je rfl (Or.inr h2) rfl rfl) ?_; refine JI 3 rfl ?_; refine J0 rfl (fun g => ?_) (fun g => ?_)
 try exact Bool.noConfusion g
 ·try simp only [ZZ] at g
  refine Jq 4 rfl ?_; refine LR rfl (Js (vs := [_, _, _, _]) rfl (kn 0 rfl) rfl rfl rfl rfl) ?_
  refine LT 1 rfl rfl ?_; refine Jx 3 rfl ?_; refine Jg rfl rfl (.cons (Jr (vs := [_, _, _, _]) rfl (kn 1 rfl) rfl rfl) .nil) (fun w1 hs1 => ?_); exact ⟨rfl, hs1.keep⟩
theorem Ja3 {R : Jm} {b1 e1 : Nat} {g : FuncId} {o : Nat} {x : W4} (eg : Enters Tryz.prog g) (hg : ∀ ρ, Pure Tryz.prog g [Qh ρ 0].toArray (Qh ρ o)) (h1 : (b1, Obj.cells #[fV g] e1 (0, 0)) ∈ R) (r : Rec) (hx : (r.cells.drop o).take 4 = x.l.map uV) : PureR Tryz.prog 241 [r.val, Qh b1 0].toArray (wV x.l) R := by
 refine Jb Tryz.func241 rfl rfl fun w => ?_; refine JD ?_; refine Jq 2 rfl ?_; refine JR (cs := r.cells.toArray) rfl rfl rfl rfl fun rb => ?_; refine LN rfl fun r1 => ?_; refine JJ 4 rfl ?_; refine LR rfl (Je rfl (Or.inr h1) rfl rfl) ?_; refine Jn rfl rfl rfl eg (hg rb) ?_; refine VQ rfl (LR rfl (Js (n := 4) (vs := x.l.map uV) rfl (kn 1 rfl) rfl rfl hx rfl) ?_)
 refine LT 0 rfl rfl ?_; refine Jx 3 rfl ?_; refine Jg rfl rfl (.cons (Jr (vs := [_, _, _, _]) rfl (kn 0 rfl) rfl rfl) .nil) (fun w1 hs1 => ?_); exact ⟨rfl, hs1.keep⟩
theorem Jji {R : Jm} {ρ b1 b2 e1 e2 : Nat} {gl gh : FuncId} {ol oh : Nat} (egl : Enters Tryz.prog gl) (egh : Enters Tryz.prog gh) (hgl : ∀ ρ, Pure Tryz.prog gl [Qh ρ 0].toArray (Qh ρ ol)) (hgh : ∀ ρ, Pure Tryz.prog gh [Qh ρ 0].toArray (Qh ρ oh))
  (h1 : (b1, Obj.cells #[fV gl] e1 (0, 0)) ∈ R) (h2 : (b2, Obj.cells #[fV gh] e2 (0, 0)) ∈ R) (r : Rec) (w4 : W4) (ho : ol < 17) (ho2 : oh < 17) : PureT (α := Unit) Tryz.prog 240 [Qh ρ 0, wV w4.l, Qh b1 0, Qh b2 0].toArray (fun _ => .tuple #[]) [(ρ, .cells r.cells.toArray 29 (0, 0))] (fun _ => [(ρ, .cells ((r.cells.set ol (uV w4.a)).set oh (uV w4.b)).toArray 29 (0, 0))]) R := by
 refine Jw Tryz.func240 rfl rfl fun w => ?_; refine JD ?_; refine Jq 2 rfl ?_; refine LN rfl fun r1 => ?_; refine JI 3 rfl ?_; refine JE 5 (by kernel_rfl) (by kernel_rfl) ?_; refine Ja rfl rfl rfl (Je rfl (Or.inr h1) rfl rfl) ?_; refine Ja rfl rfl rfl (Jf rfl) ?_; refine Ky rfl rfl rfl egl (hgl ρ) ?_
 refine Ja rfl rfl rfl (JP (j := 0) rfl rfl rfl rfl rfl (by first | decide | omega) (by first | (simp only [Nat.zero_add, Nat.reduceAdd, Nat.reduceMul, Nat.zero_mul, Nat.mul_one, Nat.add_zero]; exact rfl) | exact rfl)) ?_; refine Ja rfl rfl rfl (Je rfl (kn 0 rfl) rfl rfl) ?_; refine JS ?_; refine VQ rfl ?_; refine Kn (k := 1) (cs' := (r.cells.set ol (uV w4.a)).toArray) rfl rfl rfl rfl rfl rfl (by rw [List.getElem?_toArray, List.getElem?_eq_getElem (show ol < r.cells.length from ho)]; rfl) rfl (by simp) rfl ?_; refine JJ 4 rfl ?_; refine LR rfl (Je rfl (Or.inr h2) rfl rfl) ?_; refine JI 3 rfl ?_; refine J0 rfl (fun g => ?_) (fun g => ?_)
 try simp only [ZZ] at g
 refine JE 5 (by kernel_rfl) (by kernel_rfl) ?_; refine Ja rfl rfl rfl (Je rfl (Or.inr h2) rfl rfl) ?_; refine Ja rfl rfl rfl (Jf rfl) ?_; refine Ky rfl rfl rfl egh (hgh ρ) ?_
 refine Ja rfl rfl rfl (JP (j := 1) rfl rfl rfl rfl rfl (by first | decide | omega) (by first | (simp only [Nat.zero_add, Nat.reduceAdd, Nat.reduceMul, Nat.zero_mul, Nat.mul_one, Nat.add_zero]; exact rfl) | exact rfl)) ?_; refine Ja rfl rfl rfl (Je rfl (kn 0 rfl) rfl rfl) ?_; refine JS ?_; refine VQ rfl ?_; refine Kn (k := 1) (cs' := ((r.cells.set ol (uV w4.a)).set oh (uV w4.b)).toArray) rfl rfl rfl rfl rfl rfl (by rw [List.getElem?_toArray, List.getElem?_eq_getElem (show oh < (r.cells.set ol (uV w4.a)).length from by rw [List.length_set]; exact ho2)]; rfl) rfl (by simp) rfl ?_; refine Jx 1 rfl ?_; refine Kv rfl rfl .nil (fun w1 hs1 => ?_); exact ⟨(), rfl, hs1.weakL (List.sublist_cons_self _ _)⟩
 ·try exact Bool.noConfusion g
theorem Jjj {R : Jm} {ρ b1 b2 e1 e2 : Nat} {gl gh : FuncId} {ol oh : Nat} (egl : Enters Tryz.prog gl) (egh : Enters Tryz.prog gh) (hgl : ∀ ρ, Pure Tryz.prog gl [Qh ρ 0].toArray (Qh ρ ol)) (hgh : ∀ ρ, Pure Tryz.prog gh [Qh ρ 0].toArray (Qh ρ oh))
  (h1 : (b1, Obj.cells #[fV gl] e1 (0, 0)) ∈ R) (h2 : (b2, Obj.cells #[.nilFunc] e2 (0, 0)) ∈ R) (r : Rec) (w4 : W4) (ho : ol < 17) (ho2 : oh < 17) : PureT (α := Unit) Tryz.prog 240 [Qh ρ 0, wV w4.l, Qh b1 0, Qh b2 0].toArray (fun _ => .tuple #[]) [(ρ, .cells r.cells.toArray 29 (0, 0))] (fun _ => [(ρ, .cells (r.cells.set ol (uV w4.a)).toArray 29 (0, 0))]) R := by
 refine Jw Tryz.func240 rfl rfl fun w => ?_; refine JD ?_; refine Jq 2 rfl ?_; refine LN rfl fun r1 => ?_; refine JI 3 rfl ?_; refine JE 5 (by kernel_rfl) (by kernel_rfl) ?_; refine Ja rfl rfl rfl (Je rfl (Or.inr h1) rfl rfl) ?_; refine Ja rfl rfl rfl (Jf rfl) ?_; refine Ky rfl rfl rfl egl (hgl ρ) ?_
 refine Ja rfl rfl rfl (JP (j := 0) rfl rfl rfl rfl rfl (by first | decide | omega) (by first | (simp only [Nat.zero_add, Nat.reduceAdd, Nat.reduceMul, Nat.zero_mul, Nat.mul_one, Nat.add_zero]; exact rfl) | exact rfl)) ?_; refine Ja rfl rfl rfl (Je rfl (kn 0 rfl) rfl rfl) ?_; refine JS ?_; refine VQ rfl ?_; refine Kn (k := 1) (cs' := (r.cells.set ol (uV w4.a)).toArray) rfl rfl rfl rfl rfl rfl (by rw [List.getElem?_toArray, List.getElem?_eq_getElem (show ol < r.cells.length from ho)]; rfl) rfl (by simp) rfl ?_; refine JJ 4 rfl ?_; refine LR rfl (Je rfl (Or.inr h2) rfl rfl) ?_; refine JI 3 rfl ?_; refine J0 rfl (fun g => ?_) (fun g => ?_)
 try exact Bool.noConfusion g
 ·try simp only [ZZ] at g
  refine Kh 1 rfl ?_; refine Kv rfl rfl .nil (fun w1 hs1 => ?_); exact ⟨(), rfl, hs1.weakL (List.sublist_cons_self _ _)⟩
theorem Ja4 {R : Jm} {ρ b1 e1 : Nat} {g : FuncId} {o : Nat} {cs : List Value} (eg : Enters Tryz.prog g) (hg : ∀ ρ, Pure Tryz.prog g [Qh ρ 0].toArray (Qh ρ o)) (h1 : (b1, Obj.cells #[fV g] e1 (0, 0)) ∈ R) (r : Rec) (w4 : W4) (ho : o + 4 ≤ 17) (hcs : r.cells.take o ++ w4.l.map uV ++ r.cells.drop (o + 4) = cs) : PureT (α := Unit) Tryz.prog 242 [Qh ρ 0, wV w4.l, Qh b1 0].toArray (fun _ => .tuple #[]) [(ρ, .cells r.cells.toArray 29 (0, 0))] (fun _ => [(ρ, .cells cs.toArray 29 (0, 0))]) R := by
 refine Jw Tryz.func242 rfl rfl fun w => ?_; refine JD ?_; refine Jq 2 rfl ?_; refine LN rfl fun r1 => ?_; refine JI 2 rfl ?_; refine JE 4 (by kernel_rfl) (by kernel_rfl) ?_; refine Ja rfl rfl rfl (Je rfl (Or.inr h1) rfl rfl) ?_; refine Ja rfl rfl rfl (Jf rfl) ?_; refine Ky rfl rfl rfl eg (hg ρ) ?_; refine Ja rfl rfl rfl (Js (vs := [_, _, _, _]) rfl (kn 0 rfl) rfl rfl rfl rfl) ?_; refine JS ?_; refine VQ rfl (Qm (k := 1) (n := 4) (vs := (w4.l.map uV).toArray) (cs' := cs.toArray) rfl rfl rfl rfl rfl rfl rfl ho (by rw [← hcs]) rfl (Jx 1 rfl ?_)); refine Kv rfl rfl .nil (fun w1 hs1 => ?_); exact ⟨(), rfl, hs1.weakL (List.sublist_cons_self _ _)⟩
def frN : Nat → Int
 | 0 => 0
 | 1 => 0
 | 2 => 0
 | 3 => 0
 | 4 => 3
 | 5 => 3
 | _ => 5
def toN : Nat → Int
 | 0 => 5
 | 1 => 5
 | 2 => 2
 | 3 => 2
 | 4 => 5
 | 5 => 5
 | _ => 5
def Jqr : Nat → FuncId
 | 0 => 239
 | 1 => 241
 | 2 => 241
 | 3 => 239
 | 4 => 239
 | 5 => 241
 | _ => 239
def Jqs : Nat → FuncId
 | 0 => 240
 | 1 => 242
 | 2 => 242
 | 3 => 240
 | 4 => 240
 | 5 => 242
 | _ => 240
def Jjk (p : Nat → Nat) : Nat → List Value
 | 0 => [Qh (p 1) 0, Qh (p 2) 0]
 | 1 => [Qh (p 3) 0]
 | 2 => [Qh (p 4) 0]
 | 3 => [Qh (p 5) 0, Qh (p 6) 0]
 | 4 => [Qh (p 7) 0, Qh (p 8) 0]
 | 5 => [Qh (p 9) 0]
 | _ => [Qh (p 10) 0, Qh (p 11) 0]
def ZO (p : Nat → Nat) : Nat → Jm
 | 0 => [(p 2, .cells #[fV 182] 214 (0, 0)), (p 1, .cells #[fV 181] 214 (0, 0))]
 | 1 => [(p 3, .cells #[fV 184] 218 (0, 0))]
 | 2 => [(p 4, .cells #[fV 185] 218 (0, 0))]
 | 3 => [(p 6, .cells #[.nilFunc] 214 (0, 0)), (p 5, .cells #[fV 179] 214 (0, 0))]
 | 4 => [(p 8, .cells #[fV 186] 214 (0, 0)), (p 7, .cells #[fV 179] 214 (0, 0))]
 | 5 => [(p 9, .cells #[fV 187] 218 (0, 0))]
 | _ => [(p 11, .cells #[.nilFunc] 214 (0, 0)), (p 10, .cells #[fV 188] 214 (0, 0))]
def wZ (p : Nat → Nat) (i : Nat) : List Value := [uV (VN i), .int .i64 (frN i), .int .i64 (toN i), .func (.func (Jqr i)) #[] (Jjk p i).toArray, .func (.func (Jqs i)) #[] (Jjk p i).toArray]
theorem Jqt (p : Nat → Nat) (i : Nat) : (wZ p i).length = 5 := rfl
theorem Jvh {i : Nat} (h : i < 7) : tab[i]? = some i := by
 have : i = 0 ∨ i = 1 ∨ i = 2 ∨ i = 3 ∨ i = 4 ∨ i = 5 ∨ i = 6 := by omega
 rcases this with rfl | rfl | rfl | rfl | rfl | rfl | rfl <;> rfl
theorem lt7 {i : Nat} (h : i < 7) : i = 0 ∨ i = 1 ∨ i = 2 ∨ i = 3 ∨ i = 4 ∨ i = 5 ∨ i = 6 := by omega
theorem Jqu {f : Int} (hf : Qf f) {i : Nat} (hi : i < 7) : YE f i = (decide (f ≥ frN i) && decide (f ≤ toN i)) := by
 rcases Yu hf with rfl | rfl | rfl | rfl | rfl | rfl <;> rcases lt7 hi with rfl | rfl | rfl | rfl | rfl | rfl | rfl <;> rfl
theorem qY {i : Nat} (h : i < 7) : Enters Tryz.prog (Jqr i) := by
 rcases lt7 h with rfl | rfl | rfl | rfl | rfl | rfl | rfl
 ·exact Jig
 ·exact Jos
 ·exact Jos
 ·exact Jig
 ·exact Jig
 ·exact Jos
 ·exact Jig
theorem Jem {i : Nat} (h : i < 7) : Enters Tryz.prog (Jqs i) := by
 rcases lt7 h with rfl | rfl | rfl | rfl | rfl | rfl | rfl
 ·exact Jih
 ·exact Jot
 ·exact Jot
 ·exact Jih
 ·exact Jih
 ·exact Jot
 ·exact Jih
theorem Jjl {R : Jm} {p : Nat → Nat} {i : Nat} (hi : i < 7) (hR : ∀ q ∈ ZO p i, q ∈ R) (r : Rec) : PureR Tryz.prog (Jqr i) (r.val :: Jjk p i).toArray (wV (Xm r i).l) R := by
 rcases lt7 hi with rfl | rfl | rfl | rfl | rfl | rfl | rfl
 ·exact Jjg (enters_of Tryz.func181 (by kernel_rfl) rfl) (enters_of Tryz.func182 (by kernel_rfl) rfl) Jql Jqm (hR _ (List.mem_cons_of_mem _ List.mem_cons_self)) (hR _ List.mem_cons_self) r rfl rfl
 ·exact Ja3 (enters_of Tryz.func184 (by kernel_rfl) rfl) Jqn (hR _ List.mem_cons_self) r rfl
 ·exact Ja3 (enters_of Tryz.func185 (by kernel_rfl) rfl) Jqo (hR _ List.mem_cons_self) r rfl
 ·exact Jjh zv zv qw qw (hR _ (List.mem_cons_of_mem _ List.mem_cons_self)) (hR _ List.mem_cons_self) r rfl rfl
 ·exact Jjg zv (enters_of Tryz.func186 (by kernel_rfl) rfl) qw Jqp (hR _ (List.mem_cons_of_mem _ List.mem_cons_self)) (hR _ List.mem_cons_self) r rfl rfl
 ·exact Ja3 (enters_of Tryz.func187 (by kernel_rfl) rfl) Jqq (hR _ List.mem_cons_self) r rfl
 ·exact Jjh Jic Jic Ja2 Ja2 (hR _ (List.mem_cons_of_mem _ List.mem_cons_self)) (hR _ List.mem_cons_self) r rfl rfl
theorem Jvi {R : Jm} {p : Nat → Nat} {i ρ : Nat} (hi : i < 7) (hR : ∀ q ∈ ZO p i, q ∈ R) (r : Rec) (w4 : W4) : PureT (α := Unit) Tryz.prog (Jqs i) (Qh ρ 0 :: wV w4.l :: Jjk p i).toArray (fun _ => .tuple #[]) [(ρ, .cells r.cells.toArray 29 (0, 0))] (fun _ => [(ρ, .cells (wh r w4 i).cells.toArray 29 (0, 0))]) R := by
 rcases lt7 hi with rfl | rfl | rfl | rfl | rfl | rfl | rfl
 ·exact Jji (enters_of Tryz.func181 (by kernel_rfl) rfl) (enters_of Tryz.func182 (by kernel_rfl) rfl) Jql Jqm (hR _ (List.mem_cons_of_mem _ List.mem_cons_self)) (hR _ List.mem_cons_self) r w4 (by decide) (by decide)
 ·exact Ja4 (enters_of Tryz.func184 (by kernel_rfl) rfl) Jqn (hR _ List.mem_cons_self) r w4 (by decide) rfl
 ·exact Ja4 (enters_of Tryz.func185 (by kernel_rfl) rfl) Jqo (hR _ List.mem_cons_self) r w4 (by decide) rfl
 ·exact Jjj zv zv qw qw (hR _ (List.mem_cons_of_mem _ List.mem_cons_self)) (hR _ List.mem_cons_self) r w4 (by decide) (by decide)
 ·exact Jji zv (enters_of Tryz.func186 (by kernel_rfl) rfl) qw Jqp (hR _ (List.mem_cons_of_mem _ List.mem_cons_self)) (hR _ List.mem_cons_self) r w4 (by decide) (by decide)
 ·exact Ja4 (enters_of Tryz.func187 (by kernel_rfl) rfl) Jqq (hR _ List.mem_cons_self) r w4 (by decide) rfl
 ·exact Jjj Jic Jic Ja2 Ja2 (hR _ (List.mem_cons_of_mem _ List.mem_cons_self)) (hR _ List.mem_cons_self) r w4 (by decide) (by decide)
theorem zJ (k : Nat) (a b : Int) (gl gh : FuncId) : PureE (α := Nat × Nat) Tryz.prog 180 [uV k, .int .i64 a, .int .i64 b, fV gl, fV gh].toArray (fun p => .agg #[uV k, .int .i64 a, .int .i64 b, .func (.func 239) #[] #[Qh p.1 0, Qh p.2 0], .func (.func 240) #[] #[Qh p.1 0, Qh p.2 0]]) (fun p => [(p.2, .cells #[fV gh] 214 (0, 0)), (p.1, .cells #[fV gl] 214 (0, 0))]) := by
 refine Kf Tryz.func180 rfl rfl fun w => ?_; refine JD ?_; refine Jq 2 rfl ?_; refine LN rfl fun r1 => ?_; refine LN rfl fun r2 => ?_; refine LN rfl fun r3 => ?_; refine JJ 4 rfl ?_; refine LR rfl (JN rfl rfl) ?_; refine JJ 5 rfl ?_; refine LR rfl (JN rfl rfl) ?_; refine JJ 10 rfl ?_; refine LR rfl (Jt (r := [_, _, _, _, _]) rfl rfl) ?_
 refine LT 0 rfl rfl ?_; refine Jx 3 rfl ?_; refine Jg rfl rfl (.cons (Jr (vs := [_, _, _, _, _]) rfl (kn 0 rfl) rfl rfl) .nil) (fun w1 hs1 => ?_); exact ⟨(r1, r2), rfl, hs1.weakL (List.sublist_cons_self _ _)⟩
theorem zK (k : Nat) (a b : Int) (gl gh : FuncId) : PureE (α := Nat × Nat) Tryz.prog 180 [uV k, .int .i64 a, .int .i64 b, fV gl, .nilFunc].toArray (fun p => .agg #[uV k, .int .i64 a, .int .i64 b, .func (.func 239) #[] #[Qh p.1 0, Qh p.2 0], .func (.func 240) #[] #[Qh p.1 0, Qh p.2 0]]) (fun p => [(p.2, .cells #[.nilFunc] 214 (0, 0)), (p.1, .cells #[fV gl] 214 (0, 0))]) := by
 refine Kf Tryz.func180 rfl rfl fun w => ?_; refine JD ?_; refine Jq 2 rfl ?_; refine LN rfl fun r1 => ?_; refine LN rfl fun r2 => ?_; refine LN rfl fun r3 => ?_; refine JJ 4 rfl ?_; refine LR rfl (JN rfl rfl) ?_; refine JJ 5 rfl ?_; refine LR rfl (JN rfl rfl) ?_; refine JJ 10 rfl ?_; refine LR rfl (Jt (r := [_, _, _, _, _]) rfl rfl) ?_
 refine LT 0 rfl rfl ?_; refine Jx 3 rfl ?_; refine Jg rfl rfl (.cons (Jr (vs := [_, _, _, _, _]) rfl (kn 0 rfl) rfl rfl) .nil) (fun w1 hs1 => ?_); exact ⟨(r1, r2), rfl, hs1.weakL (List.sublist_cons_self _ _)⟩
theorem Ja5 (k : Nat) (a b : Int) (g : FuncId) : PureE (α := Nat) Tryz.prog 183 [uV k, .int .i64 a, .int .i64 b, fV g].toArray (fun p => .agg #[uV k, .int .i64 a, .int .i64 b, .func (.func 241) #[] #[Qh p 0], .func (.func 242) #[] #[Qh p 0]]) (fun p => [(p, .cells #[fV g] 218 (0, 0))]) := by
 refine Kf Tryz.func183 rfl rfl fun w => ?_; refine JD ?_; refine Jq 2 rfl ?_; refine LN rfl fun r1 => ?_; refine LN rfl fun r2 => ?_; refine JJ 7 rfl ?_; refine LR rfl (JN rfl rfl) ?_; refine LR rfl (JN rfl rfl) ?_; refine LR rfl (Jt (r := [_, _, _, _, _]) rfl rfl) ?_
 refine LT 0 rfl rfl ?_; refine Jx 3 rfl ?_; refine Jg rfl rfl (.cons (Jr (vs := [_, _, _, _, _]) rfl (kn 0 rfl) rfl rfl) .nil) (fun w1 hs1 => ?_); exact ⟨r1, rfl, hs1.weakL (List.sublist_cons_self _ _)⟩
def Jqv (p : Nat → Nat) : Jm := (p 0, .cells (tab.flatMap (wZ p)).toArray 108 (0, 0)) :: (ZO p 6 ++ (ZO p 5 ++ (ZO p 4 ++ (ZO p 3 ++ (ZO p 2 ++ (ZO p 1 ++ ZO p 0))))))
theorem Jvj : PureE (α := Nat → Nat) Tryz.prog 113 [].toArray (fun p => .slice (some ⟨p 0, 0, none⟩) 7 7) Jqv := by
 refine Kf Tryz.func113 rfl rfl fun w => ?_; refine JD ?_; refine Jq 12 rfl ?_; refine JZ rfl rfl rfl Jib (zJ 0 0 5 181 182) fun pp => ?_
 obtain ⟨a1, a2⟩ := pp
 refine JZ rfl rfl rfl Jop (Ja5 1 0 5 184) fun a3 => ?_; refine JZ rfl rfl rfl Jop (Ja5 5 0 2 185) fun a4 => ?_; refine Q1 rfl (JZ rfl rfl rfl Jib (zK 6 0 2 179 179) fun pp => ?_)
 obtain ⟨a5, a6⟩ := pp
 refine Q1 rfl (JZ rfl rfl rfl Jib (zJ 3 3 5 179 186) fun pp => ?_)
 obtain ⟨a7, a8⟩ := pp
 refine JZ rfl rfl rfl Jop (Ja5 7 3 5 187) fun a9 => ?_; refine JZ rfl rfl rfl Jib (zK 8 5 5 188 188) fun pp => ?_
 obtain ⟨a10, a11⟩ := pp
 refine J4 (n := 7) (sz := 5) (vs := [_, _, _, _, _, _, _]) (zs := [_, _, _, _, _, _, _, _, _, _, _, _, _, _, _, _, _, _, _, _, _, _, _, _, _, _, _, _, _, _, _, _, _, _, _]) (r := tab.flatMap (wZ ([0, a1, a2, a3, a4, a5, a6, a7, a8, a9, a10, a11].getD · 0))) rfl rfl rfl rfl rfl rfl rfl rfl rfl (by rw [JO]; exact rfl) rfl fun rt => ?_; refine Jx 4 rfl ?_; refine pT rfl rfl rfl fun w1 hs1 => ?_; exact ⟨([rt, a1, a2, a3, a4, a5, a6, a7, a8, a9, a10, a11].getD · 0), rfl, hs1⟩
theorem Jqw (f : Int) : PureE (α := Nat) Tryz.prog 57 [.int .i64 f].toArray (fun p => .func (.func 112) #[] #[Qh p 0]) (fun p => [(p, .cells #[.int .i64 f] 3 (0, 0))]) := by
 refine Kf Tryz.func57 rfl rfl fun w => ?_; refine JD ?_; refine Jq 2 rfl ?_; refine LN rfl fun r1 => ?_; refine JJ 5 rfl ?_; refine LR rfl (JN rfl rfl) ?_; refine Jx 4 rfl ?_; refine pT rfl rfl rfl fun w1 hs1 => ?_; exact ⟨r1, rfl, hs1⟩
def nxT (f : Int) : Nat → List Value → Jm → Nat → Prop := fun i v B i' => i < 7 ∧ i' = i + 1 ∧ ∃ p : Nat → Nat, v = [.agg (wZ p i).toArray, .bool (YE f i)] ∧ B = ZO p i
theorem Jqx {p : Nat → Nat} {i : Nat} (hi : i < 7) : ∀ q ∈ ZO p i, q ∈ Jqv p := by
 intro q hq
 unfold Jqv
 rcases lt7 hi with rfl | rfl | rfl | rfl | rfl | rfl | rfl <;> simp only [List.mem_cons, List.mem_append, hq, true_or, or_true]
theorem Jvk {f : Int} (hf : Qf f) {i : Nat} (hi : i < 7) (h : f ≥ frN i) : decide (f ≤ toN i) = YE f i := by rw [Jqu hf hi, decide_eq_true h, Bool.true_and]
theorem Jys {f : Int} (hf : Qf f) {i : Nat} (hi : i < 7) (h : ¬ f ≥ frN i) : false = YE f i := by rw [Jqu hf hi, decide_eq_false h, Bool.false_and]
theorem Jqy {f : Int} (hf : Qf f) (b : Nat) : Jha Tryz.prog 112 [Qh b 0] [(b, .cells #[.int .i64 f] 3 (0, 0))] 0 (nxT f) (fun i => i = 7) := by
  refine qN Tryz.func112 rfl rfl fun q xids w2 XI XF hY => ?_; refine JD ?_; refine Jq 2 rfl ?_; refine JZ rfl rfl rfl (enters_of Tryz.func113 (by kernel_rfl) rfl) Jvj fun p => ?_; change HL _ _ _ (Jqv p ++ []) _ _ _ _; rw [List.append_nil]; refine LR rfl (Ka rfl rfl) ?_; refine JI 4 rfl ?_; refine Jy (σ := Nat) (fun i => i ≤ 7) (fun i => [(0, .func (.yield q) #[] #[]), (1, Qh b 0), (5, .slice (some ⟨p 0, 0, none⟩) 7 7), (6, .int .i64 7), (7, .int .i64 (i : Int))]) (fun _ => Jqv p) (fun i => XI i) (fun i => 7 - i) 0 (Nat.zero_le _) (lK rfl) (List.Sublist.refl _) (fun _ _ h => h) ?_; intro i hi1; refine JK 6 rfl ?_; refine cD (fun g => ?_) fun g => ?_
  · refine Jq 6 rfl ?_; refine LR rfl (JF (j := i) (m := 5) (off' := i * 5) rfl rfl rfl rfl rfl (by omega) (by omega)) ?_; refine LR rfl (Js (n := 5) (vs := wZ p i) rfl (Or.inl List.mem_cons_self) rfl rfl (Wn (Jqt p) (Jvh (by omega))) rfl) ?_; refine LN rfl fun r1 => ?_
    refine LT 0 rfl rfl ?_; refine Xf 6 [0] rfl rfl ?_; refine LR rfl (Je rfl (J5 (k := 0) rfl) rfl rfl) ?_; refine LS 4 [0] rfl rfl ?_
    refine J6 17 rfl (fun gb => ?_) (fun gb => ?_) <;> (try simp only [ZZ] at gb) <;> first | (refine LR rfl (Je rfl (kn 0 rfl) rfl rfl) ?_) | (refine LR rfl (Je rfl (kn 1 rfl) rfl rfl) ?_) | (refine LR rfl (Je rfl (J5 (k := 0) rfl) rfl rfl) ?_) | (refine LK rfl ?_)
    all_goals first | refine LR rfl (JA rfl rfl rfl) ?_ | refine LK rfl ?_
    all_goals refine LW 3 [0] rfl rfl ?_
    all_goals first | (refine J3 (congrArg Value.bool (Jvk hf (by omega) (by assumption))) ?_) | (refine J3 (congrArg Value.bool (Jys hf (show i < 7 by omega) (by omega))) ?_)
    all_goals refine jU (B := ZO p i) (XT := XI (i + 1)) (XF := XF) rfl rfl rfl rfl (hY i [.agg (wZ p i).toArray, .bool (YE f i)] (ZO p i) (i + 1) ⟨by omega, rfl, p, rfl, rfl⟩) (fun q hq => List.mem_cons_of_mem _ (Jqx (by omega) q hq)) ?_ ?_
    all_goals (
     refine Jx 2 rfl (XN 1 rfl ?_); refine J0 rfl (fun g => ?_) (fun g => ?_)
     · try exact Bool.noConfusion g
       all_goals try simp only [ZZ] at g
       all_goals (
        refine Kh 5 rfl ?_; refine Jg rfl rfl .nil (fun w1 hs1 => ?_)
        obtain ⟨xs1, hx1⟩ := hs1.now
        exact ⟨⟨_, rfl⟩, hs1.keep, .inr ⟨_, hx1⟩⟩
        skip)
     · try exact Bool.noConfusion g
       all_goals try simp only [ZZ] at g
       all_goals (
        refine Jq 5 rfl ?_; refine Jc (by omega) (by omega) ?_; refine Jx 2 rfl ?_; refine Jv ?_; exact Jo (i + 1) (by omega) (by omega) (lK rfl) (List.sublist_cons_self _ _) (fun _ _ h => h)
        skip)
     skip)
  · refine Kh 4 rfl ?_; refine Kv rfl rfl .nil (fun w1 hs1 => ?_)
    obtain ⟨xs1, hx1⟩ := hs1.now
    exact ⟨⟨_, rfl⟩, hs1.keep, .inl ⟨i, _, (by show i = 7; omega), hx1⟩⟩
theorem qx {f : Int} {g : Nat → W4} {i : Nat} : ∀ (l : List Nat) (out : Rec), Yc f g (l ++ [i]) out = if YE f i then wh (Yc f g l out) (g i) i else Yc f g l out
 | [], out => rfl
 | j :: l, out => by rw [List.cons_append, Yc, Yc, qx l]
theorem Jen {i : Nat} (h : i < 7) : tab.take (i + 1) = tab.take i ++ [i] := by
 rcases lt7 h with rfl | rfl | rfl | rfl | rfl | rfl | rfl <;> rfl
theorem Jjm {f : Int} : ∀ i v B i', nxT f i v B i' → v.length = 2 := by
 rintro i v B i' ⟨_, _, p, rfl, _⟩; rfl
theorem Jyt {f : Int} (hf : Qf f) (r : Rec) : Pure Tryz.prog 117 [.int .i64 f, r.val].toArray (qJ f r).val := by
 refine Jl Tryz.func117 rfl rfl fun w => ?_; refine JD ?_; refine Jq 2 rfl ?_; refine JR (cs := r.cells.toArray) rfl rfl rfl rfl fun rb => ?_; refine LN rfl fun r1 => ?_; refine JJ 4 rfl ?_; refine LN rfl fun r2 => ?_; refine JJ 6 rfl ?_; refine JZ rfl rfl rfl (enters_of Tryz.func57 (by kernel_rfl) rfl) (Jqw f) fun b => ?_; refine JI 3 rfl ?_; refine QX [1, 0, 2, 3] (by decide) rfl ?_; refine XY (τ := Unit) (fun i (s : Rec) => i ≤ 7 ∧ s = Yc f (Xm r) (tab.take i) rec0) (fun s => [(r2, .cells s.cells.toArray 29 (0, 0))]) (fun _ _ => False) (fun _ => []) [(b, .cells #[.int .i64 f] 3 (0, 0)), (r1, .cells rec0.cells.toArray 29 (0, 0)), (rb, .cells r.cells.toArray 29 (0, 0))] rec0 rfl rfl (enters_of Tryz.func112 (by kernel_rfl) rfl) (Jqy hf b) Jjm rfl (by simp) rfl ⟨by decide, rfl⟩ ?_ ?_ ?_
 rintro q Xr Xb w3 i _ _ _ s ⟨hi, rfl, p, rfl, rfl⟩ ⟨-, hs⟩ Kr hKr; refine inR ?_
 refine Jq 2 rfl ?_; refine LN rfl fun r3 => ?_
 refine LT 0 rfl rfl ?_; refine Jx 5 rfl ?_; refine hKr _ _ ?_; refine JD ?_; clear hKr; refine JK 6 rfl ?_; refine cD (fun g => ?_) fun g => ?_
 refine JE 6 (by kernel_rfl) (by kernel_rfl) ?_
 refine Ja rfl rfl rfl (JA rfl rfl rfl) ?_; refine Ja rfl rfl rfl (Je rfl (kn 0 rfl) rfl rfl) ?_
 refine Ja rfl rfl rfl (JA rfl rfl rfl) ?_; refine Ja rfl rfl rfl (Je rfl (kn 0 rfl) rfl rfl) ?_; refine Ja rfl rfl rfl (Jd (xs := r.cells) (n := 17) rfl (Or.inr (List.mem_append_left _ (List.mem_append_right _ (List.mem_cons_of_mem _ (List.mem_cons_of_mem _ List.mem_cons_self))))) rfl rfl rfl) ?_; refine V3 rfl rfl rfl (qY hi) (Jjl hi (fun q hq => hq) r) (fun q hq => Or.inr (List.mem_append_left _ (List.mem_append_left _ hq))) ?_; refine JS ?_; refine Jkx (k := 1) rfl rfl rfl rfl rfl (Jem hi) (Jvi hi (fun q hq => hq) s (Xm r i)) (fun q hq => Or.inr (List.mem_append_left _ (List.mem_append_left _ hq))) fun _ => ?_; refine Jx 2 rfl ?_
 (refine Qi [0] (L' := [_]) (by decide) rfl ?_
  exact KD (wh s (Xm r i) i) ⟨by omega, by rw [Jen hi, qx, ← hs, if_pos (by assumption)]⟩ rfl)
 refine Kh 2 rfl ?_
 (refine Qi [1] (L' := [_]) (by decide) rfl ?_
  exact KD s ⟨by omega, by rw [Jen hi, qx, ← hs, if_neg (by simp_all)]⟩ rfl)
 rintro D i s hfi ⟨-, hs⟩
 obtain rfl : i = 7 := hfi
 refine gqo 4 rfl ?_; refine LR rfl (Jd (xs := s.cells) (n := 17) rfl (kn 1 rfl) rfl rfl rfl) ?_; refine Jh (k := 3) (n := 17) (ys := s.cells) rfl rfl rfl rfl rfl rfl rfl rfl rfl ?_; refine Jx 3 rfl ?_; refine KX (k := 0) rfl rfl ?_; refine Jg rfl rfl (.cons (Jr (vs := s.cells) rfl (kn 3 rfl) rfl rfl) .nil) (fun w1 hs1 => ?_); exact ⟨by rw [hs]; rfl, hs1.keep⟩
 ·exact fun _ _ _ h => h.elim
theorem Jyu (x y : Rec) : (eqS (uV x.number) (uV y.number) && (eqS (uV x.time) (uV y.time) && (Q0 [uV x.base.a, uV x.base.b, uV x.base.c, uV x.base.d] [uV y.base.a, uV y.base.b, uV y.base.c, uV y.base.d] && (Q0 [uV x.blob.a, uV x.blob.b, uV x.blob.c, uV x.blob.d] [uV y.blob.a, uV y.blob.b, uV y.blob.c, uV y.blob.d] && (Q0 [uV x.overhead.a, uV x.overhead.b, uV x.overhead.c, uV x.overhead.d] [uV y.overhead.a, uV y.overhead.b, uV y.overhead.c, uV y.overhead.d] && (eqS (uV x.scalar) (uV y.scalar) && (eqS (uV x.extra) (uV y.extra) && (eqS (uV x.operator) (uV y.operator) && true)))))))) = decide (x = y) := by
 rw [Bool.eq_iff_iff]; simp only [eqU, eqW, Bool.and_eq_true, decide_eq_true_eq, Bool.and_true]
 obtain ⟨a, b, c, d, e, f, g, h⟩ := x
 obtain ⟨a', b', c', d', e', f', g', h'⟩ := y
 simp only [Rec.mk.injEq]
theorem Jvl {f : Int} (hf : Qf f) (r : Rec) : (qJ f r = r → V6 f r = 0) ∧ (¬ qJ f r = r → V6 f r = 2) := by
 unfold V6
 rw [if_neg (by simpa using hf)]; exact ⟨fun h => if_pos ((wi hf).1 h), fun h => if_neg fun h2 => h ((wi hf).2 h2)⟩
theorem Jyv (f : Int) (r : Rec) : Pure Tryz.prog 63 [.int .i64 f, r.val].toArray (.int .i64 (V6 f r)) := by
 by_cases hf : Qf f
 ·obtain ⟨h1, h2⟩ := Jvl hf r
  refine Jl Tryz.func63 rfl rfl fun w => ?_; refine JD ?_; refine Jq 2 rfl ?_; refine JR (cs := r.cells.toArray) rfl rfl rfl rfl fun rb => ?_; refine JJ 8 rfl ?_; refine Jn rfl rfl rfl (enters_of Tryz.func55 (by kernel_rfl) rfl) (Jel f) ?_; refine JI 4 rfl ?_; refine J0 rfl (fun g => ?_) (fun g => ?_)
  ·try simp only [ZZ] at g
   refine Kh 8 rfl ?_; refine pT rfl rfl rfl fun w1 hs1 => ?_
   exfalso; first | contradiction | (simp_all; done)
  try simp only [ZZ] at g
  refine JK 1 rfl ?_; refine JE 6 (by kernel_rfl) (by kernel_rfl) ?_; refine Ja rfl rfl rfl (Jf rfl) ?_; refine Ja rfl rfl rfl (Jd (xs := r.cells) (n := 17) rfl (kn 0 rfl) rfl rfl rfl) ?_; refine Ky rfl rfl rfl (enters_of Tryz.func117 (by kernel_rfl) rfl) (Jyt hf r) ?_; refine Ja rfl rfl rfl (Jd (xs := r.cells) (n := 17) rfl (kn 0 rfl) rfl rfl rfl) ?_; refine Ja rfl rfl rfl (Jh2 (xs := (qJ f r).cells) (ys := r.cells) rfl rfl rfl (by kernel_rfl) (by kernel_rfl) (.scal (by decide) rfl rfl rfl rfl rfl (.scal (by decide) rfl rfl rfl rfl rfl (.arr (by decide) rfl rfl rfl rfl rfl rfl rfl rfl rfl rfl (.arr (by decide) rfl rfl rfl rfl rfl rfl rfl rfl rfl rfl (.arr (by decide) rfl rfl rfl rfl rfl rfl rfl rfl rfl rfl (.scal (by decide) rfl rfl rfl rfl rfl (.scal (by decide) rfl rfl rfl rfl rfl (.scal (by decide) rfl rfl rfl rfl rfl .nil))))))))) ?_; refine KR (congrArg (fun b => Value.bool (!b)) (Jyu (qJ f r) r)) ?_; refine Ja rfl rfl rfl (JC rfl) ?_; refine JS ?_; refine JI 2 rfl ?_; refine cD (fun g => ?_) fun g => ?_
  refine Kh 8 rfl ?_; refine pT rfl rfl rfl fun w1 hs1 => ?_; rw [h2 (by assumption)]; exact ⟨rfl, hs1.keep⟩
  refine Kh 9 rfl ?_; refine pT rfl rfl rfl fun w1 hs1 => ?_; rw [h1 (by assumption)]; exact ⟨rfl, hs1.keep⟩
 ·have e : V6 f r = 10 := by unfold V6; rw [if_pos hf]
  rw [e]; refine Jl Tryz.func63 rfl rfl fun w => ?_; refine JD ?_; refine Jq 2 rfl ?_; refine LN rfl fun r1 => ?_; refine JJ 8 rfl ?_; refine Jn rfl rfl rfl (enters_of Tryz.func55 (by kernel_rfl) rfl) (Jel f) ?_; refine JI 4 rfl ?_; refine J0 rfl (fun g => ?_) (fun g => ?_)
  ·try simp only [ZZ] at g
   refine Kh 8 rfl ?_; refine pT rfl rfl rfl fun w1 hs1 => ?_
   first | exact ⟨rfl, hs1.keep⟩ | (exfalso; first | contradiction | (simp_all; done))
  ·try simp only [ZZ] at g
   refine JK 1 rfl ?_; refine JE 6 (by kernel_rfl) (by kernel_rfl) ?_; refine Ja rfl rfl rfl (Jf rfl) ?_; refine Ja rfl rfl rfl (Js (vs := [_, _, _, _, _, _, _, _, _, _, _, _, _, _, _, _, _]) rfl (kn 0 rfl) rfl rfl rfl rfl) ?_
   exfalso; first | contradiction | (simp_all; done)
theorem Jw5 {f : Int} (hf : Qf f) {i : Nat} (hi : i < 2) : Pure Tryz.prog 56 [.int .i64 f, .int .i64 (i : Int)].toArray (.tuple #[J1 (KG f i).1, .bool (KG f i).2]) := by
 have : i = 0 ∨ i = 1 := by omega
 rcases this with rfl | rfl
 ·exact J0u hf
 ·exact J0v hf
theorem Jjn {f : Int} {r : Rec} {i : Nat} (h : YE f i = true) : bW (Xm r i) = (X0 f r i).2 := by unfold X0; rw [if_pos h]
theorem Jgj {f : Int} {r : Rec} {i : Nat} (h : YE f i = false) : Qc = (X0 f r i).2 := by unfold X0; rw [if_neg (by rw [h]; simp)]
theorem J0w {R : Jm} {p : Nat → Nat} {i rr e : Nat} {f : Int} (hi : i < 7) {r : Rec} (hr : r.ok) (hR : (rr, Obj.cells r.cells.toArray e (0, 0)) ∈ R) : PureR Tryz.prog 130 (.agg (wZ p i).toArray :: .bool (YE f i) :: [Qh rr 0]).toArray (J1 (X0 f r i).2) (ZO p i ++ R) := by
 refine Jb Tryz.func130 rfl rfl fun w => ?_; refine JD ?_; refine Jq 2 rfl ?_; refine JR (cs := (wZ p i).toArray) rfl rfl rfl rfl fun rb => ?_; refine JI 10 rfl ?_; refine cD (fun g => ?_) fun g => ?_
 refine Jq 2 rfl ?_; refine Jn rfl rfl rfl (enters_of Tryz.func58 (by kernel_rfl) rfl) Jvd ?_; refine Jx 5 rfl ?_; refine pT rfl rfl rfl fun w1 hs1 => ?_; refine ⟨?_, hs1.keep⟩; rw [← Jgj (by assumption)]; rfl
 ·refine Vw 6 [0] rfl rfl ?_; refine LR rfl (Jd (xs := r.cells) (n := 17) rfl (Or.inr (List.mem_append_right _ hR)) rfl rfl rfl) ?_; refine Ji rfl rfl rfl (qY hi) (Jjl hi (fun q hq => hq) r) (fun q hq => Or.inr (List.mem_append_left _ hq)) ?_; refine Jn rfl rfl rfl Jdf (QU (Jcz hr i).wok) ?_; refine Jx 4 rfl ?_; refine pT rfl rfl rfl fun w1 hs1 => ?_; refine ⟨?_, hs1.keep⟩; rw [← Jjn (by assumption)]; rfl
theorem Jyw {R : Jm} {a : AcL} (ha : a.In R) {f : Int} (hf : Qf f) {gv : FuncId} {capsV : List Value} {vals : Nat → BS} (egv : Enters Tryz.prog gv) (hgv : ∀ i, i < 7 → ∀ p, PureR Tryz.prog gv (.agg (wZ p i).toArray :: .bool (YE f i) :: capsV).toArray (J1 (vals i)) (ZO p i ++ R)) :
  PureT (α := AcRes R (Qg a.er (tab.map fun i => (Wg (VN i), vals i)))) Tryz.prog 129 [.int .i64 f, a.val, .func (.func gv) #[] capsV.toArray].toArray (fun x => x.val) [] (fun x => x.L) R := by
 obtain ⟨rows, hrows⟩ : ∃ rows, rows = tab.map fun i => (Wg (VN i), vals i) := ⟨_, rfl⟩
 have hdr : ∀ i, i < 7 → rows.drop i = (Wg (VN i), vals i) :: rows.drop (i + 1) := fun i hi => by rw [hrows]; exact map_drop _ hi
 have hd7 : rows.drop 7 = [] := by rw [hrows]; rfl
 rw [← hrows]; clear hrows; refine Jw Tryz.func129 rfl rfl fun w => ?_; refine JD ?_; refine Jq 2 rfl ?_; refine JR (cs := a.cells.toArray) rfl rfl rfl rfl fun rb => ?_; refine LN rfl fun rv => ?_; refine LN rfl fun r1 => ?_; refine LN rfl fun r2 => ?_; refine JJ 6 rfl ?_; refine JZ rfl rfl rfl (enters_of Tryz.func57 (by kernel_rfl) rfl) (Jqw f) fun b => ?_; refine JI 3 rfl ?_; refine QX [4, 2, 1, 0, 3] (L' := [_, _, _, _, _]) (by decide) rfl ?_; refine XY (τ := AcSt R × Int) (fun i (s : AcSt R) => i ≤ 7 ∧ Qg a.er rows = Qg s.a.er (rows.drop i)) (fun s => (rb, .cells s.a.cells.toArray 48 (0, 0)) :: (r1, .cells ac0L.cells.toArray 48 (0, 0)) :: (r2, .cells #[.int .i64 0] 37 (0, 0)) :: s.L) (fun j s => j = .ret ∧ Qg a.er rows = (s.1.a.er, s.2)) (fun s => (rb, .cells s.1.a.cells.toArray 48 (0, 0)) :: (r1, .cells s.1.a.cells.toArray 48 (0, 0)) :: (r2, .cells #[.int .i64 s.2] 37 (0, 0)) :: s.1.L) [(b, .cells #[.int .i64 f] 3 (0, 0)), (rv, _)] ⟨a, [], ha⟩ rfl rfl (enters_of Tryz.func112 (by kernel_rfl) rfl) (Jqy hf b) Jjm rfl (fun q hq => .inl (by rw [List.mem_singleton.1 hq]; exact List.mem_cons_self)) rfl ⟨Nat.zero_le _, rfl⟩ ?_ ?_ ?_
 ·rintro q Xr Xb w3 i _ _ _ s ⟨hi, rfl, p, rfl, rfl⟩ ⟨hi7, hinv⟩ Kr hKr; refine inR ?_
  rw [hdr i hi, jA] at hinv; refine Jq 2 rfl ?_; refine LN rfl fun r3 => ?_
  refine LT 0 rfl rfl ?_; refine Jx 5 rfl ?_; refine hKr _ _ ?_; refine JD ?_; clear hKr; refine JK 2 rfl ?_; refine JT s.L [(1, .pure), (3, .pure), (6, .pure), (8, .grow (Qe (Classical.choice (wo s.ok (Wg (VN i)) (vals i))) AcRes.val AcRes.L)), (9, .pure), (10, .pure), (11, .pure), (12, .grow (VI vV (.cells #[.string ⟨#[]⟩, .int .u64 0, .int .u64 0, .int .u64 0, .int .u64 0, .int .u64 0, .string ⟨#[]⟩, .slice none 0 0] 48 (0, 0)))), (13, .turn), (14, .pure)] 15 [0, 1, 2, 3, 4, 5, 6, 7, 8, 9, 10, 11, 12, 13, 14] (by kernel_rfl) (by kernel_rfl) (fun p hp => List.mem_cons_of_mem _ (List.mem_cons_of_mem _ (List.mem_cons_of_mem _ (List.mem_cons_of_mem _ hp)))) ?_; refine KE (k := 0) rfl rfl rfl rfl rfl (Jd (xs := s.a.cells) (n := 8) rfl (kn 1 rfl) rfl rfl rfl) ?_
  refine Jp (k := 1) rfl rfl rfl rfl rfl (fun _ hS => (JA rfl rfl rfl)) ?_; refine KE (k := 2) rfl rfl rfl rfl rfl (Je rfl (kn 0 rfl) rfl rfl) ?_; refine QM (k := 3) rfl rfl rfl rfl rfl (enters_of Tryz.func61 (by kernel_rfl) rfl) (Jyq (wk i)) ?_; refine KE (k := 4) rfl rfl rfl rfl rfl (Je rfl (Or.inr (List.mem_append_left _ (List.mem_append_right _ (List.mem_cons_of_mem _ List.mem_cons_self)))) rfl rfl) ?_; refine KE (k := 5) rfl rfl rfl rfl rfl (Jd (xs := wZ p i) (n := 5) rfl (kn 0 rfl) rfl rfl rfl) ?_; refine Jp (k := 6) rfl rfl rfl rfl rfl (fun _ hS => (Jf rfl)) ?_; refine Qa (k := 7) rfl rfl rfl rfl rfl egv (hgv i hi p) (fun q hq => (List.mem_append.1 hq).elim (fun h => Or.inr (List.mem_append_left _ (List.mem_append_left _ h))) (fun h => Or.inr (List.mem_append_right _ h))) ?_; refine KO (k := 8) rfl rfl rfl rfl rfl (enters_of Tryz.func197 (by kernel_rfl) rfl) (J0s s.ok (Wg (VN i)) (vals i)) (fun q hq => (List.mem_append.1 hq).imp id (fun h => List.mem_append_right _ h)) fun x => ?_; refine Jp (k := 9) rfl rfl rfl rfl rfl (fun _ hS => (Jf rfl)) ?_; refine Jp (k := 10) rfl rfl rfl rfl rfl (fun _ hS => (JY rfl rfl)) ?_; refine Jp (k := 11) rfl rfl rfl rfl rfl (fun _ hS => (JY rfl rfl)) ?_; refine Wx (k := 12) (cs := #[_, _, _, _, _, _, _, _]) rfl rfl rfl rfl rfl rfl fun r4 => ?_; refine Vi (k := 13) (q := 0) (n := 8) (ys := x.a.cells) rfl rfl rfl rfl rfl rfl rfl rfl rfl rfl rfl (fun p hp => List.mem_cons_of_mem _ (List.mem_append_right _ (List.mem_cons_of_mem _ (List.mem_cons_of_mem _ (List.mem_cons_of_mem _ (List.mem_cons_of_mem _ hp)))))) ?_; refine Jp (k := 14) rfl rfl rfl rfl rfl (fun _ hS => (JC rfl)) ?_; refine Kx ?_; refine JI 4 rfl ?_; refine vC (L' := (r4, .cells x.a.cells.toArray 48 (0, 0)) :: (r3, .cells (wZ p i).toArray 108 (0, 0)) :: (rb, .cells s.a.cells.toArray 48 (0, 0)) :: (r1, .cells ac0L.cells.toArray 48 (0, 0)) :: (r2, .cells #[.int .i64 0] 37 (0, 0)) :: (x.L ++ s.L)) (List.Perm.cons _ (Qz x.L [_, _, _, _] s.L)) ?_
  have hx := x.eq
  have hxe : (Vz s.a.er (Wg (VN i)) (vals i)).2 = x.err := (congrArg Prod.snd hx).symm
  have hxa : (Vz s.a.er (Wg (VN i)) (vals i)).1 = x.a.er := (congrArg Prod.fst hx).symm
  refine JK 5 rfl ?_; refine cD (fun g => ?_) fun g => ?_
  refine Jq 2 rfl ?_; refine LR rfl (Jd (xs := s.a.cells) (n := 8) rfl (kn 2 rfl) rfl rfl rfl) ?_; refine Q1 rfl (Jh (k := 3) (n := 8) (ys := s.a.cells) rfl rfl rfl rfl rfl rfl rfl rfl rfl ?_)
  refine LT 4 rfl rfl ?_; refine Jx 5 rfl ?_; refine Jg6 (L' := (rb, .cells s.a.cells.toArray 48 (0, 0)) :: (r1, .cells s.a.cells.toArray 48 (0, 0)) :: (r2, .cells #[.int .i64 x.err] 37 (0, 0)) :: s.L) (fun _ _ h => h) (.cons _ (.cons _ (.cons_cons _ (.cons_cons _ (.cons_cons _ (List.sublist_append_right _ _)))))) ?_; exact jY (s, x.err) ⟨rfl, by rw [hinv, if_pos (by rw [hxe]; assumption)]; exact (wp (by rw [hxe]; assumption)).trans (congrArg (Prod.mk s.a.er) hxe)⟩ rfl
  ·refine Jq 3 rfl ?_; refine LR rfl (Jd (xs := x.a.cells) (n := 8) rfl (kn 0 rfl) rfl rfl rfl) ?_; refine Jh (k := 2) (n := 8) (ys := x.a.cells) rfl rfl rfl rfl rfl rfl rfl rfl rfl ?_; refine Jx 2 rfl ?_; refine Jg6 (L' := (rb, .cells x.a.cells.toArray 48 (0, 0)) :: (r1, .cells ac0L.cells.toArray 48 (0, 0)) :: (r2, .cells #[.int .i64 0] 37 (0, 0)) :: (x.L ++ s.L)) (fun _ _ h => h) (.cons _ (.cons _ (List.Sublist.refl _))) ?_; exact KD (s.next x) ⟨by omega, by rw [hinv, if_neg (by rw [hxe]; simpa using ‹x.err = 0›), hxa]; rfl⟩ rfl
 rintro D i s hfi ⟨-, hinv⟩
 obtain rfl : i = 7 := hfi
 rw [hd7] at hinv; refine gqo 4 rfl ?_; refine LR rfl (Jd (xs := s.a.cells) (n := 8) rfl (kn 1 rfl) rfl rfl rfl) ?_; refine Jh (k := 2) (n := 8) (ys := s.a.cells) rfl rfl rfl rfl rfl rfl rfl rfl rfl ?_
 refine LT 3 rfl rfl ?_; refine Jx 3 rfl ?_; refine KX (k := 0) rfl rfl ?_
 (refine Jg rfl rfl (.cons (Jr (vs := s.a.cells) rfl (kn 2 rfl) rfl rfl) (.cons (KZ rfl (kn 3 rfl) rfl rfl) .nil)) (fun w1 hs1 => ?_)
  exact ⟨⟨s.a, 0, s.L, s.ok, by rw [hinv]; rfl⟩, rfl, hs1.weakL (.cons _ (.cons _ (.cons _ (.cons _ (List.sublist_append_left _ _)))))⟩)
 ·rintro D j s ⟨rfl, hst⟩
  refine Kh 3 rfl ?_; refine KX (k := 0) rfl rfl ?_
  (refine Jg rfl rfl (.cons (Jr (vs := s.1.a.cells) rfl (kn 2 rfl) rfl rfl) (.cons (KZ rfl (kn 3 rfl) rfl rfl) .nil)) (fun w1 hs1 => ?_)
   exact ⟨⟨s.1.a, s.2, s.1.L, s.1.ok, hst.symm⟩, rfl, hs1.weakL (.cons _ (.cons _ (.cons _ (.cons _ (List.sublist_append_left _ _)))))⟩)
theorem Jjo {R : Jm} {a : AcL} (h : a.In R) {c : BS} (hc : c.length ≤ 512) : AcL.In R { a with code := c } := ⟨h.addr, h.nonce, h.bal, (by show c.length ≤ 9223372036854775807; omega), h.len, h.seg, h.slots⟩
theorem Jjp {R : Jm} {a : AcL} (h : a.In R) {c : BS} (hc : c.length ≤ 512) : AcL.In R { a with addr := c } := ⟨(by show c.length ≤ 9223372036854775807; omega), h.nonce, h.bal, h.code, h.len, h.seg, h.slots⟩
theorem Jqz {f : Int} {r : Rec} : (tab.map fun i => (Wg (VN i), (X0 f r i).2)) = qL f r := rfl
theorem J0x {R : Jm} {f : Int} (hf : Qf f) {r : Rec} (hr : r.ok) {bf br ef er : Nat} (hbf : (bf, Obj.cells #[.int .i64 f] ef (0, 0)) ∈ R) (hbr : (br, Obj.cells r.cells.toArray er (0, 0)) ∈ R) {w : Nat} (hw : w < 2) {a : AcL} (ha : a.In R) :
  PureT (α := AcRes R (QY f w a.er r)) Tryz.prog 128 (.int .i64 (w : Int) :: a.val :: [Qh bf 0, Qh br 0]).toArray (fun x => x.val) [] (fun x => x.L) R := by
 have hin := Jjo ha (Jc0 f w)
 have hset := Jyw (gv := 130) (capsV := [Qh br 0]) (vals := fun i => (X0 f r i).2) hin hf (enters_of Tryz.func130 (by kernel_rfl) rfl) (fun i hi p => J0w hi hr hbr)
 rw [Jqz] at hset
 have hC : QY f w a.er r = if (w : Int) = 1 then ({ a.er with code := (KG f w).1 }, 0) else Qg { a.er with code := (KG f w).1 } (qL f r) := by
  unfold QY
  by_cases h : (w : Int) = 1
  rw [if_pos h, if_pos h, h]
  rw [if_neg h, if_neg h]
 rw [hC]; clear hC; refine Jw Tryz.func128 rfl rfl fun w => ?_; refine JD ?_; refine Jq 2 rfl ?_; refine JR (cs := a.cells.toArray) rfl rfl rfl rfl fun rb => ?_; refine LN rfl fun r1 => ?_; refine JJ 5 rfl ?_; refine LR rfl (Je rfl (Or.inr hbf) rfl rfl) ?_; refine Q1 rfl (Jn rfl rfl rfl (enters_of Tryz.func56 (by kernel_rfl) rfl) (Jw5 hf hw) (LS 4 [] rfl rfl ?_))
 refine LT 1 rfl rfl ?_; refine JI 9 rfl ?_; refine cD (fun g => ?_) fun g => ?_
 refine Jq 2 rfl ?_; refine LR rfl (Js (vs := [_, _, _, _, _, _, _, _]) rfl (kn 1 rfl) rfl rfl rfl rfl) ?_
 refine LT 0 rfl rfl ?_; refine Jx 5 rfl ?_; refine Jg rfl rfl (.cons (Jr (vs := [_, _, _, _, _, _, _, _]) rfl (kn 0 rfl) rfl rfl) (.cons (Jj rfl) .nil)) (fun w1 hs1 => ?_)
 (rw [if_pos (by omega)]
  exact ⟨⟨{ a with code := (KG f _).1 }, 0, [], hin, rfl⟩, rfl, hs1.weakL (List.nil_sublist _)⟩)
 ·refine Jq 4 rfl ?_; refine LR rfl (Je rfl (Or.inr hbf) rfl rfl) ?_; refine LR rfl (Js (vs := [_, _, _, _, _, _, _, _]) rfl (kn 1 rfl) rfl rfl rfl rfl) ?_; refine LR rfl (JN rfl rfl) ?_; refine Ke rfl rfl rfl (enters_of Tryz.func129 (by kernel_rfl) rfl) hset oR fun x => ?_; refine Kk List.perm_append_comm ?_; change HL _ _ ((21, .tuple #[x.a.val, .int .i64 x.err]) :: _) ((r1, _) :: (rb, _) :: x.L) _ _ _ _; refine LS 2 [] rfl rfl ?_; refine Jh (k := 0) (n := 8) (ys := x.a.cells) rfl rfl rfl rfl rfl rfl rfl rfl rfl ?_; refine Jx 4 rfl ?_; refine Jg rfl rfl (.cons (Jr (vs := [_, _, _, _, _, _, _, _]) rfl (kn 0 rfl) rfl rfl) (.cons (Jj rfl) .nil)) (fun w1 hs1 => ?_)
  (rw [if_neg (by omega)]
   exact ⟨x, rfl, hs1.weakL (List.sublist_append_right [_, _] _)⟩)
theorem Jq0 {R : Jm} {s : StL} (hs : s.In R) {f : Int} (hf : Qf f) {gd : FuncId} {capsd : List Value} {go : Int → AcE → AcE × Int} (egd : Enters Tryz.prog gd)
  (hdo : ∀ w : Nat, w < 2 → ∀ (a : AcL) (R' : Jm), (∀ q ∈ R, q ∈ R') → a.In R' → PureT (α := AcRes R' (go w a.er)) Tryz.prog gd (.int .i64 (w : Int) :: a.val :: capsd).toArray (fun x => x.val) [] (fun x => x.L) R') :
  PureT (α := StRes R (Yv f s.er go)) Tryz.prog 127 [.int .i64 f, s.val, .func (.func gd) #[] capsd.toArray].toArray (fun x => x.val) [] (fun x => x.L) R := by
 obtain ⟨res, hres⟩ : ∃ res, res = Yv f s.er go := ⟨_, rfl⟩
 rw [← hres]; refine Jw Tryz.func127 rfl rfl fun w => ?_; refine JD ?_; refine Jq 2 rfl ?_; refine JR (cs := s.cells.toArray) rfl rfl rfl rfl fun rb => ?_; refine LN rfl fun r1 => ?_; refine JJ 5 rfl ?_; refine LR rfl (Js (vs := [_]) rfl (kn 1 rfl) rfl rfl rfl rfl) ?_; refine LN rfl fun r2 => ?_
 refine LT 0 rfl rfl ?_; refine JI 9 rfl ?_; refine Jy (σ := Nat × StSt R) (fun q => q.1 ≤ 2 ∧ Vt f s.er go (([0, 1] : List Int).drop q.1) q.2.s.er = res) (fun q => [(0, .int .i64 f), (2, .func (.func gd) #[] capsd.toArray), (4, Qh rb 0), (6, Qh r1 0), (8, Qh r2 0), (17, .int .i64 (q.1 : Int))]) (fun q => (r2, .cells q.2.s.cells.toArray 36 (0, 0)) :: (r1, .cells st0L.cells.toArray 36 (0, 0)) :: (rb, .cells s.cells.toArray 36 (0, 0)) :: q.2.L) (fun _ _ _ => True) (fun q => 2 - q.1) (0, ⟨s, [], hs⟩) ⟨Nat.zero_le _, hres.symm⟩ (lK rfl) (List.Sublist.refl _) (fun _ _ h => h) ?_; rintro ⟨i, t⟩ ⟨hi2, hinv⟩; simp only at hi2 hinv; change HC _ _ [(0, _), (2, _), (4, _), (6, _), (8, _), (17, .int .i64 (i : Int))] ((r2, .cells t.s.cells.toArray _ (0, 0)) :: (r1, _) :: (rb, _) :: t.L) _ _ _; refine JK 6 rfl ?_; refine cD (fun g => ?_) fun g => ?_
 ·refine JK 12 rfl ?_
  have hi : i < 2 := by omega
  rw [qO hi, jB] at hinv; refine Jq 3 rfl ?_; refine Jn rfl rfl rfl (enters_of Tryz.func56 (by kernel_rfl) rfl) (Jw5 hf hi) ?_; refine JI 13 rfl ?_; refine cD (fun g => ?_) fun g => ?_
  refine Jq 6 rfl ?_; refine Jc (by omega) (by omega) ?_; refine Jx 2 rfl ?_; refine Jv ?_
  (rw [if_pos (by simp_all)] at hinv
   exact Jo (i + 1, t) ⟨by simp only; omega, hinv⟩ (by simp only; omega) (lK rfl) (List.Sublist.refl _) (fun _ _ h => h))
  ·refine JK 3 rfl ?_; rw [if_neg (by simp_all)] at hinv
   refine JT [] [(1, .pure), (2, .pure), (4, .pure), (5, .pure), (6, .pure), (7, .grow (VI vV (.cells #[.string ⟨#[]⟩, .int .u64 0, .int .u64 0, .int .u64 0, .int .u64 0, .int .u64 0, .string ⟨#[]⟩, .slice none 0 0] 48 (0, 0)))), (8, .turn), (9, .pure)] 10 [0, 1, 2, 3, 4, 5, 6, 7, 8, 9] (by kernel_rfl) (by kernel_rfl) (by first | exact (fun _ h => absurd h List.not_mem_nil) | simp [SubS] | (intro p hp; simp [hp])) ?_; refine KE (k := 0) rfl rfl rfl rfl rfl (Jd (xs := t.s.cells) (n := 1) rfl (kn 0 rfl) rfl rfl rfl) ?_; refine Jp (k := 1) rfl rfl rfl rfl rfl (fun _ hS => (Jf rfl)) ?_; refine QM (k := 2) rfl rfl rfl rfl rfl Jxy (Jqk i) ?_; refine Qa (k := 3) rfl rfl rfl rfl rfl (enters_of Tryz.func18 (by kernel_rfl) rfl) (Jqh t.ok (Qx i)) (fun q hq => (List.mem_append.1 hq).elim (fun h => Or.inl (List.mem_cons_of_mem _ (List.mem_cons_of_mem _ (List.mem_cons_of_mem _ h)))) Or.inr) ?_; refine Jp (k := 4) rfl rfl rfl rfl rfl (fun _ hS => (Jf rfl)) ?_; refine Jp (k := 5) rfl rfl rfl rfl rfl (fun _ hS => (JY rfl rfl)) ?_; refine Jp (k := 6) rfl rfl rfl rfl rfl (fun _ hS => (JY rfl rfl)) ?_; refine Wx (k := 7) (cs := #[_, _, _, _, _, _, _, _]) rfl rfl rfl rfl rfl rfl fun r3 => ?_; refine Vi (k := 8) (q := 0) (n := 8) (ys := (Qy t.s (Qx i)).cells) rfl rfl rfl rfl rfl rfl rfl rfl rfl rfl rfl (fun _ h => nomatch h) ?_; refine Jp (k := 9) rfl rfl rfl rfl rfl (fun _ hS => (JC rfl)) ?_; refine Kx ?_; refine JJ 5 rfl ?_; refine Jn rfl rfl rfl Jxy (Jqk i) ?_; refine LS 1 [] rfl rfl ?_
   refine LT 0 rfl rfl ?_; refine Xf 7 [0] rfl rfl ?_; refine Ke rfl rfl rfl egd (hdo i hi { Qy t.s (Qx i) with addr := Qx i } (t.L ++ R) (fun q hq => List.mem_append_right _ hq) (Jjp (vB t.ok (Qx i)) (Jdc i))) (fun q hq => (List.mem_append.1 hq).elim (fun h => Or.inl (List.mem_cons_of_mem _ (List.mem_cons_of_mem _ (List.mem_cons_of_mem _ (List.mem_cons_of_mem _ h))))) Or.inr) fun x => ?_; refine Kk (Qz x.L [_, _, _, _] t.L) ?_; change HL _ _ ((42, .tuple #[x.a.val, .int .i64 x.err]) :: _) ((r3, _) :: (r2, _) :: (r1, _) :: (rb, _) :: (x.L ++ t.L)) _ _ _ _
   have hxe : (go i (QO t.s.er i)).2 = x.err := by rw [← Jaf]; exact (congrArg Prod.snd x.eq).symm
   have hxa : (go i (QO t.s.er i)).1 = x.a.er := by rw [← Jaf]; exact (congrArg Prod.fst x.eq).symm
   rw [hxe, hxa] at hinv; refine LS 3 [] rfl rfl ?_; refine LN rfl fun r4 => ?_; refine Jh (k := 0) (n := 8) (ys := x.a.cells) rfl rfl rfl rfl rfl rfl rfl rfl rfl ?_; refine JI 10 rfl ?_; refine cD (fun g => ?_) fun g => ?_
   ·refine Jq 1 rfl ?_; refine LR rfl (Jd (xs := t.s.cells) (n := 1) rfl (kn 2 rfl) rfl rfl rfl) ?_; refine LR rfl (Jd (xs := x.a.cells) (n := 8) rfl (kn 0 rfl) rfl rfl rfl) ?_; refine Ke rfl rfl rfl (enters_of Tryz.func196 (by kernel_rfl) rfl) (J0t (R := x.L ++ (t.L ++ R)) (t.ok.mono fun q hq => List.mem_append_right _ hq) x.ok) (fun q hq => (List.mem_append.1 hq).elim (fun h => Or.inl (List.mem_cons_of_mem _ (List.mem_cons_of_mem _ (List.mem_cons_of_mem _ (List.mem_cons_of_mem _ (List.mem_cons_of_mem _ (List.mem_append_left _ h))))))) fun hq => (List.mem_append.1 hq).elim (fun h => Or.inl (List.mem_cons_of_mem _ (List.mem_cons_of_mem _ (List.mem_cons_of_mem _ (List.mem_cons_of_mem _ (List.mem_cons_of_mem _ (List.mem_append_right _ h))))))) Or.inr) fun y => ?_; refine Kk (Qz y.L [_, _, _, _, _] (x.L ++ t.L)) ?_; change HL _ _ ((50, .tuple #[y.s.val, .int .i64 y.err]) :: _) ((r4, _) :: (r3, _) :: (r2, _) :: (r1, _) :: (rb, _) :: (y.L ++ (x.L ++ t.L))) _ _ _ _
    have hye : (YO t.s.er x.a.er).2 = y.err := (congrArg Prod.snd y.eq).symm
    have hys : (YO t.s.er x.a.er).1 = y.s.er := (congrArg Prod.fst y.eq).symm
    rw [hye, hys] at hinv; refine LS 3 [] rfl rfl ?_; refine Jh (k := 2) (n := 1) (ys := y.s.cells) rfl rfl rfl rfl rfl rfl rfl rfl rfl ?_; refine JI 9 rfl ?_; refine cD (fun g => ?_) fun g => ?_
    refine Jq 2 rfl ?_; refine LR rfl (Jd (xs := s.cells) (n := 1) rfl (kn 4 rfl) rfl rfl rfl) ?_; refine Q1 rfl (Jh (k := 3) (n := 1) (ys := s.cells) rfl rfl rfl rfl rfl rfl rfl rfl rfl (Jx 9 rfl ?_)); refine Jg rfl rfl (.cons (Jr (vs := [_]) rfl (kn 3 rfl) rfl rfl) (.cons (Jj rfl) .nil)) (fun w1 hs1 => ?_)
    (rw [if_neg (show ¬ (x.err ≠ 0) by omega), if_pos (show y.err ≠ 0 by omega)] at hinv
     exact ⟨⟨s, y.err, [], hs, hinv⟩, rfl, hs1.weakL (List.nil_sublist _)⟩)
    ·refine Jq 5 rfl ?_; refine Jc (by omega) (by omega) ?_; refine Jx 2 rfl ?_; refine Jv ?_
     (rw [if_neg (show ¬ (x.err ≠ 0) by omega), if_neg (show ¬ (y.err ≠ 0) by omega)] at hinv
      exact Jo (i + 1, t.next y) ⟨by simp only; omega, hinv⟩ (by simp only; omega) (lK rfl) (.cons _ (.cons _ (List.Sublist.refl _))) (fun _ _ h => h))
   refine JK 8 rfl ?_; refine cD (fun g => ?_) fun g => ?_
   refine Jq 2 rfl ?_; refine LR rfl (Jd (xs := s.cells) (n := 1) rfl (kn 4 rfl) rfl rfl rfl) ?_; refine Q1 rfl (Jh (k := 3) (n := 1) (ys := s.cells) rfl rfl rfl rfl rfl rfl rfl rfl rfl (Jx 9 rfl ?_)); refine Jg rfl rfl (.cons (Jr (vs := [_]) rfl (kn 3 rfl) rfl rfl) (.cons (Jj rfl) .nil)) (fun w1 hs1 => ?_)
   (rw [if_pos (show x.err ≠ 0 by omega)] at hinv
    exact ⟨⟨s, x.err, [], hs, hinv⟩, rfl, hs1.weakL (List.nil_sublist _)⟩)
   refine Jq 5 rfl ?_; refine Jc (by omega) (by omega) ?_; refine Jx 2 rfl ?_; refine Jv ?_
   exfalso; omega
 ·refine Jq 7 rfl ?_; refine LR rfl (Jd (xs := t.s.cells) (n := 1) rfl (kn 0 rfl) rfl rfl rfl) ?_; refine Jh (k := 1) (n := 1) (ys := t.s.cells) rfl rfl rfl rfl rfl rfl rfl rfl rfl ?_; refine Jx 4 rfl ?_; refine Jg rfl rfl (.cons (Jr (vs := [_]) rfl (kn 1 rfl) rfl rfl) (.cons (Jj rfl) .nil)) (fun w1 hs1 => ?_)
  (obtain rfl : i = 2 := by omega
   exact ⟨⟨t.s, 0, t.L, t.ok, hinv⟩, rfl, hs1.weakL (.cons _ (.cons _ (.cons _ (List.Sublist.refl _))))⟩)
theorem Jvm {R : Jm} (f : Int) {s : StL} (hs : s.In R) {r : Rec} (hr : r.ok) : PureT (α := StRes R (Q5 f s.er r)) Tryz.prog 81 [.int .i64 f, s.val, r.val].toArray (fun x => x.val) [] (fun x => x.L) R := by
 have hc := Zv hs
 obtain ⟨res, hres⟩ : ∃ res, res = Yv f s.er fun w a => QY f w a r := ⟨_, rfl⟩
 have hwr : Q5 f s.er r = if V6 f r ≠ 0 then (s.er, V6 f r) else if KC s.er ≠ 0 then (s.er, KC s.er) else res := by rw [hres]; rfl
 rw [hwr]; refine Jw Tryz.func81 rfl rfl fun w => ?_; refine JD ?_; refine Jq 2 rfl ?_; refine LN rfl fun r1 => ?_; refine JR (cs := s.cells.toArray) rfl rfl rfl rfl fun rs => ?_; refine JR (cs := r.cells.toArray) rfl rfl rfl rfl fun rr => ?_; refine LN rfl fun r2 => ?_; refine JJ 6 rfl ?_; refine LR rfl (Je rfl (kn 3 rfl) rfl rfl) ?_; refine LR rfl (Jd (xs := r.cells) (n := 17) rfl (kn 1 rfl) rfl rfl rfl) ?_; refine Jn rfl rfl rfl (enters_of Tryz.func63 (by kernel_rfl) rfl) (Jyv f r) ?_; refine JI 9 rfl ?_; refine cD (fun g => ?_) fun g => ?_
 refine Vw 4 [2] rfl rfl ?_
 refine LT 0 rfl rfl ?_; refine Jx 5 rfl ?_; refine Jg rfl rfl (.cons (Jr (vs := [_]) rfl (kn 0 rfl) rfl rfl) (.cons (Jj rfl) .nil)) (fun w1 hs1 => ?_); rw [if_pos (by omega)]; exact ⟨⟨s, V6 f r, [], hs, rfl⟩, rfl, hs1.weakL (List.nil_sublist _)⟩
 ·refine Jq 5 rfl ?_; refine LR rfl (Js (vs := [_]) rfl (kn 2 rfl) rfl rfl rfl rfl) ?_; refine Ji rfl rfl rfl Jtx hc oR ?_; refine JI 9 rfl ?_; refine cD (fun g => ?_) fun g => ?_
  refine Vw 4 [2] rfl rfl ?_
  refine LT 0 rfl rfl ?_; refine Jx 5 rfl ?_; refine Jg rfl rfl (.cons (Jr (vs := [_]) rfl (kn 0 rfl) rfl rfl) (.cons (Jj rfl) .nil)) (fun w1 hs1 => ?_); rw [if_neg (by omega), if_pos (by omega)]; exact ⟨⟨s, KC s.er, [], hs, rfl⟩, rfl, hs1.weakL (List.nil_sublist _)⟩
  ·refine JK 3 rfl ?_
   have hf : Qf f := (Jhw (show V6 f r = 0 by omega)).1
   have hch := Jq0 (R := (rr, Obj.cells r.cells.toArray 29 (0, 0)) :: (r1, Obj.cells #[.int .i64 f] 3 (0, 0)) :: R) (hs.mono fun q hq => List.mem_cons_of_mem _ (List.mem_cons_of_mem _ hq)) hf (gd := 128) (capsd := [Qh r1 0, Qh rr 0]) (go := fun w a => QY f w a r) (enters_of Tryz.func128 (by kernel_rfl) rfl) (fun w hw a R2 hR2 ha => J0x hf hr (hR2 _ (List.mem_cons_of_mem _ List.mem_cons_self)) (hR2 _ List.mem_cons_self) hw ha)
   refine Vw 3 [3, 2] rfl rfl ?_; refine LR rfl (JN rfl rfl) ?_
   refine Ke (Rl := (rr, Obj.cells r.cells.toArray 29 (0, 0)) :: (r1, Obj.cells #[.int .i64 f] 3 (0, 0)) :: R) rfl rfl rfl (enters_of Tryz.func127 (by kernel_rfl) rfl) hch (fun q hq => by
    rcases List.mem_cons.1 hq with rfl | hq
    exact Or.inl (by simp)
    rcases List.mem_cons.1 hq with rfl | hq
    exact Or.inl (by simp)
    exact Or.inr hq) fun x => ?_
   refine Kk List.perm_append_comm ?_; change HL _ _ ((26, .tuple #[x.s.val, .int .i64 x.err]) :: _) ((r2, _) :: (rr, _) :: (rs, _) :: (r1, _) :: x.L) _ _ _ _; refine LS 2 [] rfl rfl ?_; refine Jh (k := 0) (n := 1) (ys := x.s.cells) rfl rfl rfl rfl rfl rfl rfl rfl rfl ?_; refine Jx 4 rfl ?_; refine Jg rfl rfl (.cons (Jr (vs := [_]) rfl (kn 0 rfl) rfl rfl) (.cons (Jj rfl) .nil)) (fun w1 hs1 => ?_)
   (rw [if_neg (by omega), if_neg (by omega), hres]
    exact ⟨⟨x.s, x.err, x.L ++ [(rr, Obj.cells r.cells.toArray 29 (0, 0)), (r1, Obj.cells #[.int .i64 f] 3 (0, 0))], x.ok.mono fun q hq => by simp only [List.mem_append, List.mem_cons, List.not_mem_nil, or_false] at hq ⊢; rcases hq with h | h | h | h <;> simp [h], x.eq⟩, rfl, (hs1.perm (L' := x.L ++ [_, _, _, _]) (List.perm_append_comm (l₁ := [_, _, _, _]))).weakL ((List.Sublist.refl _).append (.cons _ (.cons_cons _ (.cons _ (List.Sublist.refl _)))))⟩)
def XU (a : AcE) : Bool := !((decide (100 < a.addr.length) || (decide (60 < a.code.length) && decide (a.code.length ≤ 512))) || decide (20 < a.slots.length)) && a.slots.all fun x => !(decide (100 < x.1.length) || decide (100 < x.2.length))
def ZD : Nat → Int → List AcE → Bool × Int
 | _, n, [] => (true, n)
 | i, n, a :: l => if 40 < i then (true, n) else if XU a = false then (false, n) else ZD (i + 1) (n + (a.slots.length : Int)) l
def ZP (s : List AcE) : Bool := (ZD 0 0 s).1 && (decide (s.length ≤ 40) && decide ((ZD 0 0 s).2 ≤ 40))
theorem Jvn {a : AcE} {i : Nat} {x : BS × BS} (hx : a.slots[i]? = some x) (h : x.1.length > 100 ∨ x.2.length > 100) : XU a = false := by
 unfold XU
 have : (a.slots.all fun x => !(decide (100 < x.1.length) || decide (100 < x.2.length))) = false := by
  rw [List.all_eq_false]
  exact ⟨x, List.mem_of_getElem? hx, by rcases h with h | h <;> simp [h]⟩
 rw [this, Bool.and_false]
theorem Jvo {a : AcE} (h : XU a = true) : a.slots.length ≤ 20 := by
 unfold XU at h
 simp only [Bool.and_eq_true, Bool.not_eq_true', Bool.or_eq_false_iff, decide_eq_false_iff_not] at h; omega
theorem Jq1 {i : Nat} {n : Int} {s : List AcE} {a : AcE} (h : s[i]? = some a) (hi : i ≤ 40) (hf : XU a = true) : ZD i n (s.drop i) = ZD (i + 1) (n + (a.slots.length : Int)) (s.drop (i + 1)) := by
 obtain ⟨hlt, e⟩ := List.getElem?_eq_some_iff.1 h
 rw [List.drop_eq_getElem_cons hlt, e]
 unfold ZD
 rw [if_neg (by omega), if_neg (by rw [hf]; simp)]
 cases s.drop (i + 1) <;> rfl
theorem Jq2 {i : Nat} {n : Int} {s : List AcE} (h : 40 < i ∨ s.length ≤ i) : ZD i n (s.drop i) = (true, n) := by
 rcases h with h | h
 ·cases s.drop i with
  | nil => rfl
  | cons a l => unfold ZD; rw [if_pos h]
 ·rw [List.drop_of_length_le h]; rfl
theorem Jq3 {i : Nat} {n : Int} {s : List AcE} {a : AcE} (h : s[i]? = some a) (hi : i ≤ 40) (hf : XU a = false) : (ZD i n (s.drop i)).1 = false := by
 obtain ⟨hlt, e⟩ := List.getElem?_eq_some_iff.1 h
 rw [List.drop_eq_getElem_cons hlt, e]
 unfold ZD
 rw [if_neg (by omega), if_pos hf]
theorem Jlv {R : Jm} {a : AcL} (ha : a.In R) : PureR Tryz.prog 69 [a.val].toArray (.bool (XU a.er)) R := by
  have hl := ha.len
  have hseg := ha.seg
  obtain ⟨res, hres⟩ : ∃ b, b = XU a.er := ⟨_, rfl⟩
  rw [← hres]
  have h1 : (100 < (a.addr.length : Int) ∨ (60 < (a.code.length : Int) ∧ (a.code.length : Int) ≤ 512) ∨ 20 < (a.slots.length : Int)) → res = false := fun h => by
    rw [hres]; unfold XU
    have : ((decide (100 < a.addr.length) || (decide (60 < a.code.length) && decide (a.code.length ≤ 512))) || decide (20 < a.slots.length)) = true := by
      simp only [Bool.or_eq_true, Bool.and_eq_true, decide_eq_true_eq]; omega
    show (!((decide (100 < a.addr.length) || (decide (60 < a.code.length) && decide (a.code.length ≤ 512))) || decide (20 < a.slots.length)) && _) = false
    rw [this]; rfl
  have h2 : ¬ (100 < (a.addr.length : Int) ∨ (60 < (a.code.length : Int) ∧ (a.code.length : Int) ≤ 512) ∨ 20 < (a.slots.length : Int)) → (∀ (j : Nat) (x : BS × BS), a.slots[j]? = some x → x.1.length ≤ 100 ∧ x.2.length ≤ 100) → res = true := fun h h' => by
    rw [hres]; unfold XU
    have e : ((decide (100 < a.addr.length) || (decide (60 < a.code.length) && decide (a.code.length ≤ 512))) || decide (20 < a.slots.length)) = false := by
      simp only [Bool.or_eq_false_iff, Bool.and_eq_false_iff, decide_eq_false_iff_not]; omega
    show (!((decide (100 < a.addr.length) || (decide (60 < a.code.length) && decide (a.code.length ≤ 512))) || decide (20 < a.slots.length)) && _) = true
    rw [e]; simp only [Bool.not_false, Bool.true_and, List.all_eq_true]; intro x hx
    obtain ⟨j, hj⟩ := List.getElem?_of_mem hx
    obtain ⟨g1, g2⟩ := h' j x hj
    simp; omega
  refine Jb Tryz.func69 rfl rfl fun w => ?_; refine JD ?_; refine Jq 2 rfl ?_; refine JR (cs := a.cells.toArray) rfl rfl rfl rfl fun r1 => ?_; refine Xf 8 [0] rfl rfl ?_; refine LR rfl (KK rfl rfl) ?_; refine LS 2 [] rfl rfl ?_
  refine J6 8 rfl (fun gb => ?_) (fun gb => ?_) <;> (try simp only [ZZ] at gb) <;> first | (refine LR rfl (JA rfl rfl rfl) ?_) | (refine LK rfl ?_)
  all_goals refine LW 1 [0] rfl rfl ?_
  all_goals first | refine LR rfl (KK rfl rfl) ?_ | refine LK rfl ?_
  all_goals refine LW 2 [] rfl rfl ?_
  all_goals first | refine LK rfl ?_ | (refine J6 13 rfl (fun gb => ?_) (fun gb => ?_) <;> (try simp only [ZZ] at gb) <;> first | (refine LR rfl (JA rfl rfl rfl) ?_) | (refine LK rfl ?_))
  all_goals refine LW 1 [0] rfl rfl ?_
  all_goals first | refine LR rfl (KK rfl rfl) ?_ | refine LK rfl ?_
  all_goals refine LW 4 [] rfl rfl ?_
  all_goals first | refine LR rfl (JA rfl rfl rfl) ?_ | refine LK rfl ?_ | (refine J6 20 rfl (fun gb => ?_) (fun gb => ?_) <;> (try simp only [ZZ] at gb) <;> first | (refine LR rfl (JA rfl rfl rfl) ?_) | (refine LK rfl ?_))
  all_goals refine LW 1 [0] rfl rfl ?_
  all_goals first | refine LR rfl (Jz rfl hseg rfl) ?_ | refine LK rfl ?_
  all_goals (
   refine LW 2 [] rfl rfl (Jx 1 rfl (XN 1 rfl ?_)); refine J0 rfl (fun g => ?_) (fun g => ?_)
   try simp only [ZZ] at g
   refine Kh 7 rfl ?_; refine pT rfl rfl rfl fun w1 hs1 => ?_; rw [h1 (by omega)]; exact ⟨rfl, hs1.keep⟩
   · try exact Bool.noConfusion g
     all_goals try simp only [ZZ] at g
     all_goals (
      refine JK 9 rfl ?_
      have h0 : ¬ (100 < (a.addr.length : Int) ∨ (60 < (a.code.length : Int) ∧ (a.code.length : Int) ≤ 512) ∨ 20 < (a.slots.length : Int)) := by
        simp_all
        all_goals first | done | omega | trace_state
      refine Jy (σ := Nat) (fun i => i ≤ a.slots.length ∧ ∀ (j : Nat) (x : BS × BS), j < i → a.slots[j]? = some x → x.1.length ≤ 100 ∧ x.2.length ≤ 100) (fun i => [(1, .pointer (some ⟨r1, 0, none⟩)), (3, .int .i64 (i : Int))]) (fun _ => [(r1, .cells a.cells.toArray 48 (0, 0))]) (fun _ _ _ => True) (fun i => a.slots.length - i) 0 ⟨Nat.zero_le _, fun _ _ h => absurd h (Nat.not_lt_zero _)⟩ (lK rfl) (List.Sublist.refl _) (fun _ _ h => h) ?_; rintro i ⟨hi1, hinv⟩; refine Vw 6 [0] rfl rfl ?_; refine LR rfl (Jz rfl hseg rfl) ?_; refine JI 3 rfl ?_; refine cD (fun g => ?_) fun g => ?_
      · refine JK 5 rfl ?_
        obtain ⟨x, hx, hmx⟩ := Qs (show i < a.slots.length by omega)
        have hxl := ha.slots x hmx
        refine Vw 4 [0] rfl rfl ?_
        refine LR rfl (Jk (j := i) rfl hseg rfl rfl rfl (by first | rfl | omega) (by omega)) ?_; refine LR rfl (JQ (off' := WP a.p + (i * 2 + 0)) rfl rfl (by show WP a.p + i * 2 + 0 = _; omega)) ?_; refine LR rfl (KN JW (k := 0) (v := J1 x.1) oR rfl hseg hx rfl rfl) ?_; refine LR rfl (KK rfl rfl) ?_; refine LS 2 [] rfl rfl ?_
        refine J6 41 rfl (fun gb => ?_) (fun gb => ?_) <;> (try simp only [ZZ] at gb) <;> first | (refine LR rfl (JA rfl rfl rfl) ?_) | (refine LK rfl ?_)
        all_goals refine LW 2 [0] rfl rfl ?_
        all_goals first | (refine LR rfl (Jk (j := i) rfl hseg rfl rfl rfl (by first | rfl | omega) (by omega)) ?_) | refine LK rfl ?_
        all_goals first | (refine LR rfl (JQ (off' := WP a.p + (i * 2 + 1)) rfl rfl (by show WP a.p + i * 2 + 1 = _; omega)) ?_) | refine LK rfl ?_
        all_goals first | refine LR rfl (KN JW (k := 1) (v := J1 x.2) oR rfl hseg hx rfl rfl) ?_ | refine LK rfl ?_
        all_goals first | refine LR rfl (KK rfl rfl) ?_ | refine LK rfl ?_
        all_goals (
         refine LW 2 [] rfl rfl (Jx 1 rfl (XN 1 rfl ?_)); refine J0 rfl (fun g => ?_) (fun g => ?_)
         try simp only [ZZ] at g
         refine Kh 11 rfl ?_; refine pT rfl rfl rfl fun w1 hs1 => ?_; rw [hres, Jvn hx (by omega)]; exact ⟨rfl, hs1.keep⟩
         · try exact Bool.noConfusion g
           all_goals try simp only [ZZ] at g
           all_goals (
            refine Jq 6 rfl ?_; refine Jc (by omega) (by omega) ?_; refine Jx 2 rfl ?_; refine Jv ?_
            exact Jo (i + 1) ⟨by omega, fun j y hj hy => by
              rcases Nat.lt_succ_iff_lt_or_eq.1 hj with h | rfl
              exact hinv j y h hy
              · obtain rfl := Option.some.inj (hx.symm.trans hy); simp_all; all_goals first | done | omega | trace_state⟩ (by omega) (lK rfl) (List.Sublist.refl _) (fun _ _ h => h)
            skip)
         skip)
      refine Kh 11 rfl ?_; refine pT rfl rfl rfl fun w1 hs1 => ?_; rw [h2 h0 (fun j y hy => hinv j y (by have := (List.getElem?_eq_some_iff.1 hy).1; omega) hy)]; exact ⟨rfl, hs1.keep⟩
      skip)
   skip)
theorem Jvp {R : Jm} {s : StL} (hs : s.In R) : PureR Tryz.prog 29 [s.val].toArray (.bool (ZP s.er)) R := by
  have hl := hs.len
  have hseg := hs.seg
  obtain ⟨⟨rb, rn⟩, hres⟩ : ∃ b, b = ZD 0 0 s.er := ⟨_, rfl⟩
  have hfs : ZP s.er = (rb && (decide (s.accts.length ≤ 40) && decide (rn ≤ 40))) := by unfold ZP; rw [← hres, s.er_len]
  rw [hfs]; refine Jb Tryz.func29 rfl rfl fun w => ?_; refine JD ?_; refine Jq 2 rfl ?_; refine JR (cs := s.cells.toArray) rfl rfl rfl rfl fun r1 => ?_; refine JI 15 rfl ?_; refine Jy (σ := Nat × Int) (fun q => q.1 ≤ s.accts.length ∧ 0 ≤ q.2 ∧ q.2 ≤ 20 * q.1 ∧ q.1 ≤ 41 ∧ ZD q.1 q.2 (s.er.drop q.1) = (rb, rn)) (fun q => [(1, .pointer (some ⟨r1, 0, none⟩)), (3, .int .i64 q.2), (4, .int .i64 (q.1 : Int))]) (fun _ => [(r1, .cells s.cells.toArray 36 (0, 0))]) (fun _ _ _ => True) (fun q => s.accts.length - q.1) (0, 0) ⟨Nat.zero_le _, by omega, by omega, by omega, hres.symm⟩ (lK rfl) (List.Sublist.refl _) (fun _ _ h => h) ?_; rintro ⟨i, n⟩ ⟨hi1, hn0, hn1, hi41, hinv⟩; simp only at hi1 hn0 hn1 hi41 hinv; change HC _ _ [(1, _), (3, .int .i64 n), (4, .int .i64 (i : Int))] _ _ _ _; refine Vw 6 [0] rfl rfl ?_; refine LR rfl (Jz rfl hseg rfl) ?_; refine LS 2 [] rfl rfl ?_
  refine J6 11 rfl (fun gb => ?_) (fun gb => ?_) <;> (try simp only [ZZ] at gb) <;> first | (refine Q1 rfl ?_) | (refine LK rfl ?_)
  all_goals (
   refine LW 2 [] rfl rfl (Jx 1 rfl (XN 1 rfl ?_)); refine J0 rfl (fun g => ?_) (fun g => ?_)
   · try exact Bool.noConfusion g
     all_goals try simp only [ZZ] at g
     all_goals (
      refine JK 5 rfl ?_
      obtain ⟨a, ha, hma⟩ := Qs (show i < s.accts.length by omega)
      have ha2 := hs.accts a hma
      have hi40 : i ≤ 40 := by simp_all <;> omega
      refine Vw 4 [0] rfl rfl ?_
      refine LR rfl (Jk (j := i) rfl hseg rfl rfl rfl (by first | rfl | omega) (by omega)) ?_; refine LR rfl (JV AcL.len oR rfl hseg ha rfl rfl) ?_; refine Ji rfl rfl rfl (enters_of Tryz.func69 (by kernel_rfl) rfl) (Jlv ha2) oR ?_; refine JI 10 rfl ?_; refine cD (fun g => ?_) fun g => ?_
      refine Kh 12 rfl ?_; refine pT rfl rfl rfl fun w1 hs1 => ?_
      (have hff : XU a.er = false := by simp_all
       have h1 := Jq3 (n := n) (XR ha) hi40 hff
       rw [hinv] at h1
       rw [show rb = false from h1]; exact ⟨rfl, hs1.keep⟩)
      refine JK 2 rfl ?_
      have hft : XU a.er = true := by simp_all
      have h20 := Jvo hft
      have h20 : a.slots.length ≤ 20 := h20
      rw [Jq1 (XR ha) hi40 hft] at hinv; refine Vw 5 [0] rfl rfl ?_
      refine LR rfl (Jk (j := i) rfl hseg rfl rfl rfl (by first | rfl | omega) (by omega)) ?_; refine LR rfl (JQ (off' := WP s.p + (i * 8 + 7)) rfl rfl (by show WP s.p + i * 8 + 7 = _; omega)) ?_; refine LR rfl (KN AcL.len (k := 7) (v := KB a.slots.length a.p) oR rfl hseg ha rfl rfl) ?_; refine LR rfl (Jz rfl ha2.seg rfl) ?_; refine VQ rfl (Jc (by omega) (by omega) (JJ 7 rfl ?_)); refine Jc (by omega) (by omega) ?_; refine Jx 2 rfl ?_; refine Jv ?_; exact Jo (i + 1, n + (a.slots.length : Int)) ⟨by simp only; omega, by simp only; omega, by simp only; omega, by simp only; omega, hinv⟩ (by simp only; omega) (lK rfl) (List.Sublist.refl _) (fun _ _ h => h)
      skip)
   · try simp only [ZZ] at g
     refine Vw 9 [0] rfl rfl ?_; refine LR rfl (Jz rfl hseg rfl) ?_; refine LS 2 [] rfl rfl ?_
     refine J6 38 rfl (fun gb => ?_) (fun gb => ?_) <;> (try simp only [ZZ] at gb) <;> first | (refine Q1 rfl ?_) | (refine LK rfl ?_)
     all_goals (
      refine LW 3 [] rfl rfl (Jx 1 rfl (ZT 2 rfl ?_)); refine pT rfl rfl rfl fun w1 hs1 => ?_
      first
        | (have hff : XU a.er = false := by simp_all
           have h1 := Jq3 (n := n) (XR ha) hi40 hff
           rw [hinv] at h1
           rw [show rb = false from h1]; exact ⟨rfl, hs1.keep⟩)
        | (rw [Jq2 (by rw [s.er_len]; omega)] at hinv
           obtain ⟨rfl, rfl⟩ := Prod.mk.inj hinv
           refine ⟨?_, hs1.keep⟩
           simp [JG]
           all_goals first | done | omega | trace_state)
        | trace_state
      skip)
   skip)
def rw1 : Rec := ⟨5, 6, ⟨7, 0, 0, 0⟩, w40, w40, 8, 0, 0⟩
theorem qy {n : Nat} (h : n < 1000) : VV n := by unfold VV; omega
theorem Jq4 {a b : Int} (h : a = b) : Value.int .i64 a = .int .i64 b := congrArg _ h
theorem Jvq {a b : Bool} (h : a = b) : Value.bool a = .bool b := congrArg _ h
theorem yf (a b : AcL) : a.er = b.er ↔ a.addr = b.addr ∧ a.nonce = b.nonce ∧ a.bal = b.bal ∧ a.code = b.code ∧ a.slots = b.slots := by
 unfold AcL.er
 simp
theorem jN {a b : AcL} (h : ¬ a.addr = b.addr ∨ ¬ a.nonce = b.nonce ∨ ¬ a.bal = b.bal ∨ ¬ a.code = b.code ∨ ¬ a.slots.length = b.slots.length) : ¬ a.er = b.er := fun e => by
 obtain ⟨h1, h2, h3, h4, h5⟩ := (yf a b).1 e
 rcases h with h | h | h | h | h
 ·exact h h1
 ·exact h h2
 ·exact h h3
 ·exact h h4
 ·exact h (by rw [h5])
theorem Jgk {R : Jm} {a b : AcL} (ha : a.In R) (hb : b.In R) : PureR Tryz.prog 26 [a.val, b.val].toArray (.bool (decide (a.er = b.er))) R := by
  have hl : a.slots.length ≤ 9223372036854775807 := ha.len
  have hl2 : b.slots.length ≤ 9223372036854775807 := hb.len
  have h1 := ha.seg
  have h2 := hb.seg
  refine Jb Tryz.func26 rfl rfl fun w => ?_; refine JD ?_; refine Jq 2 rfl ?_; refine JR (cs := a.cells.toArray) rfl rfl rfl rfl fun ra => ?_; refine JR (cs := b.cells.toArray) rfl rfl rfl rfl fun rb => ?_; refine Xf 10 [1, 0] rfl rfl ?_; refine LR rfl (X8 rfl rfl) ?_; refine Q1 rfl ?_
  refine J6 11 rfl (fun gb => ?_) (fun gb => ?_) <;> (try simp only [ZZ] at gb) <;> first | (refine LR rfl (JA rfl rfl rfl) ?_) | (refine LK rfl ?_)
  all_goals refine LW 1 [1] rfl rfl ?_
  all_goals first | refine LR rfl (JA rfl rfl rfl) ?_ | refine LK rfl ?_
  all_goals refine LW 2 [0] rfl rfl ?_
  all_goals first | (refine J3 (congrArg (fun b => Value.bool (!b)) (eqU a.nonce b.nonce)) ?_) | skip
  all_goals refine LW 2 [] rfl rfl ?_
  all_goals first | refine LK rfl ?_ | (refine J6 18 rfl (fun gb => ?_) (fun gb => ?_) <;> (try simp only [ZZ] at gb) <;> first | (refine LR rfl (JA rfl rfl rfl) ?_) | (refine LK rfl ?_))
  all_goals refine LW 1 [1] rfl rfl ?_
  all_goals first | refine LR rfl (JA rfl rfl rfl) ?_ | refine LK rfl ?_
  all_goals refine LW 1 [0] rfl rfl ?_
  all_goals first | (refine LR rfl (xx rfl rfl rfl rfl rfl (by kernel_rfl) rfl rfl rfl rfl) ?_) | refine LK rfl ?_
  all_goals first | (refine J3 (congrArg (fun b => Value.bool (!b)) (eqW a.bal b.bal)) ?_) | skip
  all_goals refine LW 2 [] rfl rfl ?_
  all_goals first | refine LK rfl ?_ | (refine J6 25 rfl (fun gb => ?_) (fun gb => ?_) <;> (try simp only [ZZ] at gb) <;> first | (refine LR rfl (JA rfl rfl rfl) ?_) | (refine LK rfl ?_))
  all_goals refine LW 1 [1] rfl rfl ?_
  all_goals first | refine LR rfl (JA rfl rfl rfl) ?_ | refine LK rfl ?_
  all_goals refine LW 1 [0] rfl rfl ?_
  all_goals first | refine LR rfl (X8 rfl rfl) ?_ | refine LK rfl ?_
  all_goals refine LW 2 [] rfl rfl ?_
  all_goals first | refine LK rfl ?_ | (refine J6 32 rfl (fun gb => ?_) (fun gb => ?_) <;> (try simp only [ZZ] at gb) <;> first | (refine LR rfl (JA rfl rfl rfl) ?_) | (refine LK rfl ?_))
  all_goals refine LW 1 [1] rfl rfl ?_
  all_goals first | refine LR rfl (Jz rfl h1 rfl) ?_ | refine LK rfl ?_
  all_goals first | refine LR rfl (JA rfl rfl rfl) ?_ | refine LK rfl ?_
  all_goals refine LW 1 [0] rfl rfl ?_
  all_goals first | refine LR rfl (Jz rfl h2 rfl) ?_ | refine LK rfl ?_
  all_goals (
   refine LW 2 [] rfl rfl (Jx 1 rfl (XN 1 rfl ?_)); refine J0 rfl (fun g => ?_) (fun g => ?_)
   try simp only [ZZ] at g
   refine Kh 7 rfl ?_; refine pT rfl rfl rfl fun w1 hs1 => ?_; refine ⟨?_, hs1.keep⟩
   first | (rw [decide_eq_false (jN (.inl (by assumption)))]; rfl) | (rw [decide_eq_false (jN (.inr (.inl (by assumption))))]; rfl) | (rw [decide_eq_false (jN (.inr (.inr (.inl (by assumption)))))]; rfl) | (rw [decide_eq_false (jN (.inr (.inr (.inr (.inl (by assumption))))))]; rfl) | (rw [decide_eq_false (jN (.inr (.inr (.inr (.inr (by omega))))))]; rfl)
   · try exact Bool.noConfusion g
     all_goals try simp only [ZZ] at g
     all_goals (
      refine JK 9 rfl ?_
      have hll : a.slots.length = b.slots.length := by omega
      have hflat : a.addr = b.addr ∧ a.nonce = b.nonce ∧ a.bal = b.bal ∧ a.code = b.code := by simp_all
      refine Jy (σ := Nat) (fun i => i ≤ a.slots.length ∧ ∀ j, j < i → a.slots[j]? = b.slots[j]?) (fun i => [(2, Value.pointer (some ⟨ra, 0, none⟩)), (3, Value.pointer (some ⟨rb, 0, none⟩)), (5, .int .i64 (i : Int))]) (fun _ => [(rb, .cells b.cells.toArray 48 (0, 0)), (ra, .cells a.cells.toArray 48 (0, 0))]) (fun _ _ _ => True) (fun i => a.slots.length - i) 0 ⟨by omega, fun j hj => absurd hj (by omega)⟩ (lK rfl) (List.Sublist.refl _) (fun _ _ h => h) ?_; rintro i ⟨hi1, hinv⟩; refine Vw 6 [1] rfl rfl ?_; refine LR rfl (Jz rfl h1 rfl) ?_; refine JI 3 rfl ?_; refine cD (fun g => ?_) fun g => ?_
      refine JK 5 rfl ?_
      obtain ⟨x, hx, hmx⟩ := Qs (show i < a.slots.length by omega)
      obtain ⟨y, hy, hmy⟩ := Qs (show i < b.slots.length by omega)
      refine JE 11 (by kernel_rfl) (by kernel_rfl) ?_
      refine Ja rfl rfl rfl (JA rfl rfl rfl) ?_; refine Ja rfl rfl rfl (Je rfl (kn 1 rfl) rfl rfl) ?_; refine Ja rfl rfl rfl (Jf rfl) ?_
      refine Ja rfl rfl rfl (Jk (j := i) rfl h1 rfl rfl rfl (by first | rfl | omega) (by omega)) ?_; refine Ja rfl rfl rfl (JV JW oR rfl h1 hx rfl rfl) ?_
      refine Ja rfl rfl rfl (JA rfl rfl rfl) ?_; refine Ja rfl rfl rfl (Je rfl (kn 0 rfl) rfl rfl) ?_; refine Ja rfl rfl rfl (Jf rfl) ?_
      refine Ja rfl rfl rfl (Jk (j := i) rfl h2 rfl rfl rfl (by first | rfl | omega) (by omega)) ?_; refine Ja rfl rfl rfl (JV JW oR rfl h2 hy rfl rfl) ?_; refine Ja rfl rfl rfl (Jh2 rfl rfl rfl (by kernel_rfl) (by kernel_rfl) (.scal (by decide) rfl rfl rfl rfl rfl (.scal (by decide) rfl rfl rfl rfl rfl .nil))) ?_; refine KR (congrArg (fun b => Value.bool (!b)) (Jtt x y)) ?_; refine JS ?_; refine JI 2 rfl ?_; refine cD (fun g => ?_) fun g => ?_
      refine Kh 11 rfl ?_; refine pT rfl rfl rfl fun w1 hs1 => ?_; refine ⟨?_, hs1.keep⟩; rw [decide_eq_false (show ¬ a.er = b.er from fun e => Jxx hx hy (by simp_all) ((yf a b).1 e).2.2.2.2)]; rfl
      refine Jq 6 rfl ?_; refine Jc (by omega) (by omega) ?_; refine Jx 2 rfl ?_; refine Jv ?_
      exact Jo (i + 1) ⟨by omega, fun j hj => by
        rcases Nat.lt_succ_iff_lt_or_eq.1 hj with hj | rfl
        exact hinv j hj
        rw [hx, hy]; simp_all⟩ (by omega) (lK rfl) (List.Sublist.refl _) (fun _ _ h => h)
      refine Kh 11 rfl ?_; refine pT rfl rfl rfl fun w1 hs1 => ?_; refine ⟨?_, hs1.keep⟩; rw [decide_eq_true ((yf a b).2 ⟨hflat.1, hflat.2.1, hflat.2.2.1, hflat.2.2.2, Jxw hll (by omega) hinv⟩)]; rfl
      skip)
   skip)
structure Stay (s t : StL) (a key : BS) : Prop where
  there : VW s a = true → VW t a = true
  oth : a ≠ A0 → a ≠ A1 → VW s a = VW t a ∧ (Qy s a).er = (Qy t a).er
  nonce : (Qy s a).nonce = (Qy t a).nonce
  bal : (Qy s a).bal = (Qy t a).bal
  slot : (a = A0 → ¬ xY key) → QR (Qy s a).er key = QR (Qy t a).er key
theorem Xw {a b : Bool} (h : a = b) : Value.bool a = .bool b := congrArg _ h
theorem Ja6 : Pure Tryz.prog 131 [].toArray (J1 Qc) := by
 refine Jl Tryz.func131 rfl rfl fun w => ?_; refine JD ?_; refine Jq 7 rfl ?_; refine VA (n := 32) (b := 1) rfl rfl rfl rfl rfl rfl rfl rfl rfl (by decide) (by decide) fun r1 => ?_; refine LR rfl (KS (b := Qc) (row := some (r1, 32, [])) (e := 5) rfl ⟨rfl, rfl⟩ (fun p hp => .inl (by rw [List.mem_singleton.1 hp]; exact List.mem_cons_self)) rfl rfl rfl) ?_; refine Jx 4 rfl ?_; refine pT rfl rfl rfl fun w1 hs1 => ?_; exact ⟨rfl, hs1.keep⟩
theorem Jjq {R : Jm} {s : StL} (hs : s.In R) (k : BS) : PureR Tryz.prog 38 [s.val, J1 k].toArray (.tuple #[(Qy s k).val, .bool (VW s k)]) R := by
 have hl : s.accts.length ≤ 9223372036854775807 := hs.len
 have hseg := hs.seg
 unfold Qy VW
 obtain ⟨res, hres⟩ : ∃ r, r = s.accts.find? fun a => decide (a.addr = k) := ⟨_, rfl⟩
 rw [← hres]; refine Jb Tryz.func38 rfl rfl fun w => ?_; refine JD ?_; refine Jq 2 rfl ?_; refine JR (cs := s.cells.toArray) rfl rfl rfl rfl fun rs => ?_; refine LN rfl fun r1 => ?_; refine JI 10 rfl ?_; refine Jy (σ := Nat) (fun i => i ≤ s.accts.length ∧ res = (s.accts.drop i).find? fun a => decide (a.addr = k)) (fun i => [(1, J1 k), (2, Value.pointer (some ⟨rs, 0, none⟩)), (4, Value.pointer (some ⟨r1, 0, none⟩)), (6, .int .i64 (i : Int))]) (fun _ => [(r1, .cells ac0L.cells.toArray 48 (0, 0)), (rs, .cells s.cells.toArray 36 (0, 0))]) (fun _ _ _ => True) (fun i => s.accts.length - i) 0 ⟨Nat.zero_le _, hres⟩ (lK rfl) (List.Sublist.refl _) (fun _ _ h => h) ?_; rintro i ⟨hi1, hinv⟩; refine Vw 6 [1] rfl rfl ?_; refine LR rfl (Jz rfl hseg rfl) ?_; refine JI 3 rfl ?_; refine cD (fun g => ?_) fun g => ?_
 refine JK 5 rfl ?_
 obtain ⟨a, ha, hma⟩ := Qs (show i < s.accts.length by omega)
 rw [WH ha, List.find?_cons] at hinv; refine Vw 4 [1] rfl rfl ?_
 refine LR rfl (Jk (j := i) rfl hseg rfl rfl rfl (by first | rfl | omega) (by omega)) ?_; refine LR rfl (JQ (off' := WP s.p + (i * 8 + 0)) rfl rfl (by show WP s.p + i * 8 + 0 = _; omega)) ?_; refine LR rfl (KN AcL.len (k := 0) (v := J1 a.addr) oR rfl hseg ha rfl rfl) ?_; refine Q1 rfl (LR rfl (WO rfl rfl) (JI 2 rfl ?_)); refine cD (fun g => ?_) fun g => ?_
 refine Vw 5 [1] rfl rfl ?_
 refine LR rfl (Jk (j := i) rfl hseg rfl rfl rfl (by first | rfl | omega) (by omega)) ?_; refine LR rfl (JV AcL.len oR rfl hseg ha rfl rfl) ?_; refine Jh (k := 0) (n := 8) (ys := (a).cells) rfl rfl rfl rfl rfl rfl rfl rfl rfl ?_; refine Jx 9 rfl ?_; refine Jg rfl rfl (.cons (Jr (vs := [_, _, _, _, _, _, _, _]) rfl (kn 0 rfl) rfl rfl) (.cons (Jj rfl) .nil)) (fun w1 hs1 => ?_); refine ⟨?_, hs1.keep⟩; rw [show decide (a.addr = k) = true from decide_eq_true (by assumption)] at hinv; rw [hinv]; rfl
 refine Jq 6 rfl ?_; refine Jc (by omega) (by omega) ?_; refine Jx 2 rfl ?_; refine Jv ?_; rw [show decide (a.addr = k) = false from decide_eq_false (by assumption)] at hinv; exact Jo (i + 1) ⟨by omega, hinv⟩ (by omega) (lK rfl) (List.Sublist.refl _) (fun _ _ h => h)
 ·refine Jq 7 rfl ?_; refine LR rfl (Jt (r := [_, _, _, _, _, _, _, _]) rfl rfl) ?_; refine Jh (k := 0) (n := 8) (ys := (ac0L).cells) rfl rfl rfl rfl rfl rfl rfl rfl rfl ?_; refine Jx 4 rfl ?_; refine Jg rfl rfl (.cons (Jr (vs := [_, _, _, _, _, _, _, _]) rfl (kn 0 rfl) rfl rfl) (.cons (Jj rfl) .nil)) (fun w1 hs1 => ?_); refine ⟨?_, hs1.keep⟩; rw [List.drop_of_length_le (by omega)] at hinv; rw [hinv]; rfl
def Jq5 (p : Option BS) (a : AcE) : Bool := p.isNone || Op.bytesLess (p.getD []) a.addr
theorem zM (p : Option BS) (a : AcE) : QQ p a = if a.slots.any YN = true ∨ a.addr.length ≠ 20 then 2 else if (Jq5 p a && Q4 Prod.fst a.slots) = false then 11 else if a.code.length > 512 ∨ a.slots.length > 16 then 5 else if a.slots.any WA = true then 8 else 0 := by
 by_cases h : a.slots.any YN = true ∨ a.addr.length ≠ 20
 ·have e : VM a = 2 := by unfold VM; rw [if_pos (h.elim Or.inr Or.inl)]
  rw [if_pos h, Jab (.inl e), e]
 rw [if_neg h]
 have h' : ¬ (a.addr.length ≠ 20 ∨ a.slots.any YN = true) := fun hh => h (hh.elim Or.inr Or.inl)
 have e : VM a = if Q4 Prod.fst a.slots = false then 11 else if a.code.length > 512 ∨ a.slots.length > 16 then 5 else if a.slots.any WA = true then 8 else 0 := by unfold VM; rw [if_neg h']
 cases hr : Q4 Prod.fst a.slots
 ·rw [hr, if_pos rfl] at e
  rw [Bool.and_false, if_pos rfl]
  unfold QQ
  split
  ·rfl
  ·exact e
 rw [hr, if_neg (by simp)] at e
 have h2 : VM a ≠ 2 := by
  rw [e]
  split
  ·decide
  ·split <;> decide
 cases p with
 | none =>
  rw [qm, e]
  rfl
 | some b =>
  show QQ (some b) a = if ((false || Op.bytesLess b a.addr) && true) = false then 11 else _
  cases hb : Op.bytesLess b a.addr
  ·rw [Jh0 h2 rfl hb]; rfl
  ·rw [Jab (.inr (.inr ⟨b, rfl, hb⟩)), e]; rfl
theorem Jq6 {α : Type} {p : α → Bool} {l : List α} {j : Nat} {x : α} (h : l[j]? = some x) (hp : p x = true) : l.any p = true := List.any_eq_true.2 ⟨x, List.mem_of_getElem? h, hp⟩
theorem Jq7 {α : Type} {p : α → Bool} {l : List α} (h : ∀ (j : Nat) x, l[j]? = some x → p x = false) : l.any p = false := by
 rw [List.any_eq_false]; intro x hx
 obtain ⟨j, hj⟩ := List.getElem?_of_mem hx
 rw [h j x hj]; simp
structure RackI (a : AcL) (rb : Bool) (i : Nat) (rs sp : Bool) : Prop where
  le : i ≤ a.slots.length
  odd : ∀ (j : Nat) x, j < i → a.slots[j]? = some x → YN x = false
  rs : rs = true ↔ rb = true ∧ ∀ (j : Nat) x y, j + 1 < i → a.slots[j]? = some x → a.slots[j + 1]? = some y → Op.bytesLess x.1 y.1 = true
  sp : sp = true ↔ ∃ (j : Nat) (x : BS × BS), j < i ∧ a.slots[j]? = some x ∧ x.2 = Qc
theorem RackI.zero (a : AcL) (rb : Bool) : RackI a rb 0 rb false := ⟨Nat.zero_le _, fun _ _ h => absurd h (Nat.not_lt_zero _), by simp, by simp⟩
theorem RackI.next {a : AcL} {rb : Bool} {i : Nat} {rs sp rs' sp' : Bool} {x : BS × BS} (h : RackI a rb i rs sp) (hx : a.slots[i]? = some x) (ho : x.1.length = 32 ∧ x.2.length = 32)
  (hr : rs' = (rs && (decide (i = 0) || Op.bytesLess ((a.slots[i - 1]?.map Prod.fst).getD []) x.1))) (hp : sp' = (sp || decide (x.2 = Qc))) : RackI a rb (i + 1) rs' sp' := by
 have hlt := (List.getElem?_eq_some_iff.1 hx).1
 refine ⟨hlt, fun j y hj hy => ?_, ?_, ?_⟩
 ·rcases Nat.lt_succ_iff_lt_or_eq.1 hj with hj | rfl
  ·exact h.odd j y hj hy
  ·rw [hx] at hy; cases hy
   unfold YN; simp [ho.1, ho.2]
 ·rw [hr, Bool.and_eq_true, h.rs, Bool.or_eq_true, decide_eq_true_eq]
  constructor
  ·rintro ⟨⟨h1, h2⟩, h3⟩
   refine ⟨h1, fun j u v hj hu hv => ?_⟩
   rcases Nat.lt_succ_iff_lt_or_eq.1 hj with hj | hj
   ·exact h2 j u v hj hu hv
   ·subst hj
    rw [hx] at hv; cases hv; rw [show j + 1 - 1 = j by omega, hu] at h3; exact h3.resolve_left (by omega)
  ·rintro ⟨h1, h2⟩
   refine ⟨⟨h1, fun j u v hj hu hv => h2 j u v (by omega) hu hv⟩, ?_⟩
   rcases Nat.eq_zero_or_pos i with h0 | h0
   ·exact .inl h0
   ·obtain ⟨j, rfl⟩ : ∃ j, i = j + 1 := ⟨i - 1, by omega⟩
    obtain ⟨u, hu, -⟩ := Qs (show j < a.slots.length by omega)
    rw [show j + 1 - 1 = j by omega, hu]; exact .inr (h2 j u x (by omega) hu hx)
 ·rw [hp, Bool.or_eq_true, h.sp, decide_eq_true_eq]
  constructor
  ·rintro (⟨j, u, hj, hu, e⟩ | e)
   ·exact ⟨j, u, by omega, hu, e⟩
   ·exact ⟨i, x, by omega, hx, e⟩
  ·rintro ⟨j, u, hj, hu, e⟩
   rcases Nat.lt_succ_iff_lt_or_eq.1 hj with hj | rfl
   ·exact .inl ⟨j, u, hj, hu, e⟩
   ·rw [hx] at hu; cases hu; exact .inr e
theorem RackI.done {a : AcL} {rb : Bool} {rs sp : Bool} (h : RackI a rb a.slots.length rs sp) : a.slots.any YN = false ∧ rs = (rb && Q4 Prod.fst a.slots) ∧ sp = a.slots.any WA := by
 have hlt : ∀ (j : Nat) (x : BS × BS), a.slots[j]? = some x → j < a.slots.length := fun j x hx => (List.getElem?_eq_some_iff.1 hx).1
 refine ⟨Jq7 fun j x hx => h.odd j x (hlt j x hx) hx, ?_, ?_⟩
 ·rw [Bool.eq_iff_iff, h.rs, Bool.and_eq_true]
  refine and_congr_right fun _ => ⟨fun hh => Zn fun j x y hx hy => hh j x y (hlt _ _ hy) hx hy, fun hh j x y _ hx hy => ?_⟩
  cases hb : Op.bytesLess x.1 y.1
  ·rw [j9 hx hy hb] at hh; cases hh
  ·rfl
 ·rw [Bool.eq_iff_iff, h.sp]
  constructor
  ·rintro ⟨j, x, _, hx, e⟩
   exact Jq6 hx (by unfold WA; rw [e]; simp)
  ·intro hh
   obtain ⟨x, hx, e⟩ := List.any_eq_true.1 hh
   obtain ⟨j, hj⟩ := List.getElem?_of_mem hx
   exact ⟨j, x, hlt j x hj, hj, by simpa [WA] using e⟩
theorem Jq8 {a : AcL} {j : Nat} {x : BS × BS} (p : Option BS) (hx : a.slots[j]? = some x) (h : ¬ (x.1.length = 32 ∧ x.2.length = 32)) : QQ p a.er = 2 := by
 rw [zM, if_pos (.inl (Jq6 (l := a.er.slots) hx (by unfold YN; rw [Bool.or_eq_true, decide_eq_true_eq, decide_eq_true_eq]; omega)))]
theorem Jq9 {a : AcL} {p : Option BS} {rs sp : Bool} (h : RackI a (Jq5 p a.er) a.slots.length rs sp) : QQ p a.er = if (a.addr.length : Int) ≠ 20 then 2 else if rs = false then 11 else if (a.code.length : Int) > 512 ∨ (a.slots.length : Int) > 16 then 5 else if sp = true then 8 else 0 := by
 obtain ⟨h1, h2, h3⟩ := h.done
 rw [zM, h2, h3, show a.er.slots.any YN = false from h1]; refine ite_congr (propext ⟨fun hh => ?_, fun hh => ?_⟩) (fun _ => rfl) fun _ => ite_congr rfl (fun _ => rfl) fun _ => ite_congr (propext ⟨fun hh => ?_, fun hh => ?_⟩) (fun _ => rfl) fun _ => rfl
 ·have hh : a.addr.length ≠ 20 := hh.elim (fun h => by cases h) id
  omega
 ·exact .inr (show a.addr.length ≠ 20 by omega)
 ·have hh : a.code.length > 512 ∨ a.slots.length > 16 := hh
  omega
 ·show a.code.length > 512 ∨ a.slots.length > 16
  omega
set_option maxHeartbeats 1000000 in
theorem Jvr {R : Jm} {a : AcL} (ha : a.In R) (p : Option BS) : PureR Tryz.prog 83 [a.val, .bool p.isNone, J1 (p.getD [])].toArray (.int .i64 (QQ p a.er)) R := by
  have hl : a.slots.length ≤ 9223372036854775807 := ha.len
  have hseg := ha.seg
  obtain ⟨rb, hrb⟩ : ∃ b, b = Jq5 p a.er := ⟨_, rfl⟩
  have hrb2 : rb = (p.isNone || Op.bytesLess (p.getD []) a.addr) := hrb
  obtain ⟨first, hfirst⟩ : ∃ b, b = p.isNone := ⟨_, rfl⟩
  obtain ⟨last, hlast⟩ : ∃ b, b = p.getD [] := ⟨_, rfl⟩
  rw [← hfirst, ← hlast] at hrb2; rw [← hfirst, ← hlast]; refine Jb Tryz.func83 rfl rfl fun w => ?_; refine JD ?_; refine Jq 2 rfl ?_; refine JR (cs := a.cells.toArray) rfl rfl rfl rfl fun ra => ?_; refine JJ 7 rfl ?_
  refine J6 11 rfl (fun gb => ?_) (fun gb => ?_) <;> (try simp only [ZZ] at gb) <;> first | (refine LR rfl (JA rfl rfl rfl) ?_) | (refine LK rfl ?_)
  all_goals refine LW 2 [0] rfl rfl ?_
  all_goals first | refine LR rfl (xZ (a := a.addr) (b := last) rfl rfl) ?_ | refine LK rfl ?_
  all_goals refine LW 1 [] rfl rfl ?_
  all_goals first | (refine J3 (Xw (show true = rb by rw [hrb2]; simp_all)) ?_) | (refine J3 (Xw (show Op.bytesLess last a.addr = rb by rw [hrb2]; simp_all)) ?_)
  all_goals (
   refine Jx 2 rfl (XN 13 rfl ?_); refine Jy (σ := Nat × Bool × Bool) (fun q => RackI a rb q.1 q.2.1 q.2.2) (fun q => [(3, Value.pointer (some ⟨ra, 0, none⟩)), (7, .bool q.2.1), (8, .bool q.2.2), (9, .int .i64 (q.1 : Int))]) (fun _ => [(ra, .cells a.cells.toArray 48 (0, 0))]) (fun _ _ _ => True) (fun q => a.slots.length - q.1) (0, rb, false) (RackI.zero a rb) (lK rfl) (List.Sublist.refl _) (fun _ _ h => h) ?_; rintro ⟨i, rs, sp⟩ hinv; simp only at hinv; change HC _ _ [(3, _), (7, .bool rs), (8, .bool sp), (9, .int .i64 (i : Int))] _ _ _ _; refine Vw 6 [0] rfl rfl ?_; refine LR rfl (Jz rfl hseg rfl) ?_; refine JI 3 rfl ?_; refine cD (fun g => ?_) fun g => ?_
   · refine JK 6 rfl ?_
     obtain ⟨x, hx, hmx⟩ := Qs (show i < a.slots.length by omega)
     refine Vw 4 [0] rfl rfl ?_
     refine LR rfl (Jk (j := i) rfl hseg rfl rfl rfl (by first | rfl | omega) (by omega)) ?_; refine LR rfl (JQ (off' := WP a.p + (i * 2 + 0)) rfl rfl (by show WP a.p + i * 2 + 0 = _; omega)) ?_; refine LR rfl (KN JW (k := 0) (v := J1 x.1) oR rfl hseg hx rfl rfl) ?_; refine LR rfl (KK rfl rfl) ?_; refine LS 2 [] rfl rfl ?_
     refine J6 32 rfl (fun gb => ?_) (fun gb => ?_) <;> (try simp only [ZZ] at gb) <;> first | (refine LR rfl (JA rfl rfl rfl) ?_) | (refine LK rfl ?_)
     all_goals refine LW 2 [0] rfl rfl ?_
     all_goals first | (refine LR rfl (Jk (j := i) rfl hseg rfl rfl rfl (by first | rfl | omega) (by omega)) ?_) | refine LK rfl ?_
     all_goals first | (refine LR rfl (JQ (off' := WP a.p + (i * 2 + 1)) rfl rfl (by show WP a.p + i * 2 + 1 = _; omega)) ?_) | refine LK rfl ?_
     all_goals first | refine LR rfl (KN JW (k := 1) (v := J1 x.2) oR rfl hseg hx rfl rfl) ?_ | refine LK rfl ?_
     all_goals first | refine LR rfl (KK rfl rfl) ?_ | refine LK rfl ?_
     all_goals (
      refine LW 2 [] rfl rfl (Jx 1 rfl (XN 1 rfl ?_)); refine J0 rfl (fun g => ?_) (fun g => ?_)
      try simp only [ZZ] at g
      refine Kh 12 rfl ?_; refine pT rfl rfl rfl fun w1 hs1 => ?_; refine ⟨?_, hs1.keep⟩; rw [Jq8 p hx (by omega)]; rfl
      · try exact Bool.noConfusion g
        all_goals try simp only [ZZ] at g
        all_goals (
         refine JK 3 rfl ?_
         have hxo : x.1.length = 32 ∧ x.2.length = 32 := by omega
         obtain ⟨nv, hnv⟩ : ∃ b, b = decide (x.2 = Qc) := ⟨_, rfl⟩
         refine JE 22 (by kernel_rfl) (by kernel_rfl) ?_; refine Ja rfl rfl rfl (Jf rfl) ?_; refine Ja rfl rfl rfl (Jf rfl) ?_
         refine X7 43 rfl (fun gb => ?_) (fun gb => ?_) <;> (try simp only [ZZ] at gb) <;> first | (refine Ja rfl rfl rfl (Jf rfl) ?_) | (refine J7 rfl rfl rfl ?_)
         all_goals first | (refine Ja rfl rfl rfl (J2 rfl rfl rfl) ?_; refine KR (Xw (show _ = decide (i = 0) from by rw [Bool.eq_iff_iff]; simp)) ?_) | refine J7 rfl rfl rfl ?_
         all_goals first | refine Ja rfl rfl rfl (Jf rfl) ?_ | refine J7 rfl rfl rfl ?_
         all_goals first | refine J7 rfl rfl rfl ?_ | (refine X7 46 rfl (fun gb => ?_) (fun gb => ?_) <;> (try simp only [ZZ] at gb) <;> first | (refine Ja rfl rfl rfl (JA rfl rfl rfl) ?_) | (refine J7 rfl rfl rfl ?_))
         all_goals first | refine Ja rfl rfl rfl (Je rfl (kn 0 rfl) rfl rfl) ?_ | refine J7 rfl rfl rfl ?_
         all_goals first | refine Ja rfl rfl rfl (Jf rfl) ?_ | refine J7 rfl rfl rfl ?_
         all_goals first | (refine Ja rfl rfl rfl (Jk (j := i) rfl hseg rfl rfl rfl (by first | rfl | omega) (by omega)) ?_) | refine J7 rfl rfl rfl ?_
         all_goals first | (refine Ja rfl rfl rfl (JQ (off' := WP a.p + (i * 2 + 0)) rfl rfl (by show WP a.p + i * 2 + 0 = _; omega)) ?_) | refine J7 rfl rfl rfl ?_
         all_goals first | refine Ja rfl rfl rfl (KN JW (k := 0) (v := J1 x.1) oR rfl hseg hx rfl rfl) ?_ | refine J7 rfl rfl rfl ?_
         all_goals first | refine Ja rfl rfl rfl (JA rfl rfl rfl) ?_ | refine J7 rfl rfl rfl ?_
         all_goals first | refine Ja rfl rfl rfl (Je rfl (kn 0 rfl) rfl rfl) ?_ | refine J7 rfl rfl rfl ?_
         all_goals first | refine Ja rfl rfl rfl (Jf rfl) ?_ | refine J7 rfl rfl rfl ?_
         all_goals first | (refine Ja rfl rfl rfl (J2 rfl rfl rfl) ?_; refine Q9 (by omega) (by omega) ?_) | refine J7 rfl rfl rfl ?_
         all_goals first | (obtain ⟨y, hy, hmy⟩ := Qs (show i - 1 < a.slots.length by omega); refine Ja rfl rfl rfl (Jk (j := (i - 1)) rfl hseg rfl rfl rfl (by first | rfl | omega) (by omega)) ?_) | refine J7 rfl rfl rfl ?_
         all_goals first | (refine Ja rfl rfl rfl (JQ (off' := WP a.p + ((i - 1) * 2 + 0)) rfl rfl (by show WP a.p + (i - 1) * 2 + 0 = _; omega)) ?_) | refine J7 rfl rfl rfl ?_
         all_goals first | refine Ja rfl rfl rfl (KN JW (k := 0) (v := J1 y.1) oR rfl hseg hy rfl rfl) ?_ | refine J7 rfl rfl rfl ?_
         all_goals first | (refine Ja rfl rfl rfl (xZ (a := x.1) (b := y.1) rfl rfl) ?_; refine KR (Xw (show Op.bytesLess y.1 x.1 = Op.bytesLess ((a.slots[i - 1]?.map Prod.fst).getD []) x.1 by rw [hy]; rfl)) ?_) | refine J7 rfl rfl rfl ?_
         all_goals first | refine Ja rfl rfl rfl (VO rfl rfl) ?_ | refine Ja rfl rfl rfl (VP rfl rfl) ?_ | refine J7 rfl rfl rfl ?_
         all_goals first | refine Ja rfl rfl rfl (VO rfl rfl) ?_ | refine Ja rfl rfl rfl (VP rfl rfl) ?_
         all_goals (
          refine Ja rfl rfl rfl (JC rfl) (JS (Jx 1 rfl (XN 1 rfl ?_))); refine JE 12 (by kernel_rfl) (by kernel_rfl) ?_; refine Ja rfl rfl rfl (Jf rfl) ?_; refine Ja rfl rfl rfl (Jf rfl) ?_
          refine X7 64 rfl (fun gb => ?_) (fun gb => ?_) <;> (try simp only [ZZ] at gb) <;> first | (refine Ja rfl rfl rfl (JA rfl rfl rfl) ?_) | (refine J7 rfl rfl rfl ?_)
          all_goals first | refine Ja rfl rfl rfl (Je rfl (kn 0 rfl) rfl rfl) ?_ | refine J7 rfl rfl rfl ?_
          all_goals first | refine Ja rfl rfl rfl (Jf rfl) ?_ | refine J7 rfl rfl rfl ?_
          all_goals first | (refine Ja rfl rfl rfl (Jk (j := i) rfl hseg rfl rfl rfl (by first | rfl | omega) (by omega)) ?_) | refine J7 rfl rfl rfl ?_
          all_goals first | (refine Ja rfl rfl rfl (JQ (off' := WP a.p + (i * 2 + 1)) rfl rfl (by show WP a.p + i * 2 + 1 = _; omega)) ?_) | refine J7 rfl rfl rfl ?_
          all_goals first | refine Ja rfl rfl rfl (KN JW (k := 1) (v := J1 x.2) oR rfl hseg hx rfl rfl) ?_ | refine J7 rfl rfl rfl ?_
          all_goals first | (refine Ky rfl rfl rfl Jom Ja6 ?_) | refine J7 rfl rfl rfl ?_
          all_goals first | (refine Ja rfl rfl rfl (WO (a := x.2) (b := Qc) rfl rfl) ?_; refine KR (Xw hnv.symm) ?_) | refine J7 rfl rfl rfl ?_
          all_goals first | refine Ja rfl rfl rfl (VO rfl rfl) ?_ | refine Ja rfl rfl rfl (VP rfl rfl) ?_
          all_goals (
           refine Ja rfl rfl rfl (JC rfl) (JS (Jx 1 rfl (gqo 5 rfl ?_))); refine Jc (by omega) (by omega) ?_; refine Jx 2 rfl ?_; refine Jv ?_; refine Jo (i + 1, _, _) (RackI.next hinv hx hxo ?_ ?_) (by simp only; omega) (lK rfl) (List.Sublist.refl _) (fun _ _ h => h)
           simp_all
           simp_all
           skip)
          skip)
         skip)
      skip)
   · refine JK 7 rfl ?_
     obtain rfl : i = a.slots.length := by have := hinv.le; omega
     have hE := Jq9 (p := p) (hrb ▸ hinv)
     refine Vw 3 [0] rfl rfl ?_; refine LR rfl (KK rfl rfl) ?_; refine JI 3 rfl ?_; refine cD (fun g => ?_) fun g => ?_
     refine Kh 7 rfl ?_; refine pT rfl rfl rfl fun w1 hs1 => ?_; refine ⟨?_, hs1.keep⟩; rw [hE, if_pos (by omega)]; rfl
     · refine JK 9 rfl ?_; refine cD (fun g => ?_) fun g => ?_
       refine Kh 7 rfl ?_; refine pT rfl rfl rfl fun w1 hs1 => ?_; refine ⟨?_, hs1.keep⟩; rw [hE, if_neg (by omega), if_pos (by assumption)]; rfl
       · refine Vw 7 [0] rfl rfl ?_; refine LR rfl (KK rfl rfl) ?_; refine LS 2 [] rfl rfl ?_
         refine J6 84 rfl (fun gb => ?_) (fun gb => ?_) <;> (try simp only [ZZ] at gb) <;> first | (refine LR rfl (JA rfl rfl rfl) ?_) | (refine LK rfl ?_)
         all_goals refine LW 1 [0] rfl rfl ?_
         all_goals first | refine LR rfl (Jz rfl hseg rfl) ?_ | refine LK rfl ?_
         all_goals (
          refine LW 2 [] rfl rfl (Jx 1 rfl (XN 1 rfl ?_)); refine J0 rfl (fun g => ?_) (fun g => ?_)
          try simp only [ZZ] at g
          refine Kh 7 rfl ?_; refine pT rfl rfl rfl fun w1 hs1 => ?_; refine ⟨?_, hs1.keep⟩; rw [hE, if_neg (by omega), if_neg (by simp_all), if_pos (by omega)]; rfl
          · try exact Bool.noConfusion g
            all_goals try simp only [ZZ] at g
            all_goals (
             refine JK 8 rfl ?_; refine cD (fun g => ?_) fun g => ?_
             refine Kh 7 rfl ?_; refine pT rfl rfl rfl fun w1 hs1 => ?_; refine ⟨?_, hs1.keep⟩; rw [hE, if_neg (by omega), if_neg (by simp_all), if_neg (by omega), if_pos (by assumption)]; rfl
             refine Kh 8 rfl ?_; refine pT rfl rfl rfl fun w1 hs1 => ?_; refine ⟨?_, hs1.keep⟩; rw [hE, if_neg (by omega), if_neg (by simp_all), if_neg (by omega), if_neg (by simp_all)]; rfl
             skip)
          skip)
   skip)
theorem Jlw {s : StL} {i : Nat} (hi : i ≤ s.accts.length) : ((i : Int) == 0) = (W1 s.er i).isNone := by
 cases i with
 | zero => rfl
 | succ j =>
  obtain ⟨a, ha, -⟩ := Qs (show j < s.accts.length by omega)
  rw [Jac ha rfl]; exact J1q (by omega)
theorem Zg {R : Jm} {s : StL} (hs : s.In R) : PureR Tryz.prog 33 [s.val].toArray (.int .i64 (KC s.er)) R := by
 have hl : s.accts.length ≤ 9223372036854775807 := hs.len
 have hseg := hs.seg
 obtain ⟨hc5, hcg⟩ := Jh1 s
 refine Jb Tryz.func33 rfl rfl fun w => ?_; refine JD ?_; refine Jq 2 rfl ?_; refine JR (cs := s.cells.toArray) rfl rfl rfl rfl fun rs => ?_; refine Xf 8 [0] rfl rfl ?_; refine LR rfl (Jz rfl hseg rfl) ?_; refine JI 3 rfl ?_; refine cD (fun g => ?_) fun g => ?_
 refine Kh 7 rfl ?_; refine pT rfl rfl rfl fun w1 hs1 => ?_; refine ⟨?_, hs1.keep⟩; rw [hc5 (by assumption)]; rfl
 ·refine JK 14 rfl ?_; refine Jy (σ := Nat) (fun i => i ≤ s.accts.length ∧ goS (W1 s.er i) (s.er.drop i) = goS none s.er) (fun i => [(1, Value.pointer (some ⟨rs, 0, none⟩)), (3, J1 ((W1 s.er i).getD [])), (4, .int .i64 (i : Int))]) (fun _ => [(rs, .cells s.cells.toArray 36 (0, 0))]) (fun _ _ _ => True) (fun i => s.accts.length - i) 0 ⟨Nat.zero_le _, rfl⟩ (lK rfl) (List.Sublist.refl _) (fun _ _ h => h) ?_; rintro i ⟨hi1, hinv⟩; refine Vw 6 [0] rfl rfl ?_; refine LR rfl (Jz rfl hseg rfl) ?_; refine JI 3 rfl ?_; refine cD (fun g => ?_) fun g => ?_
  refine JK 5 rfl ?_
  obtain ⟨a, ha, hma⟩ := Qs (show i < s.accts.length by omega)
  rw [Jhz (XR ha)] at hinv; refine Vw 4 [0] rfl rfl ?_
  refine LR rfl (Jk (j := i) rfl hseg rfl rfl rfl (by first | rfl | omega) (by omega)) ?_; refine LR rfl (JV AcL.len oR rfl hseg ha rfl rfl) ?_; refine LS 2 [] rfl rfl ?_; refine J3 (Xw (Jlw hi1)) ?_; refine Q1 rfl (Ji rfl rfl rfl (enters_of Tryz.func83 (by kernel_rfl) rfl) (Jvr (hs.accts a hma) (W1 s.er i)) oR (JI 10 rfl ?_)); refine cD (fun g => ?_) fun g => ?_
  refine Kh 13 rfl ?_; refine pT rfl rfl rfl fun w1 hs1 => ?_; refine ⟨?_, hs1.keep⟩; rw [hcg (by omega), ← hinv, if_pos (by simp_all)]; rfl
  refine Vw 6 [0] rfl rfl ?_
  refine LR rfl (Jk (j := i) rfl hseg rfl rfl rfl (by first | rfl | omega) (by omega)) ?_; refine LR rfl (JQ (off' := WP s.p + (i * 8 + 0)) rfl rfl (by show WP s.p + i * 8 + 0 = _; omega)) ?_; refine LR rfl (KN AcL.len (k := 0) (v := J1 a.addr) oR rfl hseg ha rfl rfl) ?_; refine JJ 7 rfl ?_; refine Jc (by omega) (by omega) ?_; refine Jx 2 rfl ?_; refine Jv ?_; exact Jo (i + 1) ⟨by omega, by rw [if_neg (by simp_all)] at hinv; exact hinv⟩ (by omega) (.cons rfl (.cons (by rw [Jac ha rfl]; rfl) (.cons rfl .nil))) (List.Sublist.refl _) (fun _ _ h => h)
  ·refine Kh 11 rfl ?_; refine pT rfl rfl rfl fun w1 hs1 => ?_; refine ⟨?_, hs1.keep⟩; rw [hcg (by omega), ← hinv, List.drop_of_length_le (by rw [s.er_len]; omega)]; rfl
theorem yg {s t : StL} : s.er = t.er ↔ s.accts.length = t.accts.length ∧ ∀ (i : Nat) a b, s.accts[i]? = some a → t.accts[i]? = some b → a.er = b.er := by
 constructor
 ·intro h
  refine ⟨by have := congrArg List.length h; rwa [s.er_len, t.er_len] at this, fun i a b ha hb => ?_⟩
  have h1 := XR ha
  have h2 := XR hb
  rw [h, h2] at h1; exact (Option.some.inj h1).symm
 ·rintro ⟨h1, h2⟩
  apply List.ext_getElem?
  intro i
  by_cases hi : i < s.accts.length
  ·obtain ⟨a, ha, _⟩ := Qs hi
   obtain ⟨b, hb, _⟩ := Qs (show i < t.accts.length by omega)
   rw [XR ha, XR hb, h2 i a b ha hb]
  ·rw [List.getElem?_eq_none (by rw [s.er_len]; omega), List.getElem?_eq_none (by rw [t.er_len]; omega)]
theorem Jvs {R : Jm} {s t : StL} (hs : s.In R) (ht : t.In R) : PureR Tryz.prog 13 [s.val, t.val].toArray (.bool (decide (s.er = t.er))) R := by
 have hl : s.accts.length ≤ 9223372036854775807 := hs.len
 have hl2 : t.accts.length ≤ 9223372036854775807 := ht.len
 have h1 := hs.seg
 have h2 := ht.seg
 refine Jb Tryz.func13 rfl rfl fun w => ?_; refine JD ?_; refine Jq 2 rfl ?_; refine JR (cs := s.cells.toArray) rfl rfl rfl rfl fun rs => ?_; refine JR (cs := t.cells.toArray) rfl rfl rfl rfl fun rt => ?_; refine Xf 8 [1] rfl rfl ?_; refine LR rfl (Jz rfl h1 rfl) ?_
 refine LS 2 [0] rfl rfl ?_; refine LR rfl (Jz rfl h2 rfl) ?_; refine JI 3 rfl ?_; refine cD (fun g => ?_) fun g => ?_
 refine Kh 7 rfl ?_; refine pT rfl rfl rfl fun w1 hs1 => ?_; refine ⟨?_, hs1.keep⟩; rw [decide_eq_false (show ¬ s.er = t.er from fun e => by have := (yg.1 e).1; omega)]; rfl
 ·refine JK 9 rfl ?_
  have hll : s.accts.length = t.accts.length := by omega
  refine Jy (σ := Nat) (fun i => i ≤ s.accts.length ∧ ∀ q, q < i → ∀ a b, s.accts[q]? = some a → t.accts[q]? = some b → a.er = b.er) (fun i => [(2, Value.pointer (some ⟨rs, 0, none⟩)), (3, Value.pointer (some ⟨rt, 0, none⟩)), (5, .int .i64 (i : Int))]) (fun _ => [(rt, .cells t.cells.toArray 36 (0, 0)), (rs, .cells s.cells.toArray 36 (0, 0))]) (fun _ _ _ => True) (fun i => s.accts.length - i) 0 ⟨by omega, fun j hj => absurd hj (by omega)⟩ (lK rfl) (List.Sublist.refl _) (fun _ _ h => h) ?_; rintro i ⟨hi1, hinv⟩; refine Vw 6 [1] rfl rfl ?_; refine LR rfl (Jz rfl h1 rfl) ?_; refine JI 3 rfl ?_; refine cD (fun g => ?_) fun g => ?_
  refine JK 5 rfl ?_
  obtain ⟨x, hx, hmx⟩ := Qs (show i < s.accts.length by omega)
  obtain ⟨y, hy, hmy⟩ := Qs (show i < t.accts.length by omega)
  refine JE 12 (by kernel_rfl) (by kernel_rfl) ?_
  refine Ja rfl rfl rfl (JA rfl rfl rfl) ?_; refine Ja rfl rfl rfl (Je rfl (kn 1 rfl) rfl rfl) ?_; refine Ja rfl rfl rfl (Jf rfl) ?_
  refine Ja rfl rfl rfl (Jk (j := i) rfl h1 rfl rfl rfl (by first | rfl | omega) (by omega)) ?_; refine Ja rfl rfl rfl (JV AcL.len oR rfl h1 hx rfl rfl) ?_
  refine Ja rfl rfl rfl (JA rfl rfl rfl) ?_; refine Ja rfl rfl rfl (Je rfl (kn 0 rfl) rfl rfl) ?_; refine Ja rfl rfl rfl (Jf rfl) ?_
  refine Ja rfl rfl rfl (Jk (j := i) rfl h2 rfl rfl rfl (by first | rfl | omega) (by omega)) ?_; refine Ja rfl rfl rfl (JV AcL.len oR rfl h2 hy rfl rfl) ?_; refine V3 rfl rfl rfl (enters_of Tryz.func26 (by kernel_rfl) rfl) (Jgk (hs.accts x hmx) (ht.accts y hmy)) oR ?_; refine Ja rfl rfl rfl (J2 rfl rfl rfl) ?_; refine JS ?_; refine JI 2 rfl ?_; refine cD (fun g => ?_) fun g => ?_
  refine Kh 11 rfl ?_; refine pT rfl rfl rfl fun w1 hs1 => ?_; refine ⟨?_, hs1.keep⟩; rw [decide_eq_false (show ¬ s.er = t.er from fun e => by have := (yg.1 e).2 i x y hx hy; simp_all)]; rfl
  refine Jq 6 rfl ?_; refine Jc (by omega) (by omega) ?_; refine Jx 2 rfl ?_; refine Jv ?_
  exact Jo (i + 1) ⟨by omega, fun q hq u v hu hv => by
   rcases Nat.lt_succ_iff_lt_or_eq.1 hq with hq | rfl
   exact hinv q hq u v hu hv
   rw [hx] at hu; rw [hy] at hv; cases hu; cases hv; simp_all⟩ (by omega) (lK rfl) (List.Sublist.refl _) (fun _ _ h => h)
  ·refine Kh 11 rfl ?_; refine pT rfl rfl rfl fun w1 hs1 => ?_; refine ⟨?_, hs1.keep⟩; rw [decide_eq_true (yg.2 ⟨hll, fun q a b ha hb => hinv q (by have := (List.getElem?_eq_some_iff.1 ha).1; omega) a b ha hb⟩)]; rfl
theorem chk_one (e : AcE) : KC [e] = VM e := by
 unfold KC goS
 rw [if_neg (by show ¬ 1 > 32; decide), qm]
 split
 ·rfl
 ·rename_i h
  rw [goS]; exact (Decidable.not_not.1 h).symm
structure OutI {α : Type} (f : α → List Value) (sz : Nat) (acc : List α) (n : Nat) (xs : List Value) (row : QD) : Prop where
  num : n = acc.length
  cells : xs = acc.flatMap f
  ok : rowOk sz n xs row
theorem OutI.nil {α : Type} {f : α → List Value} {sz : Nat} : OutI f sz [] 0 [] none := ⟨rfl, rfl, rfl, rfl⟩
theorem OutI.snoc {α : Type} {f : α → List Value} {sz n : Nat} {acc : List α} {xs : List Value} {row row' : QD} (h : OutI f sz acc n xs row) {x : α} (h' : rowOk sz (n + 1) (xs ++ f x) row') : OutI f sz (acc ++ [x]) (n + 1) (xs ++ f x) row' :=
 ⟨by rw [List.length_append, h.num]; rfl, by rw [List.flatMap_append, h.cells]; simp, h'⟩
theorem ZQ {α : Type} {kf : α → BS} {x y : α} {p : Bool} {ys : List α} : QP kf x p (y :: ys) = (if !p && !Op.bytesLess (kf y) (kf x) then [x] else []) ++ (if kf y = kf x then [] else [y]) ++ QP kf x (p || !Op.bytesLess (kf y) (kf x)) ys := rfl
theorem Y5 {α : Type} {kf : α → BS} {x : α} {res acc t : List α} {pt b : Bool} {ys : List α} (h : res = acc ++ ((if (!pt && !b) = true then [x] else []) ++ t ++ QP kf x (pt || !b) ys)) :
  (pt = false → b = false → res = (acc ++ [x]) ++ (t ++ QP kf x true ys)) ∧ (pt = true ∨ b = true → res = acc ++ (t ++ QP kf x pt ys)) := by
 rw [h]; refine ⟨fun h1 h2 => ?_, fun h1 => ?_⟩
 ·subst h1 h2; simp
 ·rcases h1 with h1 | h1 <;> subst h1 <;> simp
theorem Jvt {R : Jm} {l : List (BS × BS)} {p : Pl} (hl : l.length ≤ 1000) (hs : Seg R l.length (l.flatMap Qk) p) (x : BS × BS) :
    PureT (α := { row : QD // rowOk 2 (QP Prod.fst x (decide (x.2 = Qc)) l).length ((QP Prod.fst x (decide (x.2 = Qc)) l).flatMap Qk) row }) Tryz.prog 199 [KB l.length p, J1s x].toArray (fun y => J8 (QP Prod.fst x (decide (x.2 = Qc)) l).length y.1) [] (fun y => JH 97 ((QP Prod.fst x (decide (x.2 = Qc)) l).flatMap Qk) y.1) R := by
  obtain ⟨p0, hp0⟩ : ∃ b, b = decide (x.2 = Qc) := ⟨_, rfl⟩
  rw [← hp0]
  obtain ⟨res, hres⟩ : ∃ r, r = QP Prod.fst x p0 l := ⟨_, rfl⟩
  rw [← hres]; refine Jw Tryz.func199 rfl rfl fun w => ?_; refine JD ?_; refine Jq 2 rfl ?_; refine JR (cs := (Qk x).toArray) rfl rfl rfl rfl fun rx => ?_; refine JI 9 rfl ?_; refine JE 5 (by kernel_rfl) (by kernel_rfl) ?_
  refine Ja rfl rfl rfl (JA rfl rfl rfl) ?_; refine Ja rfl rfl rfl (Je rfl (kn 0 rfl) rfl rfl) ?_; refine Ky rfl rfl rfl Jom Ja6 ?_; refine Ja rfl rfl rfl (WO (a := x.2) (b := Qc) rfl rfl) ?_; refine KR (Xw hp0.symm) ?_; refine Ja rfl rfl rfl (JC rfl) ?_; refine JS ?_; refine JI 9 rfl ?_; refine Jy (σ := Nat × Bool × List (BS × BS) × Nat × List Value × QD) (fun q => q.1 ≤ l.length ∧ res = q.2.2.1 ++ QP Prod.fst x q.2.1 (l.drop q.1) ∧ OutI Qk 2 q.2.2.1 q.2.2.2.1 q.2.2.2.2.1 q.2.2.2.2.2 ∧ q.2.2.2.1 ≤ 2 * q.1) (fun q => [(0, KB l.length p), (3, Value.pointer (some ⟨rx, 0, none⟩)), (5, J8 q.2.2.2.1 q.2.2.2.2.2), (6, .bool q.2.1), (7, .int .i64 (q.1 : Int))]) (fun q => (rx, .cells (Qk x).toArray 97 (0, 0)) :: JH 97 q.2.2.2.2.1 q.2.2.2.2.2) (fun _ _ _ => True) (fun q => l.length - q.1) (0, p0, [], 0, [], none) ⟨Nat.zero_le _, hres, OutI.nil, Nat.zero_le _⟩ (lK rfl) (List.Sublist.refl _) (fun _ _ h => h) ?_; rintro ⟨i, pt, acc, n, xs, row⟩ ⟨hi1, hinv, ho, hn2⟩; simp only at hi1 hinv ho hn2; change HC _ _ [(0, _), (3, _), (5, J8 n row), (6, .bool pt), (7, .int .i64 (i : Int))] ((rx, _) :: JH _ xs row) _ _ _; refine Jq 5 rfl ?_; refine LR rfl (Jz rfl hs rfl) ?_; refine JI 3 rfl ?_; refine cD (fun g => ?_) fun g => ?_
  · refine JK 6 rfl ?_
    obtain ⟨y, hy, hmy⟩ := Qs (show i < l.length by omega)
    rw [WH hy, ZQ] at hinv
    have hno := ho.num
    refine JE 12 (by kernel_rfl) (by kernel_rfl) ?_; refine Ja rfl rfl rfl (Jf rfl) ?_; refine Ja rfl rfl rfl (J2 rfl rfl rfl) ?_; refine Ja rfl rfl rfl (Jf rfl) ?_
    refine X7 20 rfl (fun gb => ?_) (fun gb => ?_) <;> (try simp only [ZZ] at gb) <;> first | (refine Ja rfl rfl rfl (Jf rfl) ?_) | (refine J7 rfl rfl rfl ?_)
    all_goals first | refine Ja rfl rfl rfl (Jf rfl) ?_ | refine J7 rfl rfl rfl ?_
    all_goals first | (refine Ja rfl rfl rfl (Jk (j := i) rfl hs rfl rfl rfl (by first | rfl | omega) (by omega)) ?_) | refine J7 rfl rfl rfl ?_
    all_goals first | (refine Ja rfl rfl rfl (JQ (off' := WP p + (i * 2 + 0)) rfl rfl (by show WP p + i * 2 + 0 = _; omega)) ?_) | refine J7 rfl rfl rfl ?_
    all_goals first | refine Ja rfl rfl rfl (KN JW (k := 0) (v := J1 y.1) oR rfl hs hy rfl rfl) ?_ | refine J7 rfl rfl rfl ?_
    all_goals first | refine Ja rfl rfl rfl (JA rfl rfl rfl) ?_ | refine J7 rfl rfl rfl ?_
    all_goals first | refine Ja rfl rfl rfl (Je rfl (kn 0 rfl) rfl rfl) ?_ | refine J7 rfl rfl rfl ?_
    all_goals first | refine Ja rfl rfl rfl (vy (a := y.1) (b := x.1) rfl rfl) ?_ | refine J7 rfl rfl rfl ?_
    all_goals first | refine Ja rfl rfl rfl (VO rfl rfl) ?_ | refine Ja rfl rfl rfl (VP rfl rfl) ?_
    all_goals (
     refine JS (Jx 1 rfl (XN 1 rfl ?_)); refine J0 rfl (fun g => ?_) (fun g => ?_)
     · try exact Bool.noConfusion g
       all_goals try simp only [ZZ] at g
       all_goals (
        refine Jq 3 rfl ?_; refine LR rfl (Js (vs := Qk x) rfl (kn 0 rfl) rfl rfl rfl rfl) ?_; refine J4 (n := 1) (sz := 2) (vs := [_]) (zs := [_, _]) (r := Qk x) rfl rfl rfl rfl rfl rfl rfl rfl rfl (by rw [JO]; exact rfl) rfl fun rv => ?_; refine JM (L0 := [_, _]) (xs := xs) (row := row) (n := n) (sz := 2) (b := 32) (news := Qk x) (List.perm_append_comm (l₁ := [_, _])) rfl rfl rfl rfl (kn 0 rfl) rfl rfl rfl rfl rfl (by decide) rfl rfl rfl (by decide) ho.ok (by omega) (by omega) fun ra cap sp hra => ?_; refine JI 3 rfl ?_; refine QX [2, 0] (L' := [_, _]) (by decide) rfl ?_
        obtain ⟨pt2, hpt2⟩ : ∃ b, b = true := ⟨_, rfl⟩
        refine Jq 2 rfl ?_; refine J3 (congrArg Value.bool hpt2.symm) ?_; refine JI 3 rfl ?_
        (have ho1 := ho.snoc hra
         have hinv1 := (Y5 hinv).1 (by assumption) (by assumption)
         have hn1 : n + 1 ≤ 2 * i + 1 := by omega
         change HC _ _ ((6, .bool pt2) :: (5, J8 (n + 1) (some (ra, cap, sp))) :: _) ((rx, _) :: JH 97 (xs ++ Qk x) (some (ra, cap, sp))) _ _ _; clear hinv ho hno hra hn2
         generalize acc ++ [x] = acc at ho1 hinv1
         generalize n + 1 = n at ho1 hn1 ⊢
         generalize xs ++ Qk x = xs at ho1 ⊢
         generalize (some (ra, cap, sp) : QD) = row at ho1 ⊢
         rw [← hpt2] at hinv1; clear hpt2
         obtain ⟨pt, rfl⟩ : ∃ b, b = pt2 := ⟨pt2, rfl⟩)
        have ho := ho1
        have hno := ho.num
        refine JE 8 (by kernel_rfl) (by kernel_rfl) ?_; refine Ja rfl rfl rfl (Jf rfl) ?_; refine Ja rfl rfl rfl (Jf rfl) ?_
        refine Ja rfl rfl rfl (Jk (j := i) rfl hs rfl rfl rfl (by first | rfl | omega) (by omega)) ?_; refine Ja rfl rfl rfl (JQ (off' := WP p + (i * 2 + 0)) rfl rfl (by show WP p + i * 2 + 0 = _; omega)) ?_; refine Ja rfl rfl rfl (KN JW (k := 0) (v := J1 y.1) oR rfl hs hy rfl rfl) ?_
        refine Ja rfl rfl rfl (JA rfl rfl rfl) ?_; refine Ja rfl rfl rfl (Je rfl (kn 0 rfl) rfl rfl) ?_; refine Ja rfl rfl rfl (X8 (a := y.1) (b := x.1) rfl rfl) ?_; refine JS ?_; refine JI 2 rfl ?_; refine cD (fun g => ?_) fun g => ?_
        refine Jq 4 rfl ?_
        refine LR rfl (Jk (j := i) rfl hs rfl rfl rfl (by first | rfl | omega) (by omega)) ?_; refine LR rfl (JV JW oR rfl hs hy rfl rfl) ?_; refine J4 (n := 1) (sz := 2) (vs := [_]) (zs := [_, _]) (r := Qk y) rfl rfl rfl rfl rfl rfl rfl rfl rfl (by rw [JO]; exact rfl) rfl fun rv => ?_; refine JM (L0 := [_, _]) (xs := xs) (row := row) (n := n) (sz := 2) (b := 32) (news := Qk y) (List.perm_append_comm (l₁ := [_, _])) rfl rfl rfl rfl (kn 0 rfl) rfl rfl rfl rfl rfl (by decide) rfl rfl rfl (by decide) ho.ok (by omega) (by omega) fun ra cap sp hra => ?_; refine JJ 7 rfl ?_; refine Jc (by omega) (by omega) ?_; refine Jx 2 rfl ?_; refine Jv ?_
        (refine Qi [2, 0] (L' := [_, _]) (by decide) rfl ?_
         exact Jo (i + 1, pt, acc ++ [y], n + 1, xs ++ Qk y, some (ra, cap, sp)) ⟨by simp only; omega, by rw [hinv1, if_neg (by assumption)]; simp, ho.snoc hra, by simp only; omega⟩ (by simp only; omega) (lK rfl) (List.Sublist.refl _) (fun _ _ h => h))
        refine Jq 6 rfl ?_; refine Jc (by omega) (by omega) ?_; refine Jx 2 rfl ?_; refine Jv ?_; exact Jo (i + 1, pt, acc, n, xs, row) ⟨by simp only; omega, by rw [hinv1, if_pos (by assumption)]; simp, ho, by simp only; omega⟩ (by simp only; omega) (lK rfl) (List.Sublist.refl _) (fun _ _ h => h)
        skip)
     try simp only [ZZ] at g
     refine JK 3 rfl ?_
     (have ho1 := ho
      have hinv1 := (Y5 hinv).2 (by first | exact .inl (by assumption) | exact .inr (by assumption))
      have hn1 : n ≤ 2 * i + 1 := by omega
      clear hinv ho hno hn2)
     have ho := ho1
     have hno := ho.num
     refine JE 8 (by kernel_rfl) (by kernel_rfl) ?_; refine Ja rfl rfl rfl (Jf rfl) ?_; refine Ja rfl rfl rfl (Jf rfl) ?_
     refine Ja rfl rfl rfl (Jk (j := i) rfl hs rfl rfl rfl (by first | rfl | omega) (by omega)) ?_; refine Ja rfl rfl rfl (JQ (off' := WP p + (i * 2 + 0)) rfl rfl (by show WP p + i * 2 + 0 = _; omega)) ?_; refine Ja rfl rfl rfl (KN JW (k := 0) (v := J1 y.1) oR rfl hs hy rfl rfl) ?_
     refine Ja rfl rfl rfl (JA rfl rfl rfl) ?_; refine Ja rfl rfl rfl (Je rfl (kn 0 rfl) rfl rfl) ?_; refine Ja rfl rfl rfl (X8 (a := y.1) (b := x.1) rfl rfl) ?_; refine JS ?_; refine JI 2 rfl ?_; refine cD (fun g => ?_) fun g => ?_
     refine Jq 4 rfl ?_
     refine LR rfl (Jk (j := i) rfl hs rfl rfl rfl (by first | rfl | omega) (by omega)) ?_; refine LR rfl (JV JW oR rfl hs hy rfl rfl) ?_; refine J4 (n := 1) (sz := 2) (vs := [_]) (zs := [_, _]) (r := Qk y) rfl rfl rfl rfl rfl rfl rfl rfl rfl (by rw [JO]; exact rfl) rfl fun rv => ?_; refine JM (L0 := [_, _]) (xs := xs) (row := row) (n := n) (sz := 2) (b := 32) (news := Qk y) (List.perm_append_comm (l₁ := [_, _])) rfl rfl rfl rfl (kn 0 rfl) rfl rfl rfl rfl rfl (by decide) rfl rfl rfl (by decide) ho.ok (by omega) (by omega) fun ra cap sp hra => ?_; refine JJ 7 rfl ?_; refine Jc (by omega) (by omega) ?_; refine Jx 2 rfl ?_; refine Jv ?_
     (refine Qi [2, 0] (L' := [_, _]) (by decide) rfl ?_
      exact Jo (i + 1, pt, acc ++ [y], n + 1, xs ++ Qk y, some (ra, cap, sp)) ⟨by simp only; omega, by rw [hinv1, if_neg (by assumption)]; simp, ho.snoc hra, by simp only; omega⟩ (by simp only; omega) (lK rfl) (List.Sublist.refl _) (fun _ _ h => h))
     refine Jq 6 rfl ?_; refine Jc (by omega) (by omega) ?_; refine Jx 2 rfl ?_; refine Jv ?_; exact Jo (i + 1, pt, acc, n, xs, row) ⟨by simp only; omega, by rw [hinv1, if_pos (by assumption)]; simp, ho, by simp only; omega⟩ (by simp only; omega) (lK rfl) (List.Sublist.refl _) (fun _ _ h => h)
     skip)
  · refine JK 7 rfl ?_
    obtain rfl : i = l.length := by omega
    rw [List.drop_length, QP] at hinv
    have hno := ho.num
    refine JK 5 rfl ?_; refine cD (fun g => ?_) fun g => ?_
    refine Jq 2 rfl ?_; refine LR rfl (Js (vs := Qk x) rfl (kn 0 rfl) rfl rfl rfl rfl) ?_; refine J4 (n := 1) (sz := 2) (vs := [_]) (zs := [_, _]) (r := Qk x) rfl rfl rfl rfl rfl rfl rfl rfl rfl (by rw [JO]; exact rfl) rfl fun rv => ?_; refine JM (L0 := [_, _]) (xs := xs) (row := row) (n := n) (sz := 2) (b := 32) (news := Qk x) (List.perm_append_comm (l₁ := [_, _])) rfl rfl rfl rfl (kn 0 rfl) rfl rfl rfl rfl rfl (by decide) rfl rfl rfl (by decide) ho.ok (by omega) (by omega) fun ra cap sp hra => ?_; refine Jx 10 rfl ?_; refine pT rfl rfl rfl fun w1 hs1 => ?_
    (have hr : res = acc ++ [x] := by rw [hinv]; simp_all
     have ho1 := ho.snoc hra
     rw [← hr] at ho1
     obtain ⟨e1, e2, e3⟩ := ho1
     rw [← e1, ← e2]
     exact ⟨⟨some (ra, cap, sp), e3⟩, rfl, hs1.weakL (.cons_cons _ (List.nil_sublist _))⟩)
    · refine Kh 9 rfl ?_; refine pT rfl rfl rfl fun w1 hs1 => ?_
      (have hr : res = acc := by rw [hinv]; simp_all
       rw [← hr] at ho
       obtain ⟨e1, e2, e3⟩ := ho
       rw [← e1, ← e2]
       exact ⟨⟨row, e3⟩, rfl, hs1.weakL (.cons _ (List.Sublist.refl _))⟩)
theorem qz {α : Type} {kf : α → BS} {x z : α} : ∀ {p : Bool} {l : List α}, z ∈ QP kf x p l → z = x ∨ z ∈ l
 | p, [], h => by
  rw [QP] at h
  split at h
  ·cases h
  ·exact .inl (List.mem_singleton.1 h)
 | p, y :: ys, h => by
  rw [ZQ] at h
  rcases List.mem_append.1 h with h | h
  ·rcases List.mem_append.1 h with h | h
   ·split at h
    ·exact .inl (List.mem_singleton.1 h)
    ·cases h
   ·split at h
    ·cases h
    ·rw [List.mem_singleton.1 h]; exact .inr List.mem_cons_self
  ·exact (qz h).imp id (List.mem_cons_of_mem _)
theorem one_seg {a : AcL} {r : Nat} : Seg [(r, .cells a.cells.toArray 48 (0, 0))] [a].length ([a].flatMap AcL.cells) (some (⟨r, 0, none⟩, 1)) := by
 have h := Km (row := some (r, 1, [])) (sz := 8) (n := 1) (e := 48) (cs := a.cells) ⟨rfl, rfl⟩ (by decide)
 simpa [JH, Qo] using h
theorem Ja7 {R : Jm} {a : AcL} (ha : a.In R) (r : Nat) : StL.In ((r, .cells a.cells.toArray 48 (0, 0)) :: R) ⟨[a], some (⟨r, 0, none⟩, 1)⟩ :=
 ⟨by show 1 ≤ _; decide, one_seg.mono fun q hq => by rw [List.mem_singleton.1 hq]; exact List.mem_cons_self, fun x hx => by rw [List.mem_singleton.1 hx]; exact ha.mono fun q hq => List.mem_cons_of_mem _ hq⟩
set_option maxHeartbeats 1000000 in
theorem Jra {R : Jm} {s : StL} {a : AcL} (hs : s.In R) (ha : a.In R) : PureT (α := StRes R (YO s.er a.er)) Tryz.prog 87 [s.val, a.val].toArray (fun x => x.val) [] (fun x => x.L) R := by
  have hl := hs.len
  have hseg := hs.seg
  have hc := Zg hs
  have hput : YO s.er a.er = if KC s.er ≠ 0 then (s.er, KC s.er) else if VM a.er ≠ 0 then (s.er, VM a.er) else if (KQ AcE.addr a.er s.er).length > 32 then (s.er, 5) else (KQ AcE.addr a.er s.er, 0) := rfl
  obtain ⟨res, hres⟩ : ∃ r, r = QP AcL.addr a false s.accts := ⟨_, rfl⟩
  have hset : KC s.er = 0 → (KQ AcE.addr a.er s.er) = res.map AcL.er ∧ s.accts.length ≤ 32 ∧ (KQ AcE.addr a.er s.er).length = s.accts.length + (if VW s a.addr then 0 else 1) := fun h => by
    have h' := Xl.1 h
    have h2 : Ks AcL.addr s.accts := (zq s).2 h'.2.2
    refine ⟨?_, by rw [← s.er_len]; exact h'.1, ?_⟩
    rw [hres, ql h2, Jad]; rfl
    rw [xT h'.2.2, s.er_len, Job]
    by_cases hf : (KP s.er a.addr).isSome = true
    rw [if_pos hf, if_pos (show (V5 AcE.addr a.er.addr s.er).isSome = true from hf)]; rfl
    rw [if_neg hf, if_neg (show ¬ (V5 AcE.addr a.er.addr s.er).isSome = true from hf)]
  refine Jw Tryz.func87 rfl rfl fun w => ?_; refine JD ?_; refine Jq 2 rfl ?_; refine JR (cs := s.cells.toArray) rfl rfl rfl rfl fun rs => ?_; refine JR (cs := a.cells.toArray) rfl rfl rfl rfl fun ra => ?_; refine LN rfl fun r1 => ?_; refine JJ 5 rfl ?_; refine LR rfl (Jd (xs := s.cells) (n := 1) rfl (kn 2 rfl) rfl rfl rfl) ?_; refine Ji rfl rfl rfl Jok hc oR ?_; refine JI 10 rfl ?_; refine cD (fun g => ?_) fun g => ?_
  refine Jq 2 rfl ?_; refine LR rfl (Jd (xs := s.cells) (n := 1) rfl (kn 2 rfl) rfl rfl rfl) ?_; refine Q1 rfl (Jh (k := 0) (n := 1) (ys := s.cells) rfl rfl rfl rfl rfl rfl rfl rfl rfl (Jx 5 rfl ?_)); refine Jg rfl rfl (.cons (Jr (vs := [_]) rfl (kn 0 rfl) rfl rfl) (.cons (Jj rfl) .nil)) (fun w1 hs1 => ?_); rw [hput, if_pos (by omega)]; exact ⟨⟨s, KC s.er, [], hs, rfl⟩, rfl, hs1.weakL (List.nil_sublist _)⟩
  · refine Jq 4 rfl ?_; refine LR rfl (Jd (xs := a.cells) (n := 8) rfl (kn 1 rfl) rfl rfl rfl) ?_; refine J4 (n := 1) (sz := 8) (vs := [_]) (zs := [_, _, _, _, _, _, _, _]) (r := a.cells) rfl rfl rfl rfl rfl rfl rfl rfl rfl (by rw [JO]; exact rfl) rfl fun rv => ?_; refine LR rfl (Jt (r := [_]) rfl rfl) ?_; refine Ji (v := .int .i64 (KC (StL.er ⟨[a], some (⟨rv, 0, none⟩, 1)⟩))) rfl rfl rfl Jok (Zg (Ja7 ha rv)) (fun q hq => (List.mem_cons.1 hq).imp (fun h => by rw [h]; exact List.mem_cons_self) id) ?_; refine J3 (congrArg (Value.int .i64) (chk_one a.er)) ?_; refine JI 10 rfl ?_; refine cD (fun g => ?_) fun g => ?_
    refine Jq 2 rfl ?_; refine LR rfl (Jd (xs := s.cells) (n := 1) rfl (kn 3 rfl) rfl rfl rfl) ?_; refine Q1 rfl (Jh (k := 1) (n := 1) (ys := s.cells) rfl rfl rfl rfl rfl rfl rfl rfl rfl (Jx 5 rfl ?_)); refine Jg rfl rfl (.cons (Jr (vs := [_]) rfl (kn 1 rfl) rfl rfl) (.cons (Jj rfl) .nil)) (fun w1 hs1 => ?_); rw [hput, if_neg (by omega), if_pos (by omega)]; exact ⟨⟨s, VM a.er, [], hs, rfl⟩, rfl, hs1.weakL (List.nil_sublist _)⟩
    · refine JK 3 rfl ?_
      have hok := hset (by omega)
      refine Jq 1 rfl ?_; refine LR rfl (Jd (xs := s.cells) (n := 1) rfl (kn 3 rfl) rfl rfl rfl) ?_
      refine LS 2 [2] rfl rfl ?_; refine Ji rfl rfl rfl (enters_of Tryz.func38 (by kernel_rfl) rfl) (Jjq hs a.addr) oR ?_; refine LS 3 [] rfl rfl ?_; refine LN rfl fun r2 => ?_; refine Jh (k := 0) (n := 8) (ys := ((Qy s a.addr)).cells) rfl rfl rfl rfl rfl rfl rfl rfl rfl ?_; refine JJ 9 rfl ?_
      refine J6 36 rfl (fun gb => ?_) (fun gb => ?_) <;> (try simp only [ZZ] at gb) <;> first | (refine LR rfl (JA rfl rfl rfl) ?_) | (refine LK rfl ?_)
      all_goals first | refine LR rfl (Je (v := KB s.accts.length s.p) rfl (kn 4 rfl) rfl rfl) ?_ | refine LK rfl ?_
      all_goals first | refine LR rfl (Jz rfl hseg rfl) ?_ | refine LK rfl ?_
      all_goals (
       refine LW 2 [] rfl rfl (Jx 1 rfl (XN 1 rfl ?_)); refine J0 rfl (fun g => ?_) (fun g => ?_)
       · try exact Bool.noConfusion g
         all_goals try simp only [ZZ] at g
         all_goals (
          refine Jq 2 rfl ?_; refine LR rfl (Jd (xs := s.cells) (n := 1) rfl (kn 4 rfl) rfl rfl rfl) ?_; refine Jh (k := 2) (n := 1) (ys := s.cells) rfl rfl rfl rfl rfl rfl rfl rfl rfl ?_; refine Jx 5 rfl ?_; refine Jg rfl rfl (.cons (Jr (vs := [_]) rfl (kn 2 rfl) rfl rfl) (.cons (Jj rfl) .nil)) (fun w1 hs1 => ?_); rw [hput, if_neg (by omega), if_neg (by omega), if_pos (by rw [hok.2.2, if_neg (by simp_all)]; omega)]; exact ⟨⟨s, 5, [], hs, rfl⟩, rfl, hs1.weakL (List.nil_sublist _)⟩
          skip)
       · try simp only [ZZ] at g
         refine JK 3 rfl ?_
         have hroom : (KQ AcE.addr a.er s.er).length ≤ 32 := by
           rw [hok.2.2]
           have := hok.2.1
           first
           | (rw [if_pos (by assumption)]; omega)
           | (rw [if_neg (by simp_all)]; omega)
         refine Jq 1 rfl ?_; refine LR rfl (Jt (r := [_]) rfl rfl) ?_; refine LN rfl fun r3 => ?_
         refine LT 0 rfl rfl ?_; refine JI 14 rfl ?_; refine QX [0, 5, 4, 3] (L' := [_, _, _, _]) (by decide) rfl ?_; refine Jy (σ := Nat × Bool × List AcL × Nat × List Value × QD) (fun q => q.1 ≤ s.accts.length ∧ res = q.2.2.1 ++ QP AcL.addr a q.2.1 (s.accts.drop q.1) ∧ OutI AcL.cells 8 q.2.2.1 q.2.2.2.1 q.2.2.2.2.1 q.2.2.2.2.2 ∧ q.2.2.2.1 ≤ 2 * q.1) (fun q => [(2, Value.pointer (some ⟨rs, 0, none⟩)), (3, Value.pointer (some ⟨ra, 0, none⟩)), (4, Value.pointer (some ⟨r1, 0, none⟩)), (5, .int .i64 0), (10, Value.pointer (some ⟨r3, 0, none⟩)), (11, .bool q.2.1), (12, .int .i64 (q.1 : Int))]) (fun q => (r3, .cells #[J8 q.2.2.2.1 q.2.2.2.2.2] 36 (0, 0)) :: (rs, .cells s.cells.toArray 36 (0, 0)) :: (ra, .cells a.cells.toArray 48 (0, 0)) :: (r1, .cells st0L.cells.toArray 36 (0, 0)) :: JH 48 q.2.2.2.2.1 q.2.2.2.2.2) (fun _ _ _ => True) (fun q => s.accts.length - q.1) (0, false, [], 0, [], none) ⟨Nat.zero_le _, hres, OutI.nil, Nat.zero_le _⟩ (lK rfl) (List.Sublist.refl _) (fun _ _ h => h) ?_; rintro ⟨i, pt, acc, n, xs, row⟩ ⟨hi1, hinv, ho, hn2⟩; simp only at hi1 hinv ho hn2; change HC _ _ [(2, _), (3, _), (4, _), (5, _), (10, _), (11, .bool pt), (12, .int .i64 (i : Int))] ((r3, .cells #[J8 n row] _ _) :: (rs, _) :: (ra, _) :: (r1, _) :: JH _ xs row) _ _ _; refine Jq 5 rfl ?_; refine LR rfl (Je (v := KB s.accts.length s.p) rfl (kn 1 rfl) rfl rfl) ?_; refine LR rfl (Jz rfl hseg rfl) ?_; refine JI 3 rfl ?_; refine cD (fun g => ?_) fun g => ?_
         · refine JK 6 rfl ?_
           obtain ⟨y, hy, hmy⟩ := Qs (show i < s.accts.length by omega)
           rw [WH hy, ZQ] at hinv
           have hno := ho.num
           refine JE 13 (by kernel_rfl) (by kernel_rfl) ?_; refine Ja rfl rfl rfl (Jf rfl) ?_; refine Ja rfl rfl rfl (J2 rfl rfl rfl) ?_; refine Ja rfl rfl rfl (Jf rfl) ?_
           refine X7 53 rfl (fun gb => ?_) (fun gb => ?_) <;> (try simp only [ZZ] at gb) <;> first | (refine Ja rfl rfl rfl (JA rfl rfl rfl) ?_) | (refine J7 rfl rfl rfl ?_)
           all_goals first | refine Ja rfl rfl rfl (Je (v := KB s.accts.length s.p) rfl (kn 1 rfl) rfl rfl) ?_ | refine J7 rfl rfl rfl ?_
           all_goals first | refine Ja rfl rfl rfl (Jf rfl) ?_ | refine J7 rfl rfl rfl ?_
           all_goals first | (refine Ja rfl rfl rfl (Jk (j := i) rfl hseg rfl rfl rfl (by first | rfl | omega) (by omega)) ?_) | refine J7 rfl rfl rfl ?_
           all_goals first | (refine Ja rfl rfl rfl (JQ (off' := WP s.p + (i * 8 + 0)) rfl rfl (by show WP s.p + i * 8 + 0 = _; omega)) ?_) | refine J7 rfl rfl rfl ?_
           all_goals first | refine Ja rfl rfl rfl (KN AcL.len (k := 0) (v := J1 y.addr) oR rfl hseg hy rfl rfl) ?_ | refine J7 rfl rfl rfl ?_
           all_goals first | refine Ja rfl rfl rfl (JA rfl rfl rfl) ?_ | refine J7 rfl rfl rfl ?_
           all_goals first | refine Ja rfl rfl rfl (Je rfl (kn 2 rfl) rfl rfl) ?_ | refine J7 rfl rfl rfl ?_
           all_goals first | refine Ja rfl rfl rfl (vy (a := y.addr) (b := a.addr) rfl rfl) ?_ | refine J7 rfl rfl rfl ?_
           all_goals first | refine Ja rfl rfl rfl (VO rfl rfl) ?_ | refine Ja rfl rfl rfl (VP rfl rfl) ?_
           all_goals (
            refine JS (Jx 1 rfl (XN 1 rfl ?_)); refine J0 rfl (fun g => ?_) (fun g => ?_)
            · try exact Bool.noConfusion g
              all_goals try simp only [ZZ] at g
              all_goals (
               refine Vw 4 [0] rfl rfl ?_; refine LR rfl (Jd (xs := a.cells) (n := 8) rfl (kn 2 rfl) rfl rfl rfl) ?_; refine J4 (n := 1) (sz := 8) (vs := [_]) (zs := [_, _, _, _, _, _, _, _]) (r := a.cells) rfl rfl rfl rfl rfl rfl rfl rfl rfl (by rw [JO]; exact rfl) rfl fun rv => ?_; refine JM (L0 := [_, _, _, _, _]) (xs := xs) (row := row) (n := n) (sz := 8) (b := 96) (news := a.cells) (List.perm_append_comm (l₁ := [_, _, _, _, _])) rfl rfl rfl rfl (kn 0 rfl) rfl rfl rfl rfl rfl (by decide) rfl rfl rfl (by decide) ho.ok (by omega) (by omega) fun rap cap sp hra => ?_
               refine LS 1 [] rfl rfl ?_; refine Kn (k := 2) (cs' := #[J8 (n + 1) (some (rap, cap, sp))]) rfl rfl rfl rfl rfl rfl rfl rfl rfl rfl ?_; refine JI 2 rfl ?_; refine QX [2, 3, 4, 5, 0] (L' := [_, _, _, _, _]) (by decide) rfl ?_
               obtain ⟨pt2, hpt2⟩ : ∃ b, b = true := ⟨_, rfl⟩
               refine Jq 2 rfl ?_; refine J3 (congrArg Value.bool hpt2.symm) ?_; refine JI 3 rfl ?_
               (have ho1 := ho.snoc hra
                have hinv1 := (Y5 hinv).1 (by assumption) (by assumption)
                have hn1 : n + 1 ≤ 2 * i + 1 := by omega
                change HC _ _ ((11, .bool pt2) :: _) ((r3, .cells #[J8 (n + 1) (some (rap, cap, sp))] _ _) :: (rs, _) :: (ra, _) :: (r1, _) :: JH 48 (xs ++ a.cells) (some (rap, cap, sp))) _ _ _; clear hinv ho hno hra hn2
                generalize acc ++ [a] = acc at ho1 hinv1
                generalize n + 1 = n at ho1 hn1 ⊢
                generalize xs ++ a.cells = xs at ho1 ⊢
                generalize (some (rap, cap, sp) : QD) = row at ho1 ⊢
                rw [← hpt2] at hinv1; clear hpt2
                obtain ⟨pt, rfl⟩ : ∃ b, b = pt2 := ⟨pt2, rfl⟩)
               have ho := ho1
               have hno := ho.num
               refine JE 9 (by kernel_rfl) (by kernel_rfl) ?_
               refine Ja rfl rfl rfl (JA rfl rfl rfl) ?_; refine Ja rfl rfl rfl (Je (v := KB s.accts.length s.p) rfl (kn 1 rfl) rfl rfl) ?_; refine Ja rfl rfl rfl (Jf rfl) ?_
               refine Ja rfl rfl rfl (Jk (j := i) rfl hseg rfl rfl rfl (by first | rfl | omega) (by omega)) ?_; refine Ja rfl rfl rfl (JQ (off' := WP s.p + (i * 8 + 0)) rfl rfl (by show WP s.p + i * 8 + 0 = _; omega)) ?_; refine Ja rfl rfl rfl (KN AcL.len (k := 0) (v := J1 y.addr) oR rfl hseg hy rfl rfl) ?_
               refine Ja rfl rfl rfl (JA rfl rfl rfl) ?_; refine Ja rfl rfl rfl (Je rfl (kn 2 rfl) rfl rfl) ?_; refine Ja rfl rfl rfl (X8 (a := y.addr) (b := a.addr) rfl rfl) ?_; refine JS ?_; refine JI 2 rfl ?_; refine cD (fun g => ?_) fun g => ?_
               refine jo [(r3, .cells #[J8 n row] 36 (0, 0))] [(0, .pure), (1, .pure), (2, .pure), (4, .pure), (5, .pure), (7, .act (yY (slV 1) (.cells y.cells.toArray 48 (0, 0))))] 8 (by kernel_rfl) (by kernel_rfl) (fun p hp => List.mem_singleton.1 hp ▸ List.mem_cons_self) ?_
               refine YC rfl rfl rfl rfl (fun _ hS => (JA rfl rfl rfl)) ?_; refine YC rfl rfl rfl rfl (fun _ hS => (Je rfl (.inl (hS _ (Ju (n := 0) rfl))) rfl rfl)) ?_
               refine YC rfl rfl rfl rfl (fun _ hS => (JA rfl rfl rfl)) ?_; refine Js1 rfl rfl rfl rfl (Je (v := KB s.accts.length s.p) rfl (kn 1 rfl) rfl rfl) ?_; refine YC rfl rfl rfl rfl (fun _ hS => (Jf rfl)) ?_
               refine YC rfl rfl rfl rfl (fun _ hS => (Jk (j := i) rfl hseg rfl rfl rfl (by first | rfl | omega) (by omega))) ?_; refine Js1 rfl rfl rfl rfl (JV AcL.len oR rfl hseg hy rfl rfl) ?_; refine Wl (n := 1) (sz := 8) (vs := [_]) (zs := [_, _, _, _, _, _, _, _]) (r := y.cells) rfl rfl rfl rfl rfl rfl rfl rfl rfl rfl (by rw [JO]; exact rfl) rfl (fun p hp => List.mem_singleton.1 hp ▸ List.mem_cons_self) fun rv => ?_; refine xA ?_; refine JM (L0 := [_, _, _, _, _]) (xs := xs) (row := row) (n := n) (sz := 8) (b := 96) (news := y.cells) (List.perm_append_comm (l₁ := [_, _, _, _, _])) rfl rfl rfl rfl (kn 0 rfl) rfl rfl rfl rfl rfl (by decide) rfl rfl rfl (by decide) ho.ok (by omega) (by omega) fun rap cap sp hra => ?_
               refine LS 1 [] rfl rfl ?_; refine Kn (k := 2) (cs' := #[J8 (n + 1) (some (rap, cap, sp))]) rfl rfl rfl rfl rfl rfl rfl rfl rfl rfl ?_; refine JJ 6 rfl ?_; refine Jc (by omega) (by omega) ?_; refine Jx 2 rfl ?_; refine Jv ?_
               (refine Qi [2, 3, 4, 5, 0] (L' := [_, _, _, _, _]) (by decide) rfl ?_
                exact Jo (i + 1, pt, acc ++ [y], n + 1, xs ++ y.cells, some (rap, cap, sp)) ⟨by simp only; omega, by rw [hinv1, if_neg (by assumption)]; simp, ho.snoc hra, by simp only; omega⟩ (by simp only; omega) (lK rfl) (List.Sublist.refl _) (fun _ _ h => h))
               refine Jq 6 rfl ?_; refine Jc (by omega) (by omega) ?_; refine Jx 2 rfl ?_; refine Jv ?_; exact Jo (i + 1, pt, acc, n, xs, row) ⟨by simp only; omega, by rw [hinv1, if_pos (by assumption)]; simp, ho, by simp only; omega⟩ (by simp only; omega) (lK rfl) (List.Sublist.refl _) (fun _ _ h => h)
               skip)
            try simp only [ZZ] at g
            refine JK 3 rfl ?_
            (have ho1 := ho
             have hinv1 := (Y5 hinv).2 (by first | exact .inl (by assumption) | exact .inr (by assumption))
             have hn1 : n ≤ 2 * i + 1 := by omega
             clear hinv ho hno hn2)
            have ho := ho1
            have hno := ho.num
            refine JE 9 (by kernel_rfl) (by kernel_rfl) ?_
            refine Ja rfl rfl rfl (JA rfl rfl rfl) ?_; refine Ja rfl rfl rfl (Je (v := KB s.accts.length s.p) rfl (kn 1 rfl) rfl rfl) ?_; refine Ja rfl rfl rfl (Jf rfl) ?_
            refine Ja rfl rfl rfl (Jk (j := i) rfl hseg rfl rfl rfl (by first | rfl | omega) (by omega)) ?_; refine Ja rfl rfl rfl (JQ (off' := WP s.p + (i * 8 + 0)) rfl rfl (by show WP s.p + i * 8 + 0 = _; omega)) ?_; refine Ja rfl rfl rfl (KN AcL.len (k := 0) (v := J1 y.addr) oR rfl hseg hy rfl rfl) ?_
            refine Ja rfl rfl rfl (JA rfl rfl rfl) ?_; refine Ja rfl rfl rfl (Je rfl (kn 2 rfl) rfl rfl) ?_; refine Ja rfl rfl rfl (X8 (a := y.addr) (b := a.addr) rfl rfl) ?_; refine JS ?_; refine JI 2 rfl ?_; refine cD (fun g => ?_) fun g => ?_
            refine jo [(r3, .cells #[J8 n row] 36 (0, 0))] [(0, .pure), (1, .pure), (2, .pure), (4, .pure), (5, .pure), (7, .act (yY (slV 1) (.cells y.cells.toArray 48 (0, 0))))] 8 (by kernel_rfl) (by kernel_rfl) (fun p hp => List.mem_singleton.1 hp ▸ List.mem_cons_self) ?_
            refine YC rfl rfl rfl rfl (fun _ hS => (JA rfl rfl rfl)) ?_; refine YC rfl rfl rfl rfl (fun _ hS => (Je rfl (.inl (hS _ (Ju (n := 0) rfl))) rfl rfl)) ?_
            refine YC rfl rfl rfl rfl (fun _ hS => (JA rfl rfl rfl)) ?_; refine Js1 rfl rfl rfl rfl (Je (v := KB s.accts.length s.p) rfl (kn 1 rfl) rfl rfl) ?_; refine YC rfl rfl rfl rfl (fun _ hS => (Jf rfl)) ?_
            refine YC rfl rfl rfl rfl (fun _ hS => (Jk (j := i) rfl hseg rfl rfl rfl (by first | rfl | omega) (by omega))) ?_; refine Js1 rfl rfl rfl rfl (JV AcL.len oR rfl hseg hy rfl rfl) ?_; refine Wl (n := 1) (sz := 8) (vs := [_]) (zs := [_, _, _, _, _, _, _, _]) (r := y.cells) rfl rfl rfl rfl rfl rfl rfl rfl rfl rfl (by rw [JO]; exact rfl) rfl (fun p hp => List.mem_singleton.1 hp ▸ List.mem_cons_self) fun rv => ?_; refine xA ?_; refine JM (L0 := [_, _, _, _, _]) (xs := xs) (row := row) (n := n) (sz := 8) (b := 96) (news := y.cells) (List.perm_append_comm (l₁ := [_, _, _, _, _])) rfl rfl rfl rfl (kn 0 rfl) rfl rfl rfl rfl rfl (by decide) rfl rfl rfl (by decide) ho.ok (by omega) (by omega) fun rap cap sp hra => ?_
            refine LS 1 [] rfl rfl ?_; refine Kn (k := 2) (cs' := #[J8 (n + 1) (some (rap, cap, sp))]) rfl rfl rfl rfl rfl rfl rfl rfl rfl rfl ?_; refine JJ 6 rfl ?_; refine Jc (by omega) (by omega) ?_; refine Jx 2 rfl ?_; refine Jv ?_
            (refine Qi [2, 3, 4, 5, 0] (L' := [_, _, _, _, _]) (by decide) rfl ?_
             exact Jo (i + 1, pt, acc ++ [y], n + 1, xs ++ y.cells, some (rap, cap, sp)) ⟨by simp only; omega, by rw [hinv1, if_neg (by assumption)]; simp, ho.snoc hra, by simp only; omega⟩ (by simp only; omega) (lK rfl) (List.Sublist.refl _) (fun _ _ h => h))
            refine Jq 6 rfl ?_; refine Jc (by omega) (by omega) ?_; refine Jx 2 rfl ?_; refine Jv ?_; exact Jo (i + 1, pt, acc, n, xs, row) ⟨by simp only; omega, by rw [hinv1, if_pos (by assumption)]; simp, ho, by simp only; omega⟩ (by simp only; omega) (lK rfl) (List.Sublist.refl _) (fun _ _ h => h)
            skip)
         refine JK 7 rfl ?_
         obtain rfl : i = s.accts.length := by omega
         rw [List.drop_length, QP] at hinv
         have hno := ho.num
         refine JK 5 rfl ?_; refine cD (fun g => ?_) fun g => ?_
         refine Vw 3 [0] rfl rfl ?_; refine LR rfl (Jd (xs := a.cells) (n := 8) rfl (kn 2 rfl) rfl rfl rfl) ?_; refine J4 (n := 1) (sz := 8) (vs := [_]) (zs := [_, _, _, _, _, _, _, _]) (r := a.cells) rfl rfl rfl rfl rfl rfl rfl rfl rfl (by rw [JO]; exact rfl) rfl fun rv => ?_; refine JM (L0 := [_, _, _, _, _]) (xs := xs) (row := row) (n := n) (sz := 8) (b := 96) (news := a.cells) (List.perm_append_comm (l₁ := [_, _, _, _, _])) rfl rfl rfl rfl (kn 0 rfl) rfl rfl rfl rfl rfl (by decide) rfl rfl rfl (by decide) ho.ok (by omega) (by omega) fun rap cap sp hra => ?_
         refine LS 1 [] rfl rfl ?_; refine Kn (k := 2) (cs' := #[J8 (n + 1) (some (rap, cap, sp))]) rfl rfl rfl rfl rfl rfl rfl rfl rfl rfl ?_; refine JI 3 rfl ?_
         (refine QX [2, 3, 4, 5, 0] (L' := [_, _, _, _, _]) (by decide) rfl ?_
          have hr : res = acc ++ [a] := by rw [hinv]; simp_all
          have ho1 := ho.snoc hra
          change HC _ _ _ ((r3, .cells #[J8 (n + 1) (some (rap, cap, sp))] _ _) :: (rs, _) :: (ra, _) :: (r1, _) :: JH 48 (xs ++ a.cells) (some (rap, cap, sp))) _ _ _; rw [← hr] at ho1; clear hinv ho hno hra hn2
          generalize n + 1 = n at ho1 ⊢
          generalize xs ++ a.cells = xs at ho1 ⊢
          generalize (some (rap, cap, sp) : QD) = row at ho1 ⊢)
         refine Jq 1 rfl ?_; refine LR rfl (Js (vs := [J8 n row]) rfl (kn 0 rfl) rfl rfl rfl rfl) ?_; refine Qm (k := 3) (n := 1) (cs' := #[J8 n row]) (vs := #[_]) rfl rfl rfl rfl rfl rfl (by show (Q3 (J8 _ _) && true) = true; rw [VX]; rfl) (by exact Nat.le_of_ble_eq_true rfl) rfl rfl ?_; refine Jx 4 rfl ?_; refine Jg rfl rfl (.cons (Jr (vs := [_]) rfl (kn 3 rfl) rfl rfl) (.cons (Jj rfl) .nil)) (fun w1 hs1 => ?_)
         (rw [hput, if_neg (by omega), if_neg (by omega), if_neg (by omega), hok.1]
          obtain ⟨e1, e2, e3⟩ := ho1
          subst e1 e2
          exact ⟨⟨⟨res, Qo row⟩, 0, JH 48 (res.flatMap AcL.cells) row, ⟨by show res.length ≤ 9223372036854775807; have := congrArg List.length hok.1; rw [List.length_map] at this; omega, (Km e3 (by decide)).mono fun q hq => List.mem_append_left _ hq, fun z hz => ((qz (hres ▸ hz)).elim (fun e => by rw [e]; exact ha) (hs.accts z)).mono fun q hq => List.mem_append_right _ hq⟩, rfl⟩, by show Ending.returned _ = Ending.returned (Value.tuple #[Value.agg #[KB res.length (Qo row)], .int .i64 0]); rw [QZ _ _ e3.zero]; rfl, hs1.weakL (List.sublist_append_right [_, _, _, _] _)⟩)
         refine JK 3 rfl ?_
         (have hr : res = acc := by rw [hinv]; simp_all
          have ho1 := ho
          rw [← hr] at ho1
          clear hinv ho hno hn2)
         refine Jq 1 rfl ?_; refine LR rfl (Js (vs := [J8 n row]) rfl (kn 0 rfl) rfl rfl rfl rfl) ?_; refine Qm (k := 3) (n := 1) (cs' := #[J8 n row]) (vs := #[_]) rfl rfl rfl rfl rfl rfl (by show (Q3 (J8 _ _) && true) = true; rw [VX]; rfl) (by exact Nat.le_of_ble_eq_true rfl) rfl rfl ?_; refine Jx 4 rfl ?_; refine Jg rfl rfl (.cons (Jr (vs := [_]) rfl (kn 3 rfl) rfl rfl) (.cons (Jj rfl) .nil)) (fun w1 hs1 => ?_)
         (rw [hput, if_neg (by omega), if_neg (by omega), if_neg (by omega), hok.1]
          obtain ⟨e1, e2, e3⟩ := ho1
          subst e1 e2
          exact ⟨⟨⟨res, Qo row⟩, 0, JH 48 (res.flatMap AcL.cells) row, ⟨by show res.length ≤ 9223372036854775807; have := congrArg List.length hok.1; rw [List.length_map] at this; omega, (Km e3 (by decide)).mono fun q hq => List.mem_append_left _ hq, fun z hz => ((qz (hres ▸ hz)).elim (fun e => by rw [e]; exact ha) (hs.accts z)).mono fun q hq => List.mem_append_right _ hq⟩, rfl⟩, by show Ending.returned _ = Ending.returned (Value.tuple #[Value.agg #[KB res.length (Qo row)], .int .i64 0]); rw [QZ _ _ e3.zero]; rfl, hs1.weakL (List.sublist_append_right [_, _, _, _] _)⟩)
       skip)
theorem Jgl {l : List (BS × BS)} (h : Ks Prod.fst l) (k v : BS) : QP Prod.fst (k, v) (decide (v = Qc)) l = Ko l k v := by
 unfold Ko
 by_cases e : v = Qc
 ·rw [if_pos e, decide_eq_true e, Yt]
 ·rw [if_neg e, decide_eq_false e, ql h]
theorem Jrb {R : Jm} {a : AcL} (ha : a.In R) (k v : BS) : PureT (α := AcRes R (Vz a.er k v)) Tryz.prog 136 [a.val, J1 k, J1 v].toArray (fun x => x.val) [] (fun x => x.L) R := by
  have hl := ha.len
  have hseg := ha.seg
  have hset : Vz a.er k v = if VM a.er ≠ 0 then (a.er, VM a.er) else if k.length ≠ 32 ∨ v.length ≠ 32 then (a.er, 2) else if (Ko a.slots k v).length > 16 then (a.er, 5) else (⟨a.addr, a.nonce, a.bal, a.code, Ko a.slots k v⟩, 0) := rfl
  refine Jw Tryz.func136 rfl rfl fun w => ?_; refine JD ?_; refine Jq 2 rfl ?_; refine JR (cs := a.cells.toArray) rfl rfl rfl rfl fun ra => ?_; refine LN rfl fun r1 => ?_; refine JJ 5 rfl ?_; refine LR rfl (Jd (xs := a.cells) (n := 8) rfl (kn 1 rfl) rfl rfl rfl) ?_; refine J4 (n := 1) (sz := 8) (vs := [_]) (zs := [_, _, _, _, _, _, _, _]) (r := a.cells) rfl rfl rfl rfl rfl rfl rfl rfl rfl (by rw [JO]; exact rfl) rfl fun rv => ?_; refine LR rfl (Jt (r := [_]) rfl rfl) ?_; refine Ji (v := .int .i64 (KC (StL.er ⟨[a], some (⟨rv, 0, none⟩, 1)⟩))) rfl rfl rfl Jok (Zg (Ja7 ha rv)) (fun q hq => (List.mem_cons.1 hq).imp (fun h => by rw [h]; exact List.mem_cons_self) id) ?_; refine J3 (congrArg (Value.int .i64) (chk_one a.er)) ?_; refine JI 10 rfl ?_; refine cD (fun g => ?_) fun g => ?_
  refine Jq 2 rfl ?_; refine LR rfl (Jd (xs := a.cells) (n := 8) rfl (kn 2 rfl) rfl rfl rfl) ?_; refine Q1 rfl (Jh (k := 1) (n := 8) (ys := (a).cells) rfl rfl rfl rfl rfl rfl rfl rfl rfl (Jx 5 rfl ?_)); refine Jg rfl rfl (.cons (Jr (vs := [_, _, _, _, _, _, _, _]) rfl (kn 1 rfl) rfl rfl) (.cons (Jj rfl) .nil)) (fun w1 hs1 => ?_); rw [hset, if_pos (by omega)]; exact ⟨⟨a, VM a.er, [], ha, rfl⟩, rfl, hs1.weakL (List.nil_sublist _)⟩
  · refine Jq 6 rfl ?_; refine LR rfl (KK rfl rfl) ?_; refine LS 2 [] rfl rfl ?_
    refine J6 21 rfl (fun gb => ?_) (fun gb => ?_) <;> (try simp only [ZZ] at gb) <;> first | (refine Q1 rfl ?_) | (refine LK rfl ?_)
    all_goals first | refine LR rfl (KK rfl rfl) ?_ | refine LK rfl ?_
    all_goals (
     refine LW 2 [] rfl rfl (Jx 1 rfl (XN 1 rfl ?_)); refine J0 rfl (fun g => ?_) (fun g => ?_)
     try simp only [ZZ] at g
     refine Jq 2 rfl ?_; refine LR rfl (Jd (xs := a.cells) (n := 8) rfl (kn 2 rfl) rfl rfl rfl) ?_; refine Jh (k := 1) (n := 8) (ys := (a).cells) rfl rfl rfl rfl rfl rfl rfl rfl rfl ?_; refine Jx 5 rfl ?_; refine Jg rfl rfl (.cons (Jr (vs := [_, _, _, _, _, _, _, _]) rfl (kn 1 rfl) rfl rfl) (.cons (Jj rfl) .nil)) (fun w1 hs1 => ?_); rw [hset, if_neg (by omega), if_pos (by omega)]; exact ⟨⟨a, 2, [], ha, rfl⟩, rfl, hs1.weakL (List.nil_sublist _)⟩
     · try exact Bool.noConfusion g
       all_goals try simp only [ZZ] at g
       all_goals (
        refine JK 3 rfl ?_
        have hok : Ks Prod.fst a.slots ∧ a.slots.length ≤ 16 := ⟨(QH (a := a.er) (by omega)).2.2.1, (QH (a := a.er) (by omega)).2.2.2.2⟩
        refine Vw 5 [2] rfl rfl ?_; refine LR rfl (Jt (r := [_, _]) rfl rfl) ?_; refine Ke rfl rfl rfl (enters_of Tryz.func199 (by kernel_rfl) rfl) (Jvt (by have := hok.2; omega) hseg (k, v)) oR fun x => ?_
        obtain ⟨row, hrow⟩ := x
        refine Kk List.perm_append_comm ?_; change HL _ _ ((32, J8 (QP Prod.fst (k, v) (decide (v = Qc)) a.slots).length row) :: _) ((rv, _) :: (r1, _) :: (ra, _) :: JH _ _ row) _ _ _ _
        have hrow : rowOk 2 (QP Prod.fst (k, v) (decide (v = Qc)) a.slots).length ((QP Prod.fst (k, v) (decide (v = Qc)) a.slots).flatMap Qk) row := hrow
        rw [Jgl hok.1 k v] at hrow ⊢; refine JJ 7 rfl ?_; refine LR rfl (Wt rfl hrow.zero rfl) ?_; refine JI 3 rfl ?_; refine cD (fun g => ?_) fun g => ?_
        refine Jq 2 rfl ?_; refine LR rfl (Jd (xs := a.cells) (n := 8) rfl (kn 2 rfl) rfl rfl rfl) ?_; refine Jh (k := 1) (n := 8) (ys := (a).cells) rfl rfl rfl rfl rfl rfl rfl rfl rfl ?_; refine Jx 5 rfl ?_; refine Jg rfl rfl (.cons (Jr (vs := [_, _, _, _, _, _, _, _]) rfl (kn 1 rfl) rfl rfl) (.cons (Jj rfl) .nil)) (fun w1 hs1 => ?_); rw [hset, if_neg (by omega), if_neg (by omega), if_pos (by omega)]; exact ⟨⟨a, 5, [], ha, rfl⟩, rfl, hs1.weakL (List.nil_sublist _)⟩
        refine Jq 6 rfl ?_; refine Kn (k := 2) (cs' := #[J1 a.addr, uV a.nonce, uV a.bal.a, uV a.bal.b, uV a.bal.c, uV a.bal.d, J1 a.code, J8 (Ko a.slots k v).length row]) rfl rfl rfl rfl rfl (VX _ _) rfl rfl rfl rfl ?_; refine JJ 4 rfl ?_; refine LR rfl (Js (vs := [J1 a.addr, uV a.nonce, uV a.bal.a, uV a.bal.b, uV a.bal.c, uV a.bal.d, J1 a.code, J8 (Ko a.slots k v).length row]) rfl (kn 2 rfl) rfl rfl rfl rfl) ?_; refine Qm (k := 1) (n := 8) (cs' := #[J1 a.addr, uV a.nonce, uV a.bal.a, uV a.bal.b, uV a.bal.c, uV a.bal.d, J1 a.code, J8 (Ko a.slots k v).length row]) (vs := #[_, _, _, _, _, _, _, _]) rfl rfl rfl rfl rfl rfl (by show (Q3 (J8 _ _) && true) = true; rw [VX]; rfl) (by exact Nat.le_of_ble_eq_true rfl) rfl rfl ?_; refine Jx 4 rfl ?_; refine Jg rfl rfl (.cons (Jr (vs := [_, _, _, _, _, _, _, _]) rfl (kn 1 rfl) rfl rfl) (.cons (Jj rfl) .nil)) (fun w1 hs1 => ?_)
        (rw [hset, if_neg (by omega), if_neg (by omega), if_neg (by omega)]
         exact ⟨⟨⟨a.addr, a.nonce, a.bal, a.code, Ko a.slots k v, Qo row⟩, 0, JH 97 ((Ko a.slots k v).flatMap Qk) row, Yy ha (by omega) (by omega) (by omega) (Km hrow (by decide)), rfl⟩, by show Ending.returned _ = Ending.returned (Value.tuple #[Value.agg #[J1 a.addr, uV a.nonce, uV a.bal.a, uV a.bal.b, uV a.bal.c, uV a.bal.d, J1 a.code, KB (Ko a.slots k v).length (Qo row)], .int .i64 0]); rw [QZ _ _ hrow.zero]; rfl, hs1.weakL (List.sublist_append_right [_, _, _] _)⟩)
        skip)
     skip)
open Go.Proofs (Enters enters_of)
theorem jO {k n : Int} {p : Pl} {x : Ty} {l : List Vl} (hk : (k = 3 ∧ (l.length : Int) = n) ∨ (k = 4 ∧ (l.length : Int) ≤ n)) (h : ∀ v ∈ l, KL v x = 0) : KL (KY l 0) (.mk k n p [x]) = 0 := by
 have hL : ∀ (l : List Vl) (i : Nat), (∀ v ∈ l, KL v x = 0) → QN l k 0 [x] i = 0 := by
  intro l
  induction l with
  | nil => intro i _; rw [QN]
  | cons v l ih =>
   intro i h
   have e : JX k 0 [x] i = x := by unfold JX XC; rcases hk with ⟨rfl, _⟩ | ⟨rfl, _⟩ <;> rfl
   rw [QN, e, if_pos (h v (by simp)), ih _ (fun w hw => h w (by simp [hw]))]
 unfold KY
 rw [qt ?_ ?_, hL l 0 h]
 ·rcases hk with ⟨rfl, h1⟩ | ⟨rfl, h1⟩ <;> simp <;> omega
 ·rw [V0 k n _ 0 0 0 0 [] none l none 0 _ rfl]
  rcases hk with ⟨rfl, h1⟩ | ⟨rfl, h1⟩ <;> simp [Vk, h1]
theorem yh {a b c d : Nat} {n : Int} {p : Pl} (h : ((WC [a, b, c, d]).length : Int) ≤ n) : KL (.mk a b c d [] none [] none 0) (.mk 1 n p []) = 0 := by
 rw [qt (by simp) (by rw [V0 1 n _ a b c d [] none [] none 0 _ rfl]; simp [Vk, h]), QN]
theorem Jyx : ∀ i : Fin 256, (WC [i.val, 0, 0, 0]).length ≤ 1 := by decide +kernel
theorem Jrc (b : UInt8) : KL (ZW b) byT = 0 := yh (by have := Jyx ⟨b.toNat, YL b⟩; simp only at this; omega)
theorem Ja8 {s : BS} {n : Int} (h : (s.length : Int) = n) : KL (yN s) (X6 3 n) = 0 := jO (.inl ⟨rfl, by rw [List.length_map]; exact h⟩) fun v hv => by obtain ⟨b, _, rfl⟩ := List.mem_map.1 hv; exact Jrc b
theorem Jvu {s : BS} {n : Int} (h : (s.length : Int) ≤ n) : KL (yN s) (X6 4 n) = 0 := jO (.inr ⟨rfl, by rw [List.length_map]; exact h⟩) fun v hv => by obtain ⟨b, _, rfl⟩ := List.mem_map.1 hv; exact Jrc b
theorem Jvv {x : BS × BS} (h1 : x.1.length = 32) (h2 : x.2.length = 32) : KL (wW x) Jaw = 0 := by
 unfold wW Jaw KY
 rw [qt (by simp) (by rw [V0 7 0 _ 0 0 0 0 [] none _ none 0 _ rfl]; simp [Vk]), QN, show JX 7 0 [X6 3 32, X6 3 32] 0 = X6 3 32 from rfl, if_pos (Ja8 (by omega)), QN, show JX 7 0 [X6 3 32, X6 3 32] (0 + 1) = X6 3 32 from rfl, if_pos (Ja8 (by omega)), QN]
theorem Jvw {n : Nat} (h : VV n) : (WC [n, 0, 0, 0]).length ≤ 8 := by
 have h1 := Jla (l := [n, 0, 0, 0]) (Jx7 h)
 rw [Jo9] at h1; exact of_decide_eq_true h1.symm
theorem Jyy {a : AcE} (h : VM a = 0) (hn : VV a.nonce) : KL (acV a) acT = 0 := by
 obtain ⟨h1, h2, _, h4, h5⟩ := QH h
 obtain ⟨I, hI⟩ : ∃ I, I = [X6 3 20, .mk 1 8 none [], .mk 1 32 none [], X6 4 512, .mk 4 16 none [Jaw]] := ⟨_, rfl⟩
 have e0 : JX 7 0 I 0 = X6 3 20 := by rw [hI]; rfl
 have e1 : JX 7 0 I (0 + 1) = .mk 1 8 none [] := by rw [hI]; rfl
 have e2 : JX 7 0 I (0 + 1 + 1) = .mk 1 32 none [] := by rw [hI]; rfl
 have e3 : JX 7 0 I (0 + 1 + 1 + 1) = X6 4 512 := by rw [hI]; rfl
 have e4 : JX 7 0 I (0 + 1 + 1 + 1 + 1) = .mk 4 16 none [Jaw] := by rw [hI]; rfl
 have hl : I.length = 5 := by rw [hI]; rfl
 have hsl : KL (Vl.mk 0 0 0 0 [] none (a.slots.map wW) none 0) (.mk 4 16 none [Jaw]) = 0 := jO (.inr ⟨rfl, by rw [List.length_map]; omega⟩) fun v hv => by
  obtain ⟨x, hx, rfl⟩ := List.mem_map.1 hv
  exact Jvv (h2 x hx).1 (h2 x hx).2.1
 unfold acV acT KY
 rw [← hI, qt (by simp) (by rw [hl, V0 7 0 _ 0 0 0 0 [] none _ none 0 _ rfl]; simp [Vk]), QN, e0, if_pos (Ja8 (by omega)), QN, e1, if_pos (yh (by have := Jvw hn; omega)), QN, e2, if_pos (yh (by have := Jga [a.bal.a, a.bal.b, a.bal.c, a.bal.d]; omega)),
  QN, e3, if_pos (Jvu (by omega)), QN, e4, if_pos hsl, QN]
theorem Ja9 {l : List AcE} (h : KC l = 0) (hn : ∀ a ∈ l, VV a.nonce) : V8 qv (Zf l) = 0 := by
 obtain ⟨h1, h2, _⟩ := Xl.1 h
 unfold V8
 rw [if_pos Jjc]
 exact jO (.inr ⟨rfl, by rw [List.length_map]; omega⟩) fun v hv => by
  obtain ⟨a, ha, rfl⟩ := List.mem_map.1 hv
  exact Jyy (h2 a ha) (hn a ha)
theorem Jjr {s : StL} (h : KC s.er = 0) : s.accts.length ≤ 100000 ∧ ∀ a ∈ s.accts, Ac1 a := by
 obtain ⟨h1, h2, _⟩ := Xl.1 h
 rw [s.er_len] at h1; refine ⟨by omega, fun a ha => ?_⟩
 obtain ⟨g1, g2, _, g4, g5⟩ := QH (h2 a.er (List.mem_map.2 ⟨a, ha, rfl⟩))
 change a.addr.length = 20 at g1; change a.code.length ≤ 512 at g4; change a.slots.length ≤ 16 at g5; exact ⟨by omega, by omega, by omega, fun x hx => by obtain ⟨e1, e2, _⟩ := g2 x hx; omega⟩
theorem Jyz {R : Jm} {s : StL} (hs : s.In R) (h : KC s.er = 0) : V8 qv (Zf s.er) = 0 := Ja9 h fun a ha => by
 obtain ⟨b, hb, rfl⟩ := List.mem_map.1 ha
 exact (hs.accts b hb).nonce
theorem Jeo : ∀ l : List Vl, (∀ x ∈ l, Nonempty (VR x)) → ∃ (ys : List Vl) (L : Jm), ys.map ZF = l ∧ ∀ y ∈ ys, y.In L
 | [], _ => ⟨[], [], rfl, fun y hy => nomatch hy⟩
 | x :: l, h => by
  obtain ⟨ys, L, h1, h2⟩ := Jeo l fun y hy => h y (List.mem_cons_of_mem _ hy)
  obtain ⟨v⟩ := h x List.mem_cons_self
  refine ⟨v.x :: ys, v.L ++ L, by rw [List.map_cons, v.er, h1], fun y hy => ?_⟩
  rcases List.mem_cons.1 hy with rfl | hy
  ·exact v.ok.mono fun q hq => List.mem_append_left _ hq
  ·exact (h2 y hy).mono fun q hq => List.mem_append_right _ hq
theorem Zw {l : List Vl} (h : ∀ x ∈ l, Nonempty (VR x)) (hl : l.length ≤ 100000) : Nonempty (VR (KY l 0)) := by
 obtain ⟨ys, L, h1, h2⟩ := Jeo l h
 have hy : ys.length = l.length := by rw [← h1, List.length_map]
 exact ⟨⟨.mk 0 0 0 0 [] none ys (some (⟨0, 0, none⟩, ys.length)) 0, (0, .cells (QE ys).toArray 0 (0, 0)) :: L, .mk u0 u0 u0 u0 (by decide) rfl (by omega) ⟨Nat.le_refl _, fun _ => ⟨rfl, _, 0, (0, 0), List.mem_cons_self, by rw [List.drop_zero, List.toList_toArray, List.take_length]⟩⟩ i0 fun x hx => (h2 x hx).mono fun q hq => List.mem_cons_of_mem _ hq, by rw [WF, WT, h1]; rfl⟩⟩
theorem Jjs {a b c d : Nat} (ha : VV a) (hb : VV b) (hc : VV c) (hd : VV d) : Nonempty (VR (.mk a b c d [] none [] none 0)) :=
 ⟨⟨.mk a b c d [] none [] none 0, [], .mk ha hb hc hd (by decide) rfl (by decide) rfl i0 (fun x hx => nomatch hx), by rw [WF, vJ]⟩⟩
theorem Jba {s : BS} (hl : s.length ≤ 100000) : Nonempty (VR (yN s)) := ⟨Jp7 hl⟩
theorem Jy0 {a : AcL} (h : Ac1 a) (hn : VV a.nonce) (hb : a.bal.ok) : Nonempty (VR (acV a.er)) := by
 obtain ⟨h1, h2, h3, h4⟩ := h
 refine Zw (fun x hx => ?_) (by show 5 ≤ 100000; decide); simp only [List.mem_cons, List.not_mem_nil, or_false] at hx
 rcases hx with rfl | rfl | rfl | rfl | rfl
 ·exact Jba h1
 ·exact Jjs hn u0 u0 u0
 ·exact Jjs hb.a hb.b hb.c hb.d
 ·exact Jba h2
 ·refine Zw (fun x hx => ?_) (by rw [List.length_map]; exact h3)
  obtain ⟨⟨k, v⟩, hy, rfl⟩ := List.mem_map.1 hx
  refine Zw (fun x hx => ?_) (by show 2 ≤ 100000; decide); simp only [List.mem_cons, List.not_mem_nil, or_false] at hx
  rcases hx with rfl | rfl
  ·exact Jba (h4 _ hy).1
  ·exact Jba (h4 _ hy).2
theorem Jy1 {R : Jm} {s : StL} (hs : s.In R) (h : KC s.er = 0) : Nonempty (VR (Zf s.er)) := by
 obtain ⟨hn, hb⟩ := Jjr h
 refine Zw (fun x hx => ?_) (by rw [List.length_map, s.er_len]; exact hn)
 obtain ⟨a, ha, rfl⟩ := List.mem_map.1 hx
 obtain ⟨b, hb2, rfl⟩ := List.mem_map.1 ha
 exact Jy0 (hb b hb2) (hs.accts b hb2).nonce (hs.accts b hb2).bal
def J0y : TR qv := ⟨Jpv 0 0 0 0 0 0 0 0, [(0, Jll 0), (0, .cells #[.int .i64 3, .int .i64 32, .slice (some ⟨0, 0, none⟩) 1 1, .int .i64 3, .int .i64 32, .slice (some ⟨0, 0, none⟩) 1 1] 0 (0, 0)), (0, .cells #[.int .i64 7, .int .i64 0, .slice (some ⟨0, 0, none⟩) 2 2] 0 (0, 0)),
 (0, .cells #[.int .i64 3, .int .i64 20, .slice (some ⟨0, 0, none⟩) 1 1, .int .i64 1, .int .i64 8, .slice none 0 0, .int .i64 1, .int .i64 32, .slice none 0 0, .int .i64 4, .int .i64 512, .slice (some ⟨0, 0, none⟩) 1 1, .int .i64 4, .int .i64 16, .slice (some ⟨0, 0, none⟩) 1 1] 0 (0, 0)),
 (0, .cells #[.int .i64 7, .int .i64 0, .slice (some ⟨0, 0, none⟩) 5 5] 0 (0, 0))], Ji2 (e := 0) (by simp) (by simp) (by simp) (by simp) (by simp) (by simp) (by simp) (by simp), Ji3 ..⟩
theorem Jrd (t : Ty) (v : Vl) : Yk t (ZF v) = Yk t v := by unfold Yk V8; rw [Jyj, Juy]
theorem Jre {T : Ty} {V : Vl} (t : TR T) (v : VR V) : Yk t.x v.x = Yk T V := by obtain ⟨x, L, ok, rfl⟩ := t; obtain ⟨y, M, ok2, rfl⟩ := v; rw [Jlq, Jrd]
theorem Jep {l : List AcE} (h : KC l = 0) (hf : V8 qv (Zf l) = 0) : QB l = (KT (Zf l) qv, 0) := by
 unfold QB Yk
 rw [if_neg (by omega), if_neg (by omega)]
theorem yi {R : Jm} {s : StL} (hs : s.In R) (hw : KC s.er = 0 → YF (Zf s.er) ≤ 20000) : PureR Tryz.prog 20 [s.val].toArray (ZB (QB s.er)) R := by
 have hC := Zv hs
 have hac := Jjr (s := s)
 have hlay := Jy1 hs
 have hfit := Jyz hs
 have hb0 : KC s.er ≠ 0 → QB s.er = ([], KC s.er) := fun h => by unfold QB; rw [if_pos h]
 have hb1 : KC s.er = 0 → QB s.er = Yk qv (Zf s.er) := fun h => by unfold QB; rw [if_neg (by omega)]
 obtain ⟨accts, p⟩ := s
 generalize hz0 : KC (StL.er ⟨accts, p⟩) = z at *
 refine Jb Tryz.func20 rfl rfl fun w => ?_; refine JD ?_; refine Jq 2 rfl ?_; refine LN rfl fun r1 => ?_; refine JJ 7 rfl ?_; refine LR rfl (Js (vs := [_]) rfl (kn 0 rfl) rfl rfl rfl rfl) ?_; refine Ji rfl rfl rfl Jtx hC oR ?_; refine JI 9 rfl ?_; refine cD (fun g => ?_) fun g => ?_
 refine Kh 9 rfl ?_; refine Jg rfl rfl (.cons (Jj rfl) (.cons (Jj rfl) .nil)) (fun w1 hs1 => ?_); refine ⟨?_, hs1.keep⟩; rw [hb0 (by assumption)]; rfl
 ·refine JK 3 rfl ?_
  have hz : z = 0 := by assumption
  obtain ⟨hn, hb⟩ := hac hz
  obtain ⟨v0⟩ := hlay hz
  have hww := hw hz
  refine JT [(r1, .cells #[KB accts.length p] 36 (0, 0))] [(0, .grow (Qe J0y (fun y => y.x.val) (fun y => y.L))), (1, .pure), (2, .pure), (3, .grow (Qe v0 (fun y => y.x.val) (fun y => y.L))), (5, .pure), (6, .pure)] 7 [1, 2, 0, 3, 4, 5, 6] (by kernel_rfl) (by kernel_rfl) (by first | exact (fun _ h => absurd h List.not_mem_nil) | simp [SubS] | (intro p hp; simp [hp])) ?_
  refine Jp (k := 1) rfl rfl rfl rfl rfl (fun _ hS => (JA rfl rfl rfl)) ?_; refine Jp (k := 2) rfl rfl rfl rfl rfl (fun _ hS => (Je rfl (.inl (hS _ (Ju (n := 0) rfl))) rfl rfl)) ?_; refine KO (k := 0) rfl rfl rfl rfl rfl (enters_of Tryz.func46 (by kernel_rfl) rfl) Juz oN fun t => ?_; refine KO (k := 3) rfl rfl rfl rfl rfl (enters_of Tryz.func47 (by kernel_rfl) rfl) (Ju6 hs hn hb) oR fun v => ?_
  refine Qa (k := 4) (Rl := v.L ++ t.L) rfl rfl rfl rfl rfl (enters_of Tryz.func45 (by kernel_rfl) rfl) (Ju1 (t.ok.mono fun q hq => List.mem_append_right _ hq) (v.ok.mono fun q hq => List.mem_append_left _ hq) (by rw [← J0n v.x, v.er]; exact hww)) (fun q hq => .inl (by rcases List.mem_append.1 hq with h | h <;> simp [h])) ?_; refine Ww (congrArg ZB (Jre t v)) ?_; refine Jp (k := 5) rfl rfl rfl rfl rfl (fun _ hS => (JY rfl rfl)) ?_; refine Jp (k := 6) rfl rfl rfl rfl rfl (fun _ hS => (JY rfl rfl)) ?_; refine Kx ?_; refine Jx 5 rfl ?_; refine Jg rfl rfl (.cons (Jj rfl) (.cons (Jj rfl) .nil)) (fun w1 hs1 => ?_); refine ⟨?_, hs1.keep⟩; rw [hb1 hz]; rfl
end Go.Proofs.YtfaagelglpgpkaaGreatDoor
