import Derived.Test.YtfaagelglpgpkaaGreatDoorZtSealedd
import Derived.Test.YtfaagelglpgpkaaGreatDoorProg
set_option maxRecDepth 100000
namespace Go.Proofs.YtfaagelglpgpkaaGreatDoor
set_option linter.all false
open Go.SL Go.RowKit Go.Shelf
theorem Jox {R : Ji} {xs : List (BS × BS)} {p : Pl} (hl : xs.length ≤ 1000) (hs : Seg R xs.length (xs.flatMap Q3) p) :
  PureT (α := { row : QJ // rowOk 2 xs.length (xs.flatMap Q3) row }) Tryz.prog 325 [KG xs.length p].toArray (fun x => JC xs.length x.1) [] (fun x => JL 97 (xs.flatMap Q3) x.1) R := by
 cases p with
 | none =>
  have h0 : xs = [] := List.length_eq_zero_iff.1 hs
  subst h0; refine Ju Tryz.func325 rfl rfl fun w => ?_; refine J9 ?_; refine JP 12 rfl ?_; refine cD (fun g => ?_) fun g => ?_
  refine Kn 7 rfl ?_; refine pT rfl rfl rfl fun w1 hs1 => ?_; exact ⟨⟨none, rfl, rfl⟩, rfl, hs1⟩
  try exact Bool.noConfusion g
 | some q =>
  refine Ju Tryz.func325 rfl rfl fun w => ?_; refine J9 ?_; refine JP 12 rfl ?_; refine J0 rfl (fun g => ?_) (fun g => ?_)
  try exact Bool.noConfusion g
  ·refine Jq 4 rfl ?_; refine WV rfl rfl rfl rfl fun r1 => ?_; refine QI rfl (vC (k := 0) (b := 32) (sz := 2) rfl rfl rfl rfl rfl rfl hs oR rfl rfl rfl rfl rfl (by decide) (Ke Kj xs) (Ye ZY xs) (by omega) (by omega) fun row hrow => (Jx 4 rfl ?_)); refine pT rfl rfl rfl fun w1 hs1 => ?_; exact ⟨⟨row, hrow⟩, rfl, hs1.weakL (List.sublist_append_left _ _)⟩
theorem Jka {R : Ji} {xs : List (BS × BS)} {row : QJ} (hl : xs.length ≤ 1000) (hrow : rowOk 2 xs.length (xs.flatMap Q3) row) {i : Nat} (hi : i ≤ xs.length) {y : (BS × BS)} {rv : Nat} (hv : (rv, Obj.cells (Q3 y).toArray 97 (0, 0)) ∈ R) :
  PureT (α := { row' : QJ // rowOk 2 (xs.length + 1) ((xs.take i ++ y :: xs.drop i).flatMap Q3) row' }) Tryz.prog 326 [JC xs.length row, .int .i64 (i : Int), .slice (some ⟨rv, 0, none⟩) 1 1].toArray (fun x => JC (xs.length + 1) x.1) (JL 97 (xs.flatMap Q3) row) (fun x => JL 97 ((xs.take i ++ y :: xs.drop i).flatMap Q3) x.1) R := by
 obtain ⟨A, hA⟩ : ∃ A, A = (xs.take i).flatMap Q3 := ⟨_, rfl⟩
 obtain ⟨B, hB⟩ : ∃ B, B = (xs.drop i).flatMap Q3 := ⟨_, rfl⟩
 obtain ⟨n, hn⟩ : ∃ n, n = xs.length := ⟨_, rfl⟩
 have e1 : xs.flatMap Q3 = A ++ B := by rw [hA, hB, ← List.flatMap_append, List.take_append_drop]
 have e2 : (xs.take i ++ y :: xs.drop i).flatMap Q3 = A ++ (Q3 y ++ B) := by rw [List.flatMap_append, List.flatMap_cons, hA, hB]
 have lA : A.length = i * 2 := by rw [hA, Ke Kj, List.length_take, Nat.min_eq_left hi]
 have lB : B.length = (n - i) * 2 := by rw [hB, Ke Kj, List.length_drop, hn]
 have lF : (Q3 y).length = 2 := Kj y
 have oF : (Q3 y).all Qu = true := ZY y
 have oA : A.all Qu = true := by rw [hA]; exact Ye ZY _
 have oB : B.all Qu = true := by rw [hB]; exact Ye ZY _
 rw [e1] at hrow; rw [e1, e2]; rw [← hn] at hl hi hrow ⊢; clear hA hB e1 e2 hn
 cases row with
 | none =>
  obtain ⟨rfl, hAB⟩ := hrow
  obtain rfl : i = 0 := by omega
  obtain ⟨rfl, rfl⟩ := List.append_eq_nil_iff.1 hAB
  refine Ju Tryz.func326 rfl rfl fun w => ?_; refine J9 ?_; refine Jq 15 rfl ?_; refine LR rfl (JQ rfl rfl) ?_; refine JN 10 rfl ?_; refine cD (fun g => ?_) fun g => ?_
  first | exact Bool.noConfusion g | omega
  refine Jq 5 rfl ?_; refine LR rfl (JQ rfl rfl) ?_; refine JN 11 rfl ?_; refine J0 rfl (fun g => ?_) (fun g => ?_)
  try simp only [ZZ] at g
  refine Jq 4 rfl ?_; refine VI (n := 0) (m := 1) (b := 32) (sz := 2) (news := Q3 y) (xs := []) (L0 := []) rfl rfl rfl rfl (Or.inr hv) rfl rfl rfl rfl rfl (by decide) rfl rfl oF (by decide) SlOwn.nil (by decide) (by decide) fun r1 cap1 sp1 hsp1 => ?_; refine Jx 5 rfl ?_; refine pT rfl rfl rfl fun w1 hs1 => ?_; exact ⟨⟨some (r1, cap1, sp1), by simp [lF], hsp1⟩, rfl, by simpa [JL] using hs1⟩
  try exact Bool.noConfusion g
 | some q =>
  obtain ⟨r, cap, sp⟩ := q
  obtain ⟨hr1, hr2⟩ := hrow
  have hcap : n ≤ cap := by omega
  refine Ju Tryz.func326 rfl rfl fun w => ?_; refine J9 ?_; change HC _ _ _ [(r, .cells ((A ++ B) ++ sp).toArray 97 (0, 0))] _ _ _; refine Jq 9 rfl ?_; refine LR rfl (JJ (m := i) (kl := some i) (kh := none) (km := none) (q := n) (z := cap) rfl rfl rfl ⟨_, rfl⟩ trivial trivial rfl rfl rfl (by omega) (by omega) (by omega) (fun _ => rfl) rfl) ?_; refine JF 5 rfl ?_; refine LR rfl (JQ rfl rfl) ?_; refine JN 10 rfl ?_; refine J0 rfl (fun g => ?_) (fun g => ?_)
  try exact Bool.noConfusion g
  ·refine Jq 5 rfl ?_; refine LR rfl (JQ rfl rfl) ?_; refine JN 11 rfl ?_; refine J0 rfl (fun g => ?_) (fun g => ?_)
   try simp only [ZZ] at g
   refine Jq 4 rfl ?_
   obtain rfl : B = [] := List.length_eq_zero_iff.1 (by omega)
   refine VI (n := n) (m := 1) (b := 32) (sz := 2) (news := Q3 y) (xs := A ++ []) (L0 := []) rfl rfl rfl rfl (Or.inr hv) rfl rfl rfl rfl rfl (by decide) rfl lF oF (by decide) (SlOwn.own (k := 0) rfl (by simp only [List.toList_toArray]; rw [List.take_left' hr1]) hr1 (by rw [List.size_toArray, List.length_append, hr1]; omega) rfl) (by omega) (by omega) fun r1 cap1 sp1 hsp1 => ?_; refine Jx 5 rfl ?_; refine pT rfl rfl rfl fun w1 hs1 => ?_; exact ⟨⟨some (r1, cap1, sp1), by simp only [List.length_append, List.length_nil, lF]; omega, hsp1⟩, rfl, by simpa [JL] using hs1⟩
   ·try simp only [ZZ] at g
    refine Jq 8 rfl ?_; refine Jc (by omega) (by omega) ?_; refine QI rfl (LR rfl (Jgk rfl rfl) (JN 3 rfl ?_)); refine cD (fun g => ?_) fun g => ?_
    ·refine Jq 4 rfl ?_
     refine LR rfl (JJ (sz := 2) (q := i) (kl := none) (kh := some (i)) (km := none) (m := 0) (z := cap) (off' := 0) rfl rfl rfl trivial ⟨_, rfl⟩ trivial rfl rfl rfl (by omega) (by omega) (by omega) (fun h => by cases h) (by split <;> omega)) ?_; refine LS 3 [] rfl rfl ?_; refine Jc (by omega) (by omega) ?_; refine JF 2 rfl ?_; refine Jw (show _ = Value.int .i64 ((n + 1 - i : Nat) : Int) from by rw [wrap_i64 (by omega) (by omega)]; congr 1 <;> omega) ?_; refine vu (r := r) (off := 0) (n := i) (cap := cap) (m := n + 1 - i) (sz := 2) (b := 32) (xs := A) rfl rfl rfl rfl (kn 0 rfl) rfl rfl rfl rfl rfl rfl (by decide) (by simp only [List.toList_toArray, List.drop_zero]; rw [List.append_assoc, List.take_left' lA]) lA (by omega) (by omega) (by omega) (by omega) (by omega) fun r2 cap2 Z sp2 hZ hsp2 => ?_; rw [show i + (n + 1 - i) = n + 1 by omega] at hsp2 ⊢
     obtain ⟨Z1, Z2, rfl, lZ1⟩ := cut (l := Z) (a := 2) (by omega)
     have lZ2 : Z2.length = (n - i) * 2 := by rw [List.length_append, lZ1] at hZ; omega
     rw [show A ++ (Z1 ++ Z2) ++ sp2 = A ++ (Z1 ++ (Z2 ++ sp2)) by simp only [List.append_assoc]]; refine JF 7 rfl ?_; refine LR rfl (JJ (sz := 2) (m := i) (kl := some (i)) (kh := none) (km := none) (q := n + 1) (z := cap2) (off' := i * 2) rfl rfl rfl ⟨_, rfl⟩ trivial trivial rfl rfl rfl (by omega) (by omega) (by omega) (fun _ => rfl) (by rw [if_neg (by omega)]; omega)) ?_; refine QI rfl ?_
     refine Xj (k := 0) (n := 1) (sz := 2) (vs := Q3 y) (cs' := A ++ (Q3 y ++ (Z2 ++ sp2))) rfl rfl rfl rfl rfl (Or.inr hv) rfl rfl (by simp only [Nat.min_def]; split <;> omega) rfl lF oF (by simp only [List.size_toArray, List.length_append]; omega) (WW lA (by rw [lZ1])) rfl ?_; refine JN 3 rfl ?_; refine JK 8 (by kernel_rfl) (by kernel_rfl) ?_; refine Jb rfl rfl rfl (Jg rfl) ?_; refine Jb rfl rfl rfl (Jg rfl) ?_; refine Jb rfl rfl rfl (Jg rfl) ?_
     refine Jb rfl rfl rfl (Jy rfl rfl rfl) ?_; refine Qg (show _ = Value.int .i64 ((i + 1 : Nat) : Int) from by rw [wrap_i64 (by omega) (by omega)]; congr 1 <;> omega) ?_; refine Jb rfl rfl rfl (JJ (sz := 2) (m := i + 1) (kl := some (i + 1)) (kh := none) (km := none) (q := n + 1) (z := cap2) (off' := (i + 1) * 2) rfl rfl rfl ⟨_, rfl⟩ trivial trivial rfl rfl rfl (by omega) (by omega) (by omega) (fun _ => rfl) (by rw [if_neg (by omega)]; omega)) ?_; refine Jb rfl rfl rfl (Jg rfl) ?_; refine Jb rfl rfl rfl (Jg rfl) ?_; refine Jb rfl rfl rfl (JJ (sz := 2) (m := i) (kl := some (i)) (kh := none) (km := none) (q := n) (z := cap) (off' := i * 2) rfl rfl rfl ⟨_, rfl⟩ trivial trivial rfl rfl rfl (by omega) (by omega) (by omega) (fun _ => rfl) (by rw [if_neg (by omega)]; omega)) ?_; refine JY ?_; rw [show A ++ (Q3 y ++ (Z2 ++ sp2)) = (A ++ Q3 y) ++ (Z2 ++ sp2) by simp only [List.append_assoc]]
     refine Xj (k := 0) (n := n - i) (sz := 2) (vs := B) (cs' := (A ++ Q3 y) ++ (B ++ sp2)) rfl rfl rfl rfl rfl (kn 1 rfl) rfl rfl (by simp only [Nat.min_def]; split <;> omega) (by simp only [List.toList_toArray]; rw [List.append_assoc, List.drop_left' lA, List.take_left' lB]) lB oB (by simp only [List.size_toArray, List.length_append]; omega) (WW (by rw [List.length_append, lA, lF]; omega) lZ2) rfl ?_; refine Jx 10 rfl ?_; refine pT rfl rfl rfl fun w1 hs1 => ?_; exact ⟨⟨some (r2, cap2, sp2), by simp only [List.length_append]; omega, hsp2⟩, rfl, hs1.weakL (by simp [JL])⟩
    ·refine Jq 8 rfl ?_; refine Jw (show _ = Value.int .i64 ((n + 1 : Nat) : Int) from by rw [wrap_i64 (by omega) (by omega)]; congr 1 <;> omega) ?_
     refine LR rfl (JJ (sz := 2) (q := n + 1) (kl := none) (kh := some (n + 1)) (km := none) (m := 0) (z := cap) (off' := 0) rfl rfl rfl trivial ⟨_, rfl⟩ trivial rfl rfl rfl (by omega) (by omega) (by omega) (fun h => by cases h) (by split <;> omega)) ?_; refine JF 11 rfl ?_; refine Jw (show _ = Value.int .i64 ((i + 1 : Nat) : Int) from by rw [wrap_i64 (by omega) (by omega)]; congr 1 <;> omega) ?_; refine LR rfl (JJ (sz := 2) (m := i + 1) (kl := some (i + 1)) (kh := none) (km := none) (q := n + 1) (z := cap) (off' := (i + 1) * 2) rfl rfl rfl ⟨_, rfl⟩ trivial trivial rfl rfl rfl (by omega) (by omega) (by omega) (fun _ => rfl) (by rw [if_neg (by omega)]; omega)) ?_; refine LR rfl (qc (k := 0) rfl rfl rfl hv rfl rfl rfl (by simp only [List.size_toArray, List.length_append]; omega) Tryz.func356 rfl rfl rfl rfl) ?_; refine JN 3 rfl ?_; refine J0 rfl (fun g => ?_) (fun g => ?_)
     ·try simp only [ZZ] at g
      refine JP 1 rfl ?_; refine JK 8 (by kernel_rfl) (by kernel_rfl) ?_; refine Jb rfl rfl rfl (Jg rfl) ?_; refine Jb rfl rfl rfl (Jg rfl) ?_; refine Jb rfl rfl rfl (Jg rfl) ?_
      refine Jb rfl rfl rfl (Jy rfl rfl rfl) ?_; refine Qg (show _ = Value.int .i64 ((i + 1 : Nat) : Int) from by rw [wrap_i64 (by omega) (by omega)]; congr 1 <;> omega) ?_; refine Jb rfl rfl rfl (JJ (sz := 2) (m := i + 1) (kl := some (i + 1)) (kh := none) (km := none) (q := n + 1) (z := cap) (off' := (i + 1) * 2) rfl rfl rfl ⟨_, rfl⟩ trivial trivial rfl rfl rfl (by omega) (by omega) (by omega) (fun _ => rfl) (by rw [if_neg (by omega)]; omega)) ?_; refine Jb rfl rfl rfl (Jg rfl) ?_; refine Jb rfl rfl rfl (Jg rfl) ?_; refine Jb rfl rfl rfl (JJ (sz := 2) (m := i) (kl := some (i)) (kh := none) (km := none) (q := n + 1) (z := cap) (off' := i * 2) rfl rfl rfl ⟨_, rfl⟩ trivial trivial rfl rfl rfl (by omega) (by omega) (by omega) (fun _ => rfl) (by rw [if_neg (by omega)]; omega)) ?_; refine JY ?_
      obtain ⟨X1, X2, hX, lX1⟩ := cut (l := B ++ sp) (a := 2) (by rw [List.length_append]; omega)
      obtain ⟨X3, X4, rfl, lX3⟩ := cut (l := X2) (a := (n - i) * 2) (by have := congrArg List.length hX; simp only [List.length_append] at this; omega)
      rw [show (A ++ B) ++ sp = (A ++ X1) ++ (X3 ++ X4) by rw [List.append_assoc, hX]; simp only [List.append_assoc]]
      refine Xj (k := 0) (n := n - i) (sz := 2) (vs := B) (cs' := (A ++ X1) ++ (B ++ X4)) rfl rfl rfl rfl rfl (kn 0 rfl) rfl rfl (by simp only [Nat.min_def]; split <;> omega) (by simp only [List.toList_toArray]; rw [List.append_assoc, List.drop_left' lA, ← hX, List.take_left' lB]) lB oB (by have := congrArg List.length hX; simp only [List.size_toArray, List.length_append] at this ⊢; omega) (WW (by rw [List.length_append, lA, lX1]; omega) lX3) rfl ?_; refine JF 6 rfl ?_; refine LR rfl (JJ (sz := 2) (m := i) (kl := some (i)) (kh := none) (km := none) (q := n + 1) (z := cap) (off' := i * 2) rfl rfl rfl ⟨_, rfl⟩ trivial trivial rfl rfl rfl (by omega) (by omega) (by omega) (fun _ => rfl) (by rw [if_neg (by omega)]; omega)) ?_; refine QI rfl ?_; rw [show (A ++ X1) ++ (B ++ X4) = A ++ (X1 ++ (B ++ X4)) by simp only [List.append_assoc]]
      refine Xj (k := 0) (n := 1) (sz := 2) (vs := Q3 y) (cs' := A ++ (Q3 y ++ (B ++ X4))) rfl rfl rfl rfl rfl (Or.inr hv) rfl rfl (by simp only [Nat.min_def]; split <;> omega) rfl lF oF (by simp only [List.size_toArray, List.length_append]; omega) (WW lA (by rw [lX1])) rfl ?_; refine Jx 10 rfl ?_; refine pT rfl rfl rfl fun w1 hs1 => ?_; exact ⟨⟨some (r, cap, X4), by simp only [List.length_append]; omega, by have := congrArg List.length hX; simp only [List.length_append] at this; omega⟩, rfl, by simpa [JL] using hs1⟩
     ·try exact Bool.noConfusion g
theorem Jtd {R : Ji} {xs : List AcL} {p : Pl} (hl : xs.length ≤ 1000) (hs : Seg R xs.length (xs.flatMap AcL.cells) p) (hso : Kp AcL.addr xs) (y : AcL) :
  PureT (α := { row : QJ // rowOk 8 (KU AcL.addr y xs).length ((KU AcL.addr y xs).flatMap AcL.cells) row }) Tryz.prog 256 [KG xs.length p, vA y, fV 98].toArray (fun x => JC (KU AcL.addr y xs).length x.1) [] (fun x => JL 48 ((KU AcL.addr y xs).flatMap AcL.cells) x.1) R := by
 have hins := Jmo (x := y) hso
 obtain ⟨j, hj⟩ : ∃ j, j = Zv AcL.addr (AcL.addr y) xs := ⟨_, rfl⟩
 have hjl : j ≤ xs.length := hj ▸ Jmm _ _
 have hpl := Jov (k := AcL.addr y) hl hs hso
 have hlt : Vt AcL.addr (AcL.addr y) xs = true → j < xs.length := fun h => hj ▸ Jbk h
 rw [← hj] at hins hpl
 obtain ⟨b, hb⟩ : ∃ b, b = Vt AcL.addr (AcL.addr y) xs := ⟨_, rfl⟩
 rw [← hb] at hins hpl hlt; clear hj hb; refine Ju Tryz.func256 rfl rfl fun w => ?_; refine J9 ?_; refine Jq 2 rfl ?_; refine LN rfl fun r1 => ?_; refine XV 8 [0] rfl rfl ?_; refine Jm rfl rfl rfl Jr5 (xu y) ?_; refine QI rfl (Je rfl rfl rfl (enters_of Tryz.func322 (by kernel_rfl) rfl) hpl oR (JF 10 rfl ?_)); refine Kq rfl rfl rfl (enters_of Tryz.func79 (by kernel_rfl) rfl) (Jcv hl hs) oR fun x => ?_
 obtain ⟨row, hrow⟩ := x
 change HL _ _ ((20, JC xs.length row) :: _) (JL 48 (xs.flatMap AcL.cells) row ++ [(r1, _)]) _ _ _ _; refine JN 9 rfl ?_; refine cD (fun g => ?_) fun g => ?_
 refine JP 1 rfl ?_
 have hltb := hlt (by assumption)
 obtain ⟨r2, cap2, sp2, rfl⟩ := row_some hrow (by omega)
 change HC _ _ _ [(r2, .cells (xs.flatMap AcL.cells ++ sp2).toArray 48 (0, 0)), (r1, _)] _ _ _; refine Jq 3 rfl ?_; refine LR rfl (Jp (vs := AcL.cells y) rfl (kn 1 rfl) rfl rfl rfl rfl) ?_; refine LR rfl (JE (j := j) (m := 8) rfl rfl rfl rfl rfl (by omega) rfl) ?_; refine Qz (k := 0) (n := 8) (vs := (AcL.cells y).toArray) (cs' := ((xs.set j y).flatMap AcL.cells ++ sp2).toArray) rfl rfl rfl rfl rfl rfl (AcL.one y) (by have := hrow.1; simp only [List.size_toArray, List.length_append, Ke AcL.len]; omega) (by apply Array.toList_inj.1; simp only [List.toList_toArray, Nat.zero_add]; exact zJ AcL.len hltb y sp2) rfl ?_; refine Jx 10 rfl ?_; refine pT rfl rfl rfl fun w1 hs1 => ?_
 (rw [if_pos (by assumption)] at hins
  rw [hins, List.length_set]
  exact ⟨⟨some (r2, cap2, sp2), hrow.same (by rw [Ke AcL.len, Ke AcL.len, List.length_set])⟩, rfl, hs1.weakL (by simp [JL])⟩)
 ·refine Jq 6 rfl ?_; refine LR rfl (Jp (vs := AcL.cells y) rfl (Or.inl (List.mem_append_right _ List.mem_cons_self)) rfl rfl rfl rfl) ?_; refine JH (n := 1) (sz := 8) (vs := [_]) (zs := [_, _, _, _, _, _, _, _]) (r := AcL.cells y) rfl rfl rfl rfl rfl rfl rfl rfl rfl (by rw [Kf]; exact rfl) rfl fun rv => ?_; refine Qk (T := JL 48 (xs.flatMap AcL.cells) row) (L0 := [(rv, _), (r1, _)]) (Rl := [(rv, Obj.cells (AcL.cells y).toArray 48 (0, 0))]) (by exact List.perm_middle.symm) rfl rfl rfl (enters_of Tryz.func323 (by kernel_rfl) rfl) (Jj9 (i := j) (y := y) hl hrow hjl List.mem_cons_self) (fun q hq => Or.inl (by rw [List.mem_singleton.1 hq]; exact List.mem_cons_self)) fun x => ?_
  obtain ⟨row2, hrow2⟩ := x
  refine Jx 4 rfl ?_; refine pT rfl rfl rfl fun w1 hs1 => ?_
  (rw [if_neg (by simp_all)] at hins
   have hln : (xs.take j ++ y :: xs.drop j).length = xs.length + 1 := by simp only [List.length_append, List.length_take, List.length_cons, List.length_drop]; omega
   rw [hins, hln]
   exact ⟨⟨row2, hrow2⟩, rfl, hs1.weakL (List.sublist_append_left _ _)⟩)
theorem Jte {R : Ji} {xs : List (BS × BS)} {p : Pl} (hl : xs.length ≤ 1000) (hs : Seg R xs.length (xs.flatMap Q3) p) (hso : Kp Prod.fst xs) (y : (BS × BS)) :
  PureT (α := { row : QJ // rowOk 2 (KU Prod.fst y xs).length ((KU Prod.fst y xs).flatMap Q3) row }) Tryz.prog 257 [KG xs.length p, vS y, fV 156].toArray (fun x => JC (KU Prod.fst y xs).length x.1) [] (fun x => JL 97 ((KU Prod.fst y xs).flatMap Q3) x.1) R := by
 have hins := Jmo (x := y) hso
 obtain ⟨j, hj⟩ : ∃ j, j = Zv Prod.fst (Prod.fst y) xs := ⟨_, rfl⟩
 have hjl : j ≤ xs.length := hj ▸ Jmm _ _
 have hpl := Jow (k := Prod.fst y) hl hs hso
 have hlt : Vt Prod.fst (Prod.fst y) xs = true → j < xs.length := fun h => hj ▸ Jbk h
 rw [← hj] at hins hpl
 obtain ⟨b, hb⟩ : ∃ b, b = Vt Prod.fst (Prod.fst y) xs := ⟨_, rfl⟩
 rw [← hb] at hins hpl hlt; clear hj hb; refine Ju Tryz.func257 rfl rfl fun w => ?_; refine J9 ?_; refine Jq 2 rfl ?_; refine LN rfl fun r1 => ?_; refine XV 8 [0] rfl rfl ?_; refine Jm rfl rfl rfl Jgs (xv y) ?_; refine QI rfl (Je rfl rfl rfl (enters_of Tryz.func324 (by kernel_rfl) rfl) hpl oR (JF 10 rfl ?_)); refine Kq rfl rfl rfl (enters_of Tryz.func325 (by kernel_rfl) rfl) (Jox hl hs) oR fun x => ?_
 obtain ⟨row, hrow⟩ := x
 change HL _ _ ((20, JC xs.length row) :: _) (JL 97 (xs.flatMap Q3) row ++ [(r1, _)]) _ _ _ _; refine JN 9 rfl ?_; refine cD (fun g => ?_) fun g => ?_
 refine JP 1 rfl ?_
 have hltb := hlt (by assumption)
 obtain ⟨r2, cap2, sp2, rfl⟩ := row_some hrow (by omega)
 change HC _ _ _ [(r2, .cells (xs.flatMap Q3 ++ sp2).toArray 97 (0, 0)), (r1, _)] _ _ _; refine Jq 3 rfl ?_; refine LR rfl (Jp (vs := Q3 y) rfl (kn 1 rfl) rfl rfl rfl rfl) ?_; refine LR rfl (JE (j := j) (m := 2) rfl rfl rfl rfl rfl (by omega) rfl) ?_; refine Qz (k := 0) (n := 2) (vs := (Q3 y).toArray) (cs' := ((xs.set j y).flatMap Q3 ++ sp2).toArray) rfl rfl rfl rfl rfl rfl (ZY y) (by have := hrow.1; simp only [List.size_toArray, List.length_append, Ke Kj]; omega) (by apply Array.toList_inj.1; simp only [List.toList_toArray, Nat.zero_add]; exact zJ Kj hltb y sp2) rfl ?_; refine Jx 10 rfl ?_; refine pT rfl rfl rfl fun w1 hs1 => ?_
 (rw [if_pos (by assumption)] at hins
  rw [hins, List.length_set]
  exact ⟨⟨some (r2, cap2, sp2), hrow.same (by rw [Ke Kj, Ke Kj, List.length_set])⟩, rfl, hs1.weakL (by simp [JL])⟩)
 ·refine Jq 6 rfl ?_; refine LR rfl (Jp (vs := Q3 y) rfl (Or.inl (List.mem_append_right _ List.mem_cons_self)) rfl rfl rfl rfl) ?_; refine JH (n := 1) (sz := 2) (vs := [_]) (zs := [_, _]) (r := Q3 y) rfl rfl rfl rfl rfl rfl rfl rfl rfl (by rw [Kf]; exact rfl) rfl fun rv => ?_; refine Qk (T := JL 97 (xs.flatMap Q3) row) (L0 := [(rv, _), (r1, _)]) (Rl := [(rv, Obj.cells (Q3 y).toArray 97 (0, 0))]) (by exact List.perm_middle.symm) rfl rfl rfl (enters_of Tryz.func326 (by kernel_rfl) rfl) (Jka (i := j) (y := y) hl hrow hjl List.mem_cons_self) (fun q hq => Or.inl (by rw [List.mem_singleton.1 hq]; exact List.mem_cons_self)) fun x => ?_
  obtain ⟨row2, hrow2⟩ := x
  refine Jx 4 rfl ?_; refine pT rfl rfl rfl fun w1 hs1 => ?_
  (rw [if_neg (by simp_all)] at hins
   have hln : (xs.take j ++ y :: xs.drop j).length = xs.length + 1 := by simp only [List.length_append, List.length_take, List.length_cons, List.length_drop]; omega
   rw [hins, hln]
   exact ⟨⟨row2, hrow2⟩, rfl, hs1.weakL (List.sublist_append_left _ _)⟩)
theorem Jtf (x : BS × BS) : q6 x = (((x.1.length : Int) != 32) || ((x.2.length : Int) != 32)) := by
 have key : ∀ n : Nat, decide (n ≠ 32) = ((n : Int) != 32) := fun n => by
  by_cases h : n = 32
  ·subst h; rfl
  ·have h2 : ¬ (n : Int) = 32 := by omega
   simp [h, h2]
 unfold q6
 rw [key, key]
theorem Jyo (x : BS × BS) : Pure Tryz.prog 152 [vS x].toArray (.bool (q6 x)) := by
 refine Jk Tryz.func152 rfl rfl fun w => ?_; refine J9 ?_; refine Jq 2 rfl ?_; refine LN rfl fun r1 => ?_; refine XV 7 [0] rfl rfl ?_; refine LR rfl (Qe rfl rfl) ?_; refine LS 2 [] rfl rfl ?_
 refine JB 7 rfl (fun gb => ?_) (fun gb => ?_) <;> (try simp only [ZZ] at gb) <;> first | (refine LR rfl (JG rfl rfl rfl) ?_) | (refine LK rfl ?_)
 all_goals refine LW 1 [0] rfl rfl ?_
 all_goals first | refine LR rfl (Qe rfl rfl) ?_ | refine LK rfl ?_
 all_goals (
  refine LW 3 [] rfl rfl (Jx 1 rfl (ZM 2 rfl ?_)); refine pT rfl rfl rfl fun w1 hs1 => ?_; refine ⟨?_, hs1.keep⟩; rw [Jtf]
  simp_all [J8]
  skip)
theorem Jtg (x : BS × BS) : Pure Tryz.prog 153 [vS x].toArray (.bool (Xw x)) := by
 refine Jk Tryz.func153 rfl rfl fun w => ?_; refine J9 ?_; refine Jq 2 rfl ?_; refine LN rfl fun r1 => ?_; refine JN 4 rfl ?_; refine JK 5 (by kernel_rfl) (by kernel_rfl) ?_
 refine Jb rfl rfl rfl (JG rfl rfl rfl) ?_; refine Jb rfl rfl rfl (Jd rfl (kn 0 rfl) rfl rfl) ?_; refine Ku rfl rfl rfl (enters_of Tryz.func116 (by kernel_rfl) rfl) Jou ?_; refine Jb rfl rfl rfl (W7 rfl rfl) ?_; refine Jb rfl rfl rfl (J7 rfl) ?_; refine JY ?_; refine Jx 3 rfl ?_; refine pT rfl rfl rfl fun w1 hs1 => ?_; exact ⟨rfl, hs1.keep⟩
theorem qm {R : Ji} {xs : List (BS × BS)} {p : Pl} (hl : xs.length ≤ 9223372036854775807) (hs : Seg R xs.length (xs.flatMap Q3) p) {g : FuncId} {caps : List Value} {pr : BS × BS → Bool} (eg : Enters Tryz.prog g) (hg : ∀ x ∈ xs, PureR Tryz.prog g (vS x :: caps).toArray (.bool (pr x)) R) :
  PureR Tryz.prog 154 [KG xs.length p, .func (.func g) #[] caps.toArray].toArray (.bool (xs.any pr)) R := by
 have h := Jcu hl hs eg hg
 refine Ja Tryz.func154 rfl rfl fun w => ?_; refine J9 ?_; refine Jq 9 rfl ?_; refine Je rfl rfl rfl (enters_of Tryz.func114 (by kernel_rfl) rfl) h oR ?_; refine Wm rfl (Jw (congrArg Value.bool Jrp) (Jx 4 rfl ?_)); refine pT rfl rfl rfl fun w1 hs1 => ?_; exact ⟨rfl, hs1.keep⟩
theorem Jex {R : Ji} {a : AcL} (ha : a.In R) : PureR Tryz.prog 96 [a.val].toArray (.int .i64 (Wy a.er)) R := by
  have h1 := qm (g := 152) (caps := []) ha.len ha.seg (enters_of Tryz.func152 (by kernel_rfl) rfl) (fun x _ => (Jyo x).toR)
  have h2 := qm (g := 153) (caps := []) ha.len ha.seg (enters_of Tryz.func153 (by kernel_rfl) rfl) (fun x _ => (Jtg x).toR)
  have h3 := Jos ha.len ha.seg
  have hl := ha.len
  have hseg := ha.seg
  have hE : Wy a.er = if ¬ ((a.addr.length : Int) = 20) ∨ a.slots.any q6 = true then 2 else if Q7 Prod.fst a.slots = false then 11 else if (512 < (a.code.length : Int)) ∨ (16 < (a.slots.length : Int)) then 5 else if a.slots.any Xw = true then 8 else 0 := by
    exact ite_congr (propext (or_congr (by show ¬ a.addr.length = 20 ↔ _; omega) Iff.rfl)) (fun _ => rfl) (fun _ => ite_congr rfl (fun _ => rfl) (fun _ => ite_congr (propext (or_congr (by show a.code.length > 512 ↔ _; omega) (by show a.slots.length > 16 ↔ _; omega))) (fun _ => rfl) (fun _ => rfl)))
  rw [hE]; clear hE
  generalize a.slots.any q6 = oB at h1 ⊢
  generalize a.slots.any Xw = sBo at h2 ⊢
  generalize Q7 Prod.fst a.slots = rB at h3 ⊢
  refine Ja Tryz.func96 rfl rfl fun w => ?_; refine J9 ?_; refine Jq 2 rfl ?_; refine LN rfl fun r1 => ?_; refine XV 19 [0] rfl rfl ?_; refine LR rfl (Qe rfl rfl) ?_; refine LS 2 [] rfl rfl ?_
  refine JB 10 rfl (fun gb => ?_) (fun gb => ?_) <;> (try simp only [ZZ] at gb) <;> first | (refine LR rfl (JG rfl rfl rfl) ?_) | (refine LK rfl ?_)
  all_goals refine LW 2 [0] rfl rfl ?_
  all_goals first | (refine Je rfl rfl rfl (enters_of Tryz.func154 (by kernel_rfl) rfl) h1 oR ?_) | refine LK rfl ?_
  all_goals (
   refine LW 2 [] rfl rfl (Jx 1 rfl (Zn 1 rfl ?_)); refine J0 rfl (fun h10 => ?_) (fun h10 => ?_)
   try simp only [ZZ] at h10
   refine Kn 8 rfl ?_; refine pT rfl rfl rfl fun w1 hs1 => ?_; refine ⟨?_, hs1.keep⟩; simp only [J8]
   simp_all
   · try exact Bool.noConfusion h10
     all_goals try simp only [ZZ] at h10
     all_goals (
      refine X6 4 [0] rfl rfl ?_; refine Je rfl rfl rfl (enters_of Tryz.func155 (by kernel_rfl) rfl) h3 oR ?_; refine JN 4 rfl ?_; refine cD (fun h13 => ?_) fun h13 => ?_
      refine Kn 8 rfl ?_; refine pT rfl rfl rfl fun w1 hs1 => ?_; refine ⟨?_, hs1.keep⟩; simp only [J8]
      simp_all
      · refine X6 4 [0] rfl rfl ?_; refine LR rfl (Qe rfl rfl) ?_; refine LS 2 [] rfl rfl ?_
        refine JB 26 rfl (fun gb => ?_) (fun gb => ?_) <;> (try simp only [ZZ] at gb) <;> first | (refine LR rfl (JG rfl rfl rfl) ?_) | (refine LK rfl ?_)
        all_goals refine LW 1 [0] rfl rfl ?_
        all_goals first | refine LR rfl (J5 rfl hseg rfl) ?_ | refine LK rfl ?_
        all_goals (
         refine LW 3 [] rfl rfl (Jx 1 rfl (Zn 1 rfl ?_)); refine J0 rfl (fun h20 => ?_) (fun h20 => ?_)
         try simp only [ZZ] at h20
         refine Kn 8 rfl ?_; refine pT rfl rfl rfl fun w1 hs1 => ?_; refine ⟨?_, hs1.keep⟩; simp only [J8]
         simp_all
         · try exact Bool.noConfusion h20
           all_goals try simp only [ZZ] at h20
           all_goals (
            refine X6 5 [0] rfl rfl ?_; refine Je rfl rfl rfl (enters_of Tryz.func154 (by kernel_rfl) rfl) h2 oR ?_; refine JN 3 rfl ?_; refine cD (fun h23 => ?_) fun h23 => ?_
            refine Kn 8 rfl ?_; refine pT rfl rfl rfl fun w1 hs1 => ?_; refine ⟨?_, hs1.keep⟩; simp only [J8]
            simp_all
            refine Kn 9 rfl ?_; refine pT rfl rfl rfl fun w1 hs1 => ?_; refine ⟨?_, hs1.keep⟩; simp only [J8]
            simp_all
            skip)
         skip)
      skip)
   skip)
theorem Jth {R : Ji} {rb e : Nat} {k : BS} (hb : (rb, Obj.cells #[J6 k] e (0, 0)) ∈ R) (a : AcL) : PureR Tryz.prog 43 [vA a, .pointer (some ⟨rb, 0, none⟩)].toArray (.bool (decide (a.addr = k))) R := by
 refine Ja Tryz.func43 rfl rfl fun w => ?_; refine J9 ?_; refine Jq 2 rfl ?_; refine LN rfl fun r1 => ?_; refine XV 7 [0] rfl rfl ?_; refine LR rfl (Jd rfl (Or.inr hb) rfl rfl) ?_; refine LR rfl (W7 rfl rfl) ?_; refine Jx 4 rfl ?_; refine pT rfl rfl rfl fun w1 hs1 => ?_; exact ⟨rfl, hs1.keep⟩
theorem Jwl {R : Ji} {rb e : Nat} {k : BS} (hb : (rb, Obj.cells #[J6 k] e (0, 0)) ∈ R) (x : BS × BS) : PureR Tryz.prog 259 [vS x, .pointer (some ⟨rb, 0, none⟩)].toArray (.bool (decide (x.1 = k))) R := by
 refine Ja Tryz.func259 rfl rfl fun w => ?_; refine J9 ?_; refine Jq 2 rfl ?_; refine LN rfl fun r1 => ?_; refine XV 7 [0] rfl rfl ?_; refine LR rfl (Jd rfl (Or.inr hb) rfl rfl) ?_; refine LR rfl (W7 rfl rfl) ?_; refine Jx 4 rfl ?_; refine pT rfl rfl rfl fun w1 hs1 => ?_; exact ⟨rfl, hs1.keep⟩
theorem Jey {R : Ji} {s : StL} (hs : s.In R) (k : BS) : PureR Tryz.prog 18 [s.val, J6 k].toArray (.tuple #[(Qm s k).val, .bool (Yf s k)]) R := by
 have hl := hs.len
 have hseg := hs.seg
 refine Ja Tryz.func18 rfl rfl fun w => ?_; refine J9 ?_; refine Jq 2 rfl ?_; refine LN rfl fun r1 => ?_; refine LN rfl fun r2 => ?_; refine LN rfl fun r3 => ?_; refine XV 7 [2] rfl rfl ?_; refine LR rfl (JA rfl rfl) ?_; refine Je (Rl := (r2, Obj.cells #[J6 k] 9 (0, 0)) :: R) rfl rfl rfl (enters_of Tryz.func42 (by kernel_rfl) rfl) (Joq (caps := [.pointer (some ⟨r2, 0, none⟩)]) (pr := fun a => decide (a.addr = k)) hl (hseg.mono fun q hq => List.mem_cons_of_mem _ hq) (enters_of Tryz.func43 (by kernel_rfl) rfl) (fun a _ => Jth List.mem_cons_self a)) (fun q hq => (List.mem_cons.1 hq).elim (fun h => Or.inl (by rw [h]; simp)) Or.inr) ?_; refine JN 10 rfl ?_; refine cD (fun g => ?_) fun g => ?_
 refine JP 1 rfl ?_
 have hf := Jbf (by assumption)
 refine Jq 1 rfl ?_; refine LR rfl (Jr (r := [_, _, _, _, _, _, _, _]) rfl rfl) ?_
 refine LT 0 rfl rfl ?_; refine Jx 5 rfl ?_; refine Jh rfl rfl (.cons (J1 (vs := [_, _, _, _, _, _, _, _]) rfl (kn 0 rfl) rfl rfl) (.cons (Jj rfl) .nil)) (fun w1 hs1 => ?_); refine ⟨?_, hs1.keep⟩; rw [(ym hf).1, (ym hf).2]; rfl
 ·refine JP 3 rfl ?_
  obtain ⟨i, a, hidx, ha, hf⟩ := Jrq (by assumption)
  refine X6 4 [2] rfl rfl ?_
  refine LR rfl (Js (j := i) rfl hseg rfl rfl rfl (by first | rfl | omega) (by have := (List.getElem?_eq_some_iff.1 ha).1; omega)) ?_; refine LR rfl (Kw AcL.len oR rfl hseg ha rfl rfl) ?_
  refine LT 0 rfl rfl ?_; refine Jx 4 rfl ?_; refine Jh rfl rfl (.cons (J1 (vs := [_, _, _, _, _, _, _, _]) rfl (kn 0 rfl) rfl rfl) (.cons (Jj rfl) .nil)) (fun w1 hs1 => ?_); refine ⟨?_, hs1.keep⟩; rw [(Jbl hf).1, (Jbl hf).2]; rfl
theorem YZ {R : Ji} {s : StL} (hs : s.In R) : PureR Tryz.prog 44 [s.val].toArray (.int .i64 (KT s.er)) R := by
  have hl : s.accts.length ≤ 9223372036854775807 := hs.len
  have hseg := hs.seg
  obtain ⟨hc5, hcg⟩ := Jrv s
  refine Ja Tryz.func44 rfl rfl fun w => ?_; refine J9 ?_; refine Jq 2 rfl ?_; refine LN rfl fun r1 => ?_; refine XV 8 [0] rfl rfl ?_; refine LR rfl (J5 rfl hseg rfl) ?_; refine JN 3 rfl ?_; refine cD (fun g => ?_) fun g => ?_
  refine Kn 7 rfl ?_; refine pT rfl rfl rfl fun w1 hs1 => ?_; refine ⟨?_, hs1.keep⟩; rw [hc5 (by assumption)]; rfl
  · refine X6 7 [0] rfl rfl ?_; refine LR rfl (J5 rfl hseg rfl) ?_; refine JN 4 rfl ?_; refine J2 (σ := Nat) (fun i => i ≤ s.accts.length ∧ goS (XG s.er i) (s.er.drop i) = goS none s.er) (fun i => [(1, .pointer (some ⟨r1, 0, none⟩)), (11, KG s.accts.length s.p), (12, .int .i64 (s.accts.length : Int)), (13, .int .i64 (i : Int))]) (fun _ => [(r1, .cells s.cells.toArray 36 (0, 0))]) (fun _ _ _ => True) (fun i => s.accts.length - i) 0 ⟨Nat.zero_le _, rfl⟩ (lK rfl) (List.Sublist.refl _) (fun _ _ h => h) ?_; rintro i ⟨hi1, hinv⟩; refine JP 6 rfl ?_; refine cD (fun g => ?_) fun g => ?_
    · refine JP 5 rfl ?_
      obtain ⟨a, ha, hma⟩ := Ve (show i < s.accts.length by omega)
      rw [Jrr (vE ha)] at hinv; refine Jq 2 rfl ?_
      refine LR rfl (Js (j := i) rfl hseg rfl rfl rfl (by first | rfl | omega) (by omega)) ?_; refine LR rfl (Kw AcL.len oR rfl hseg ha rfl rfl) ?_; refine LN rfl fun r2 => ?_; refine QI rfl (Jn (k := 0) (n := 8) (ys := a.cells) rfl rfl rfl rfl rfl a.len rfl a.one rfl (JF 4 rfl ?_)); refine LR rfl (Jf (xs := a.cells) (n := 8) rfl (kn 0 rfl) rfl rfl a.len) ?_; refine Je rfl rfl rfl Jvx (Jex (hs.accts a hma)) oR ?_; refine JF 9 rfl ?_
      refine JB 22 rfl (fun gb => ?_) (fun gb => ?_) <;> (try simp only [ZZ] at gb) <;> first | (refine QI rfl ?_) | (refine LK rfl ?_)
      all_goals refine LW 3 [] rfl rfl ?_
      all_goals first | refine LK rfl ?_ | (refine JB 26 rfl (fun gb => ?_) (fun gb => ?_) <;> (try simp only [ZZ] at gb) <;> first | (refine LR rfl (JG rfl rfl rfl) ?_) | (refine LK rfl ?_))
      all_goals refine LW 2 [1] rfl rfl ?_
      all_goals first | (refine Wm rfl ?_; refine Jc (by omega) (by omega) ?_) | refine LK rfl ?_
      all_goals refine LW 1 [] rfl rfl ?_
      all_goals first | (refine Wm rfl ?_; refine Jc (by omega) (by omega) ?_) | refine LK rfl ?_
      all_goals first | (obtain ⟨x, hx, hmx⟩ := Ve (show i - 1 < s.accts.length by omega); refine LR rfl (Jji (sz := 8) (a := i - 1) (b := i + 1) (m := 2) rfl hseg rfl rfl (by omega) (by omega) rfl rfl (by omega) (by omega) (by omega)) ?_; have hlast := Jru hx (show i - 1 + 1 = i by omega)) | refine LK rfl ?_
      all_goals first | (refine Je rfl rfl rfl (enters_of Tryz.func97 (by kernel_rfl) rfl) (Jor (xs := [x, a]) (show 2 ≤ 9223372036854775807 by decide) (hseg.two AcL.len hx ha (by omega))) oR ?_; refine Jw (congrArg Value.bool (Jea x a)) ?_) | refine LK rfl ?_
      all_goals (
       refine LW 2 [] rfl rfl (Jx 1 rfl (Zn 1 rfl ?_)); refine J0 rfl (fun g => ?_) (fun g => ?_)
       · try exact Bool.noConfusion g
         all_goals try simp only [ZZ] at g
         all_goals (
          refine JP 5 rfl ?_
          have hst : Vz (XG s.er i) a.er = 11 ∨ Vz (XG s.er i) a.er = Wy a.er := by unfold Vz; split <;> simp
          have hst : Vz (XG s.er i) a.er = 11 := Jrs (by assumption) hlast (by assumption)
          rw [hst] at hinv; refine JP 5 rfl ?_; refine J0 rfl (fun g => ?_) (fun g => ?_)
          try simp only [ZZ] at g
          refine Kn 12 rfl ?_; refine pT rfl rfl rfl fun w1 hs1 => ?_; refine ⟨?_, hs1.keep⟩; rw [hcg (by omega), ← hinv, if_pos (by simp_all)]; rfl
          try exact Bool.noConfusion g
          skip)
       · try simp only [ZZ] at g
         refine JP 3 rfl ?_
         have hst : Vz (XG s.er i) a.er = 11 ∨ Vz (XG s.er i) a.er = Wy a.er := by unfold Vz; split <;> simp
         have hst : Vz (XG s.er i) a.er = Wy a.er := Jrt (by first | exact Or.inl (by assumption) | exact Or.inr (Or.inl (by rw [show i = 0 by omega]; rfl)) | exact Or.inr (Or.inr ⟨_, hlast, by assumption⟩))
         rw [hst] at hinv; refine JP 5 rfl ?_; refine cD (fun g => ?_) fun g => ?_
         refine Kn 12 rfl ?_; refine pT rfl rfl rfl fun w1 hs1 => ?_; refine ⟨?_, hs1.keep⟩; rw [hcg (by omega), ← hinv, if_pos (by simp_all)]; rfl
         refine Jq 5 rfl ?_; refine Jc (by omega) (by omega) ?_; refine Jx 2 rfl ?_; refine Jz ?_; exact Jt (i + 1) ⟨by omega, by rw [if_neg (by simp_all)] at hinv; exact hinv⟩ (by omega) (lK rfl) (List.sublist_cons_self _ _) (fun _ _ h => h)
       skip)
    · refine Kn 11 rfl ?_; refine pT rfl rfl rfl fun w1 hs1 => ?_; refine ⟨?_, hs1.keep⟩; rw [hcg (by omega), ← hinv, List.drop_of_length_le (by rw [s.er_len]; omega)]; rfl
theorem Joy {R : Ji} {xs : List (BS × BS)} {row : QJ} (hl : xs.length ≤ 1000) (hrow : rowOk 2 xs.length (xs.flatMap Q3) row) {g : FuncId} {caps : List Value} {pr : BS × BS → Bool} (eg : Enters Tryz.prog g) (hg : ∀ x ∈ xs, PureR Tryz.prog g (vS x :: caps).toArray (.bool (pr x)) R) :
  PureT (α := { row' : QJ // rowOk 2 (xs.filter fun x => !pr x).length ((xs.filter fun x => !pr x).flatMap Q3) row' }) Tryz.prog 258 [JC xs.length row, .func (.func g) #[] caps.toArray].toArray (fun x => JC (xs.filter fun x => !pr x).length x.1) (JL 97 (xs.flatMap Q3) row) (fun x => JL 97 ((xs.filter fun x => !pr x).flatMap Q3) x.1) R := by
 have hseg := Kx (e := 97) hrow (by decide)
 have hV := WX xs.length row (fun h => by subst h; exact hrow.1)
 have hidx := Jcu (R := JL 97 (xs.flatMap Q3) row ++ R) (by omega) (hseg.mono fun q hq => List.mem_append_left _ hq) eg (fun x hx => (hg x hx).mono fun q hq => List.mem_append_right _ hq)
 rw [hV] at hidx
 obtain ⟨m, hm⟩ : ∃ m, m = Yd pr xs := ⟨_, rfl⟩
 rw [← hm] at hidx; refine Ju Tryz.func258 rfl rfl fun w => ?_; refine J9 ?_; refine Jq 9 rfl ?_; refine Je (Rl := JL 97 (xs.flatMap Q3) row ++ R) rfl rfl rfl (enters_of Tryz.func114 (by kernel_rfl) rfl) hidx (fun q hq => (List.mem_append.1 hq).elim Or.inl Or.inr) ?_; refine JN 10 rfl ?_; refine cD (fun h5 => ?_) fun h5 => ?_
 refine Kn 8 rfl ?_; refine pT rfl rfl rfl fun w1 hs1 => ?_
 (have hall := Jrx (pr := pr) (xs := xs) (by omega)
  rw [hall]
  exact ⟨⟨row, hrow⟩, rfl, hs1⟩)
 ·refine JP 4 rfl ?_
  obtain ⟨i, e0⟩ : ∃ i : Nat, m = (i : Int) := by
   rcases vD (pr := pr) (xs := xs) with ⟨h, _⟩ | ⟨i, _, h, _⟩
   ·unfold Yd at hm h; split at hm <;> split at h <;> first | omega | simp_all
   exact ⟨i, hm.trans h⟩
  subst e0
  obtain ⟨hil, hif⟩ := Jrw hm.symm
  obtain ⟨r, cap, sp, rfl⟩ := row_some hrow (by omega)
  obtain ⟨hr1, hr2⟩ := hrow
  obtain ⟨x0, hx0, _⟩ := Ve hil
  have hsplit : xs.flatMap Q3 ++ sp = ((xs.take (i + 1)).filter fun x => !pr x).flatMap Q3 ++ (Q3 x0 ++ ((xs.drop (i + 1)).flatMap Q3 ++ sp)) := by
   rw [hif, ← List.append_assoc (Q3 x0), ← Jbm hx0, ← List.append_assoc, ← List.flatMap_append, List.take_append_drop]
  change HC _ _ _ [(r, .cells (xs.flatMap Q3 ++ sp).toArray 97 (0, 0))] _ _ _; rw [hsplit]
  have hcap : xs.length ≤ cap := by omega
  have hi1 : ((xs.take (i + 1)).filter fun x => !pr x).length = i := by rw [hif, List.length_take]; omega
  refine Jq 3 rfl ?_; refine Jc (by omega) (by omega) ?_; refine JN 4 rfl ?_; refine J2 (σ := Nat × List Value) (fun s => s.1 ≤ xs.length ∧ ((xs.take s.1).filter fun x => !pr x).length < s.1 ∧ s.2.length + ((xs.take s.1).filter fun x => !pr x).length * 2 = s.1 * 2) (fun s => [(0, .slice (some ⟨r, 0, none⟩) xs.length cap), (1, .func (.func g) #[] caps.toArray), (5, .int .i64 (((xs.take s.1).filter fun x => !pr x).length : Nat)), (6, .int .i64 (s.1 : Int))]) (fun s => [(r, .cells (((xs.take s.1).filter fun x => !pr x).flatMap Q3 ++ (s.2 ++ ((xs.drop s.1).flatMap Q3 ++ sp))).toArray 97 (0, 0))]) (fun _ _ _ => True) (fun s => xs.length - s.1) (i + 1, Q3 x0) ⟨by simp only; omega, by simp only; omega, by simp only [Kj]; omega⟩ (.cons rfl (.cons rfl (.cons (by rw [hi1]; rfl) (.cons rfl .nil)))) (List.Sublist.refl _) (fun _ _ h => h) ?_; rintro ⟨j, G⟩ ⟨hj1, hj2, hG⟩; simp only at hj1 hj2 hG; change HC _ _ [(0, _), (1, _), (5, .int .i64 (((xs.take j).filter fun x => !pr x).length : Nat)), (6, .int .i64 (j : Int))] [(r, .cells (((xs.take j).filter fun x => !pr x).flatMap Q3 ++ (G ++ ((xs.drop j).flatMap Q3 ++ sp))).toArray 97 (0, 0))] _ _ _; refine Jq 5 rfl ?_; refine LR rfl (JQ rfl rfl) ?_; refine JN 3 rfl ?_; refine cD (fun h11 => ?_) fun h11 => ?_
  refine JP 5 rfl ?_
  obtain ⟨x, hx, hmx⟩ := Ve (show j < xs.length by omega)
  rw [Jbm hx, List.append_assoc (Q3 x)]; refine Jq 3 rfl ?_; refine LR rfl (JE (j := j) (m := 2) rfl rfl rfl rfl rfl (by omega) rfl) ?_; refine LR rfl (Jp (n := 2) (vs := Q3 x) rfl (kn 0 rfl) rfl rfl (by simp only [List.toList_toArray]; rw [← List.append_assoc, List.drop_left' (by rw [List.length_append, Ke Kj]; omega), List.take_left' (Kj x)]) rfl) ?_; refine LN rfl fun r1 => ?_; refine Jn (k := 0) (n := 2) (ys := Q3 x) rfl rfl rfl rfl rfl rfl rfl rfl rfl ?_; refine JF 5 rfl ?_; refine LR rfl (Jf (xs := Q3 x) (n := 2) rfl (kn 0 rfl) rfl rfl rfl) ?_; refine Je rfl rfl rfl eg (hg x hmx) oR ?_; refine JN 3 rfl ?_; refine cD (fun h15 => ?_) fun h15 => ?_
  refine JP 1 rfl ?_
  obtain ⟨M, G2, hcut, lM⟩ := cut (l := G ++ Q3 x) (a := 2) (by rw [List.length_append, Kj]; omega)
  have lG2 : G2.length = G.length := by have := congrArg List.length hcut; simp only [List.length_append, Kj] at this; omega
  have hkeep := XH (pr := fun x => !pr x) hx
  rw [if_pos (by simp_all)] at hkeep; refine Jq 3 rfl ?_; refine LR rfl (Jf (xs := Q3 x) (n := 2) rfl (kn 0 rfl) rfl rfl rfl) ?_; refine LR rfl (JE (j := ((xs.take j).filter fun x => !pr x).length) (m := 2) rfl rfl rfl rfl rfl (by omega) rfl) ?_; refine Qz (k := 1) (n := 2) (vs := (Q3 x).toArray) (cs' := (((xs.take j).filter fun x => !pr x).flatMap Q3 ++ (Q3 x ++ (G2 ++ ((xs.drop (j + 1)).flatMap Q3 ++ sp)))).toArray) rfl rfl rfl rfl rfl rfl rfl (by simp only [List.size_toArray, List.length_append, Ke Kj]; omega) (by apply Array.toList_inj.1; simp only [List.toList_toArray, Nat.zero_add]; rw [show G ++ (Q3 x ++ ((xs.drop (j + 1)).flatMap Q3 ++ sp)) = M ++ (G2 ++ ((xs.drop (j + 1)).flatMap Q3 ++ sp)) by rw [← List.append_assoc, hcut, List.append_assoc]]; exact WW (Ke Kj _) lM) rfl ?_; refine JF 5 rfl ?_; refine Jc (by omega) (by omega) ?_; refine JF 7 rfl ?_; refine Jc (by omega) (by omega) ?_; refine Jx 2 rfl ?_; refine Jz ?_; exact Jt (j + 1, G2) ⟨by simp only; omega, by simp only; rw [hkeep, List.length_append, List.length_singleton]; omega, by simp only; rw [hkeep, List.length_append, List.length_singleton]; omega⟩ (by simp only; omega) (.cons rfl (.cons rfl (.cons (by simp only [Qy]; rw [hkeep, List.length_append, List.length_singleton]; rfl) (.cons rfl .nil)))) (by simp only [hkeep, List.flatMap_append, List.flatMap_singleton, List.append_assoc]; exact List.sublist_cons_self _ _) (fun _ _ h => h)
  refine Jq 6 rfl ?_; refine Jc (by omega) (by omega) ?_; refine Jx 2 rfl ?_; refine Jz ?_
  (have hdel := XH (pr := fun x => !pr x) hx
   rw [if_neg (by simp_all), List.append_nil] at hdel
   exact Jt (j + 1, G ++ Q3 x) ⟨by simp only; omega, by simp only; rw [hdel]; omega, by simp only [List.length_append, Kj]; rw [hdel]; omega⟩ (by simp only; omega) (.cons rfl (.cons rfl (.cons (by simp only [Qy]; rw [hdel]; try rfl) (.cons rfl .nil)))) (by simp only [hdel, List.append_assoc]; exact List.sublist_cons_self _ _) (fun _ _ h => h))
  ·refine JP 6 rfl ?_
   have hjn : j = xs.length := by omega
   have hdrop : (xs.drop j).flatMap Q3 = [] := by rw [List.drop_of_length_le (by omega)]; rfl
   rw [hdrop, List.nil_append]; refine Jq 3 rfl ?_; refine LR rfl (JJ (sz := 2) (m := ((xs.take j).filter fun x => !pr x).length) (kl := some ((xs.take j).filter fun x => !pr x).length) (kh := none) (km := none) (q := xs.length) (z := cap) (off' := ((xs.take j).filter fun x => !pr x).length * 2) rfl rfl rfl ⟨_, rfl⟩ trivial trivial rfl rfl rfl (by omega) (by omega) (by omega) (fun _ => rfl) (by rw [if_neg (by omega)]; omega)) ?_; refine yh (k := 0) (sz := 2) rfl rfl rfl rfl rfl rfl rfl (by decide) (by simp only [List.size_toArray, List.length_append, Ke Kj, List.length_drop]; omega) (WW (P := ((xs.take j).filter fun x => !pr x).flatMap Q3) (M := G) (S := sp) (Ke Kj _) (by omega)) rfl ?_; refine JF 6 rfl ?_
   refine LR rfl (JJ (sz := 2) (q := ((xs.take j).filter fun x => !pr x).length) (kl := none) (kh := some ((xs.take j).filter fun x => !pr x).length) (km := none) (m := 0) (z := cap) (off' := 0) rfl rfl rfl trivial ⟨_, rfl⟩ trivial rfl rfl rfl (by omega) (by omega) (by omega) (fun h => by cases h) (by split <;> omega)) ?_; refine Jx 4 rfl ?_; refine pT rfl rfl rfl fun w1 hs1 => ?_
   (have hfull : (xs.take j).filter (fun x => !pr x) = xs.filter fun x => !pr x := by rw [hjn, List.take_length]
    rw [hfull] at hs1 ⊢; refine ⟨⟨some (r, cap, _), Ke Kj _, ?_⟩, rfl, hs1.weakL (by simp only [JL]; exact List.Sublist.refl _)⟩
    have hz : ∀ n, (Builtin.zeroCells (Value.agg #[Value.string ⟨#[]⟩, Value.string ⟨#[]⟩]).cells n).toList.length = n * 2 := fun n => by rw [Array.length_toList, size_zeroCells]; rfl
    rw [List.length_append, hz]
    have := List.length_filter_le (fun x => !pr x) xs
    omega)
theorem Jyp {R : Ji} {a : AcL} (ha : a.In R) (k v : BS) : PureT (α := AcRes R (VO a.er k v)) Tryz.prog 197 [a.val, J6 k, J6 v].toArray (fun x => x.val) [] (fun x => x.L) R := by
  have hlk := Jex ha
  have hl := ha.len
  have hseg := ha.seg
  have hset : VO a.er k v = if Wy a.er ≠ 0 then (a.er, Wy a.er) else if k.length ≠ 32 ∨ v.length ≠ 32 then (a.er, 2) else if (Kv a.slots k v).length > 16 then (a.er, 5) else (⟨a.addr, a.nonce, a.bal, a.code, Kv a.slots k v⟩, 0) := rfl
  refine Ju Tryz.func197 rfl rfl fun w => ?_; refine J9 ?_; refine Jq 2 rfl ?_; refine LN rfl fun r1 => ?_; refine LN rfl fun r2 => ?_; refine LN rfl fun r3 => ?_; refine JF 6 rfl ?_; refine LR rfl (Jp (vs := [_, _, _, _, _, _, _, _]) rfl (kn 2 rfl) rfl rfl rfl rfl) ?_; refine Je rfl rfl rfl Jvx hlk oR ?_; refine JN 9 rfl ?_; refine cD (fun g => ?_) fun g => ?_
  refine X6 4 [2] rfl rfl ?_
  refine LT 0 rfl rfl ?_; refine Jx 5 rfl ?_; refine Jh rfl rfl (.cons (J1 (vs := [_, _, _, _, _, _, _, _]) rfl (kn 0 rfl) rfl rfl) (.cons (Jj rfl) .nil)) (fun w1 hs1 => ?_); rw [hset, if_pos (by omega)]; exact ⟨⟨a, Wy a.er, [], ha, rfl⟩, rfl, hs1.weakL (List.nil_sublist _)⟩
  · refine Jq 5 rfl ?_; refine LR rfl (Jd rfl (kn 1 rfl) rfl rfl) ?_; refine LR rfl (Qe rfl rfl) ?_; refine LS 2 [] rfl rfl ?_
    refine JB 19 rfl (fun gb => ?_) (fun gb => ?_) <;> (try simp only [ZZ] at gb) <;> first | (refine QI rfl ?_) | (refine LK rfl ?_)
    all_goals first | refine LR rfl (Qe rfl rfl) ?_ | refine LK rfl ?_
    all_goals (
     refine LW 2 [] rfl rfl (Jx 1 rfl (Zn 1 rfl ?_)); refine J0 rfl (fun g => ?_) (fun g => ?_)
     try simp only [ZZ] at g
     refine Jq 2 rfl ?_; refine LR rfl (Jp (vs := [_, _, _, _, _, _, _, _]) rfl (kn 2 rfl) rfl rfl rfl rfl) ?_
     refine LT 0 rfl rfl ?_; refine Jx 5 rfl ?_; refine Jh rfl rfl (.cons (J1 (vs := [_, _, _, _, _, _, _, _]) rfl (kn 0 rfl) rfl rfl) (.cons (Jj rfl) .nil)) (fun w1 hs1 => ?_); rw [hset, if_neg (by omega), if_pos (by omega)]; exact ⟨⟨a, 2, [], ha, rfl⟩, rfl, hs1.weakL (List.nil_sublist _)⟩
     · try exact Bool.noConfusion g
       all_goals try simp only [ZZ] at g
       all_goals (
        refine JP 3 rfl ?_
        have hok : Kp Prod.fst a.slots ∧ a.slots.length ≤ 16 := ⟨(QE (a := a.er) (by omega)).2.2.1, (QE (a := a.er) (by omega)).2.2.2.2⟩
        have hinl : (KU Prod.fst (k, v) a.slots).length ≤ 17 := by
          have := hok.2
          rw [Jgc hok.1]
          split <;> omega
        refine X6 5 [2, 1] rfl rfl ?_; refine LR rfl (Jr (r := [_, _]) rfl rfl) ?_; refine Kq rfl rfl rfl (enters_of Tryz.func257 (by kernel_rfl) rfl) (Jte (by have := hok.2; omega) hseg hok.1 (k, v)) oR fun x => ?_
        obtain ⟨row, hrow⟩ := x
        refine Km List.perm_append_comm ?_; change HL _ _ ((30, JC (KU Prod.fst (k, v) a.slots).length row) :: _) ((r3, _) :: (r2, _) :: (r1, _) :: JL _ _ row) _ _ _ _; refine JF 7 rfl ?_; refine Jm rfl rfl rfl (enters_of Tryz.func116 (by kernel_rfl) rfl) Jou ?_; refine LR rfl (W7 rfl rfl) ?_; refine JN 2 rfl ?_; refine cD (fun g => ?_) fun g => ?_
        have hdC := Joy (R := [(r2, Obj.cells #[J6 k] 9 (0, 0))]) (caps := [.pointer (some ⟨r2, 0, none⟩)]) (pr := fun x => decide (x.1 = k)) (by omega) hrow (enters_of Tryz.func259 (by kernel_rfl) rfl) (fun x _ => Jwl List.mem_cons_self x)
        rw [Jeb, show jB Prod.fst k a.slots = Kv a.slots k v from by unfold Kv; rw [if_pos (by assumption)]] at hdC; refine Jq 2 rfl ?_; refine LR rfl (JA rfl rfl) ?_; refine Qk (T := JL _ _ row) (L0 := [(r3, _), (r2, _), (r1, _)]) (Rl := [(r2, Obj.cells #[J6 k] 9 (0, 0))]) (List.perm_append_comm (l₁ := [_, _, _])) rfl rfl rfl (enters_of Tryz.func258 (by kernel_rfl) rfl) hdC (fun q hq => Or.inl (by rw [List.mem_singleton.1 hq]; exact List.mem_cons_of_mem _ List.mem_cons_self)) fun x => ?_
        obtain ⟨row2, hrow2⟩ := x
        refine Km List.perm_append_comm ?_; change HL _ _ ((36, JC (Kv a.slots k v).length row2) :: _) ((r3, _) :: (r2, _) :: (r1, _) :: JL _ _ row2) _ _ _ _; refine JN 5 rfl ?_
        try rw [show KU Prod.fst (k, v) a.slots = Kv a.slots k v from by unfold Kv; rw [if_neg (by assumption)]] at hrow ⊢
        refine Jq 2 rfl ?_; refine LR rfl (WP rfl hrow2.zero rfl) ?_; refine JN 3 rfl ?_; refine cD (fun g => ?_) fun g => ?_
        refine Jq 2 rfl ?_; refine LR rfl (Jp (vs := [_, _, _, _, _, _, _, _]) rfl (kn 2 rfl) rfl rfl rfl rfl) ?_
        refine LT 0 rfl rfl ?_; refine Jx 5 rfl ?_; refine Jh rfl rfl (.cons (J1 (vs := [_, _, _, _, _, _, _, _]) rfl (kn 0 rfl) rfl rfl) (.cons (Jj rfl) .nil)) (fun w1 hs1 => ?_); rw [hset, if_neg (by omega), if_neg (by omega), if_pos (by omega)]; exact ⟨⟨a, 5, [], ha, rfl⟩, rfl, hs1.weakL (List.nil_sublist _)⟩
        refine Jq 6 rfl ?_; refine KF (k := 2) (cs' := #[J6 a.addr, uV a.nonce, uV a.bal.a, uV a.bal.b, uV a.bal.c, uV a.bal.d, J6 a.code, JC (Kv a.slots k v).length row2]) rfl rfl rfl rfl rfl (Yz _ _) rfl rfl rfl rfl ?_; refine JF 4 rfl ?_; refine LR rfl (Jp (vs := [_, _, _, _, _, _, _, _]) rfl (kn 2 rfl) rfl rfl rfl rfl) ?_; refine Qz (k := 0) (n := 8) (cs' := #[J6 a.addr, uV a.nonce, uV a.bal.a, uV a.bal.b, uV a.bal.c, uV a.bal.d, J6 a.code, JC (Kv a.slots k v).length row2]) (vs := #[_, _, _, _, _, _, _, _]) rfl rfl rfl rfl rfl rfl (by show (Qu (JC _ _) && true) = true; rw [Yz]; rfl) (by exact Nat.le_of_ble_eq_true rfl) rfl rfl ?_; refine Jx 4 rfl ?_; refine Jh rfl rfl (.cons (J1 (vs := [_, _, _, _, _, _, _, _]) rfl (kn 0 rfl) rfl rfl) (.cons (Jj rfl) .nil)) (fun w1 hs1 => ?_)
        (rw [hset, if_neg (by omega), if_neg (by omega), if_neg (by omega)]
         exact ⟨⟨⟨a.addr, a.nonce, a.bal, a.code, Kv a.slots k v, QR row2⟩, 0, JL 97 ((Kv a.slots k v).flatMap Q3) row2, Zp ha (by omega) (by omega) (by omega) (Kx hrow2 (by decide)), rfl⟩, by show Ending.returned _ = Ending.returned (Value.tuple #[Value.agg #[J6 a.addr, uV a.nonce, uV a.bal.a, uV a.bal.b, uV a.bal.c, uV a.bal.d, J6 a.code, KG (Kv a.slots k v).length (QR row2)], .int .i64 0]); rw [WX _ _ hrow2.zero]; rfl, hs1.weakL (List.sublist_append_right [_, _, _] _)⟩)
        refine JP 4 rfl ?_
        try rw [show KU Prod.fst (k, v) a.slots = Kv a.slots k v from by unfold Kv; rw [if_neg (by assumption)]] at hrow ⊢
        refine Jq 2 rfl ?_; refine LR rfl (WP rfl hrow.zero rfl) ?_; refine JN 3 rfl ?_; refine cD (fun g => ?_) fun g => ?_
        refine Jq 2 rfl ?_; refine LR rfl (Jp (vs := [_, _, _, _, _, _, _, _]) rfl (kn 2 rfl) rfl rfl rfl rfl) ?_
        refine LT 0 rfl rfl ?_; refine Jx 5 rfl ?_; refine Jh rfl rfl (.cons (J1 (vs := [_, _, _, _, _, _, _, _]) rfl (kn 0 rfl) rfl rfl) (.cons (Jj rfl) .nil)) (fun w1 hs1 => ?_); rw [hset, if_neg (by omega), if_neg (by omega), if_pos (by omega)]; exact ⟨⟨a, 5, [], ha, rfl⟩, rfl, hs1.weakL (List.nil_sublist _)⟩
        refine Jq 6 rfl ?_; refine KF (k := 2) (cs' := #[J6 a.addr, uV a.nonce, uV a.bal.a, uV a.bal.b, uV a.bal.c, uV a.bal.d, J6 a.code, JC (Kv a.slots k v).length row]) rfl rfl rfl rfl rfl (Yz _ _) rfl rfl rfl rfl ?_; refine JF 4 rfl ?_; refine LR rfl (Jp (vs := [_, _, _, _, _, _, _, _]) rfl (kn 2 rfl) rfl rfl rfl rfl) ?_; refine Qz (k := 0) (n := 8) (cs' := #[J6 a.addr, uV a.nonce, uV a.bal.a, uV a.bal.b, uV a.bal.c, uV a.bal.d, J6 a.code, JC (Kv a.slots k v).length row]) (vs := #[_, _, _, _, _, _, _, _]) rfl rfl rfl rfl rfl rfl (by show (Qu (JC _ _) && true) = true; rw [Yz]; rfl) (by exact Nat.le_of_ble_eq_true rfl) rfl rfl ?_; refine Jx 4 rfl ?_; refine Jh rfl rfl (.cons (J1 (vs := [_, _, _, _, _, _, _, _]) rfl (kn 0 rfl) rfl rfl) (.cons (Jj rfl) .nil)) (fun w1 hs1 => ?_)
        (rw [hset, if_neg (by omega), if_neg (by omega), if_neg (by omega)]
         exact ⟨⟨⟨a.addr, a.nonce, a.bal, a.code, Kv a.slots k v, QR row⟩, 0, JL 97 ((Kv a.slots k v).flatMap Q3) row, Zp ha (by omega) (by omega) (by omega) (Kx hrow (by decide)), rfl⟩, by show Ending.returned _ = Ending.returned (Value.tuple #[Value.agg #[J6 a.addr, uV a.nonce, uV a.bal.a, uV a.bal.b, uV a.bal.c, uV a.bal.d, J6 a.code, KG (Kv a.slots k v).length (QR row)], .int .i64 0]); rw [WX _ _ hrow.zero]; rfl, hs1.weakL (List.sublist_append_right [_, _, _] _)⟩)
        skip)
     skip)
theorem Jyq {R : Ji} {s : StL} {a : AcL} (hs : s.In R) (ha : a.In R) : PureT (α := StRes R (jE s.er a.er)) Tryz.prog 196 [s.val, a.val].toArray (fun x => x.val) [] (fun x => x.L) R := by
 have hc := YZ hs
 have hlk := Jex ha
 have hl := hs.len
 have hseg := hs.seg
 have hput : jE s.er a.er = if KT s.er ≠ 0 then (s.er, KT s.er) else if Wy a.er ≠ 0 then (s.er, Wy a.er) else if (KU AcE.addr a.er s.er).length > 32 then (s.er, 5) else (KU AcE.addr a.er s.er, 0) := rfl
 have hil : (KU AcE.addr a.er s.er).length = (KU AcL.addr a s.accts).length := by unfold StL.er; rw [← Jec, List.length_map]
 rw [hil] at hput; refine Ju Tryz.func196 rfl rfl fun w => ?_; refine J9 ?_; refine Jq 2 rfl ?_; refine LN rfl fun r1 => ?_; refine LN rfl fun r2 => ?_; refine LN rfl fun r3 => ?_; refine JF 6 rfl ?_; refine LR rfl (Jp (vs := [_]) rfl (kn 2 rfl) rfl rfl rfl rfl) ?_; refine Je rfl rfl rfl Jr3 hc oR ?_; refine JN 9 rfl ?_; refine cD (fun g => ?_) fun g => ?_
 refine X6 4 [2] rfl rfl ?_
 refine LT 0 rfl rfl ?_; refine Jx 5 rfl ?_; refine Jh rfl rfl (.cons (J1 (vs := [_]) rfl (kn 0 rfl) rfl rfl) (.cons (Jj rfl) .nil)) (fun w1 hs1 => ?_); rw [hput, if_pos (by omega)]; exact ⟨⟨s, KT s.er, [], hs, rfl⟩, rfl, hs1.weakL (List.nil_sublist _)⟩
 ·refine Jq 5 rfl ?_; refine LR rfl (Jp (vs := [_, _, _, _, _, _, _, _]) rfl (kn 1 rfl) rfl rfl rfl rfl) ?_; refine Je rfl rfl rfl Jvx hlk oR ?_; refine JN 9 rfl ?_; refine cD (fun g => ?_) fun g => ?_
  refine X6 4 [2] rfl rfl ?_
  refine LT 0 rfl rfl ?_; refine Jx 5 rfl ?_; refine Jh rfl rfl (.cons (J1 (vs := [_]) rfl (kn 0 rfl) rfl rfl) (.cons (Jj rfl) .nil)) (fun w1 hs1 => ?_); rw [hput, if_neg (by omega), if_pos (by omega)]; exact ⟨⟨s, Wy a.er, [], hs, rfl⟩, rfl, hs1.weakL (List.nil_sublist _)⟩
  ·refine JP 3 rfl ?_
   have hok : s.accts.length ≤ 32 ∧ Kp AcL.addr s.accts := by
    have h := Xx.1 (show KT s.er = 0 by omega)
    rw [s.er_len] at h; exact ⟨h.1, (Jjk s).2 h.2.2⟩
   refine X6 4 [2, 1] rfl rfl ?_; refine Kq rfl rfl rfl (enters_of Tryz.func256 (by kernel_rfl) rfl) (Jtd (by omega) hseg hok.2 a) oR fun x => ?_
   obtain ⟨row, hrow⟩ := x
   refine Km List.perm_append_comm ?_; change HL _ _ ((24, JC (KU AcL.addr a s.accts).length row) :: _) ((r3, _) :: (r2, _) :: (r1, _) :: JL _ _ row) _ _ _ _; refine JF 7 rfl ?_; refine LR rfl (WP rfl hrow.zero rfl) ?_; refine JN 3 rfl ?_; refine cD (fun g => ?_) fun g => ?_
   refine Jq 2 rfl ?_; refine LR rfl (Jp (vs := [_]) rfl (kn 2 rfl) rfl rfl rfl rfl) ?_
   refine LT 0 rfl rfl ?_; refine Jx 5 rfl ?_; refine Jh rfl rfl (.cons (J1 (vs := [_]) rfl (kn 0 rfl) rfl rfl) (.cons (Jj rfl) .nil)) (fun w1 hs1 => ?_); rw [hput, if_neg (by omega), if_neg (by omega), if_pos (by omega)]; exact ⟨⟨s, 5, [], hs, rfl⟩, rfl, hs1.weakL (List.nil_sublist _)⟩
   ·refine Jq 5 rfl ?_
    refine LR rfl (Jr (r := [JC _ row]) rfl (by cases row <;> rfl)) ?_; refine Qz (k := 0) (n := 1) (cs' := #[JC (KU AcL.addr a s.accts).length row]) (vs := #[_]) rfl rfl rfl rfl rfl rfl (by show (Qu (JC _ _) && true) = true; rw [Yz]; rfl) (by exact Nat.le_of_ble_eq_true rfl) rfl rfl ?_; refine Jx 4 rfl ?_; refine Jh rfl rfl (.cons (J1 (vs := [_]) rfl (kn 0 rfl) rfl rfl) (.cons (Jj rfl) .nil)) (fun w1 hs1 => ?_)
    (rw [hput, if_neg (by omega), if_neg (by omega), if_neg (by omega)]
     exact ⟨⟨⟨KU AcL.addr a s.accts, QR row⟩, 0, JL 48 ((KU AcL.addr a s.accts).flatMap AcL.cells) row, ⟨by show (KU AcL.addr a s.accts).length ≤ 9223372036854775807; omega, (Kx hrow (by decide)).mono fun q hq => List.mem_append_left _ hq, fun x hx => ((ZX hx).elim (fun e => by rw [e]; exact ha) (hs.accts x)).mono fun q hq => List.mem_append_right _ hq⟩, by unfold StL.er; rw [Jec]⟩, by show Ending.returned _ = Ending.returned (Value.tuple #[Value.agg #[KG (KU AcL.addr a s.accts).length (QR row)], .int .i64 0]); rw [WX _ _ hrow.zero]; rfl, hs1.weakL (List.sublist_append_right [_, _, _] _)⟩)
theorem Jez (f : Int) : decide (KV f) = (decide (f ≥ 0) && decide (f ≤ 5)) := by
 rw [Bool.eq_iff_iff, Bool.and_eq_true, decide_eq_true_eq, decide_eq_true_eq, decide_eq_true_eq]; exact Iff.rfl
theorem Jcw (f : Int) : Pure Tryz.prog 55 [.int .i64 f].toArray (.bool (decide (KV f))) := by
 rw [Jez]; refine Jk Tryz.func55 rfl rfl fun w => ?_; refine J9 ?_; refine Jq 10 rfl ?_
 refine JB 5 rfl (fun gb => ?_) (fun gb => ?_) <;> (try simp only [ZZ] at gb) <;> first | (refine QI rfl ?_) | (refine LK rfl ?_)
 all_goals (
  refine LW 3 [] rfl rfl (Jx 1 rfl (ZM 2 rfl ?_)); refine pT rfl rfl rfl fun w1 hs1 => ?_; refine ⟨?_, hs1.keep⟩
  simp_all [J8]
  all_goals first | done | omega | trace_state
  skip)
theorem Joz : WOk w40.l := w40_ok.wok
theorem Jti : Pure Tryz.prog 58 [].toArray (J6 Vc) := by
 rw [Jvs]; refine Jk Tryz.func58 rfl rfl fun w => ?_; refine J9 ?_; refine Jq 7 rfl ?_; refine LR rfl (Jr (r := [_, _, _, _]) rfl rfl) ?_; refine Jm rfl rfl rfl Jbr (Q8 Joz) ?_; refine Jx 4 rfl ?_; refine pT rfl rfl rfl fun w1 hs1 => ?_; exact ⟨rfl, hs1.keep⟩
theorem Jwm {n : Nat} (h : VF n) : Pure Tryz.prog 61 [uV n].toArray (J6 (Yx n)) := by
 refine Jk Tryz.func61 rfl rfl fun w => ?_; refine J9 ?_; refine Jq 8 rfl ?_; refine Jm rfl rfl rfl qg (V2 n) ?_; refine Jm rfl rfl rfl Jbr (Q8 (Jd6 h).wok) ?_; refine Jx 4 rfl ?_; refine pT rfl rfl rfl fun w1 hs1 => ?_; exact ⟨rfl, hs1.keep⟩
theorem P_Addr0 : Pure Tryz.prog 19 [.int .i64 0].toArray (J6 A0) := by
 refine Jk Tryz.func19 rfl rfl fun w => ?_; refine J9 ?_; refine JP 16 rfl ?_; refine J0 rfl (fun g => ?_) (fun g => ?_)
 try exact Bool.noConfusion g
 ·try simp only [ZZ] at g
  refine Jq 4 rfl ?_; refine W6 (n := 20) (b := 1) rfl rfl rfl rfl rfl rfl rfl rfl rfl (by decide) (by decide) fun r1 => ?_; refine JF 9 rfl ?_; refine Jc (by omega) (by omega) ?_; refine Wm rfl (qZ (by omega) (by omega) (LR rfl (JE (j := 0) (m := 1) rfl rfl rfl rfl rfl (by decide) rfl) ?_)); refine LT 0 rfl rfl ?_; refine LR rfl (JE (j := 19) (m := 1) rfl rfl rfl rfl rfl (by decide) rfl) ?_; refine LT 0 rfl rfl ?_; refine JF 5 rfl ?_; refine LR rfl (Qt (b := A0) (row := some (r1, 20, [])) (e := 5) rfl ⟨rfl, rfl⟩ (fun p hp => .inl (by rw [List.mem_singleton.1 hp]; exact List.mem_cons_self)) rfl rfl rfl) ?_; refine Jx 4 rfl ?_; refine pT rfl rfl rfl fun w1 hs1 => ?_; exact ⟨rfl, hs1.keep⟩
theorem Jtj : Pure Tryz.prog 19 [.int .i64 1].toArray (J6 A1) := by
 refine Jk Tryz.func19 rfl rfl fun w => ?_; refine J9 ?_; refine JP 16 rfl ?_; refine J0 rfl (fun g => ?_) (fun g => ?_)
 try exact Bool.noConfusion g
 ·try simp only [ZZ] at g
  refine Jq 4 rfl ?_; refine W6 (n := 20) (b := 1) rfl rfl rfl rfl rfl rfl rfl rfl rfl (by decide) (by decide) fun r1 => ?_; refine JF 9 rfl ?_; refine Jc (by omega) (by omega) ?_; refine Wm rfl (qZ (by omega) (by omega) (LR rfl (JE (j := 0) (m := 1) rfl rfl rfl rfl rfl (by decide) rfl) ?_)); refine LT 0 rfl rfl ?_; refine LR rfl (JE (j := 19) (m := 1) rfl rfl rfl rfl rfl (by decide) rfl) ?_; refine LT 0 rfl rfl ?_; refine JF 5 rfl ?_; refine LR rfl (Qt (b := A1) (row := some (r1, 20, [])) (e := 5) rfl ⟨rfl, rfl⟩ (fun p hp => .inl (by rw [List.mem_singleton.1 hp]; exact List.mem_cons_self)) rfl rfl rfl) ?_; refine Jx 4 rfl ?_; refine pT rfl rfl rfl fun w1 hs1 => ?_; exact ⟨rfl, hs1.keep⟩
theorem Jtk {f : Int} (h : f < 0 ∨ f > 1) : Pure Tryz.prog 19 [.int .i64 f].toArray (J6 []) := by
  refine Jk Tryz.func19 rfl rfl fun w => ?_; refine J9 ?_; refine Jq 11 rfl ?_
  refine JB 6 rfl (fun gb => ?_) (fun gb => ?_) <;> (try simp only [ZZ] at gb) <;> first | (refine QI rfl ?_) | (refine LK rfl ?_)
  all_goals (
   refine LW 2 [] rfl rfl (Jx 1 rfl (Zn 1 rfl ?_)); refine J0 rfl (fun g => ?_) (fun g => ?_)
   try simp only [ZZ] at g
   refine Kn 7 rfl ?_; refine pT rfl rfl rfl fun w1 hs1 => ?_
   first | exact ⟨rfl, hs1.keep⟩ | (exfalso; omega)
   · try exact Bool.noConfusion g
     all_goals try simp only [ZZ] at g
     all_goals (
      refine Jq 4 rfl ?_
      exfalso; omega
      skip)
   skip)
theorem Jo0 (f : Int) : Pure Tryz.prog 19 [.int .i64 f].toArray (J6 (V0 f)) := by
 by_cases h0 : f = 0
 ·subst h0; exact P_Addr0
 ·by_cases h1 : f = 1
  ·subst h1; exact Jtj
  ·have h : f < 0 ∨ f > 1 := by omega
   have e : V0 f = [] := by unfold V0; rw [if_pos h]
   rw [e]; exact Jtk h
def cdC (p : Int × BS) : List Value := [.int .i64 p.1, J6 p.2]
theorem Jhw (p : Int × BS) : (cdC p).length = 2 := rfl
def codes0 : List (Int × BS) := [(0, cOne), (1, Jx1), (3, Jmf), (5, Jur)]
def codes1 : List (Int × BS) := [(2, Jx2)]
def XQ (f : Int) : List (Int × BS) → BS × Bool → BS × Bool
 | [], acc => acc
 | p :: l, acc => XQ f l (if f ≥ p.1 then (p.2, true) else acc)
theorem qn {f : Int} (h : KV f) : XQ f codes0 ([], false) = Qd f 0 ∧ XQ f codes1 ([], false) = Qd f 1 := by
 rcases Yc h with rfl | rfl | rfl | rfl | rfl | rfl <;> exact ⟨by decide +kernel, by decide +kernel⟩
theorem wg {f : Int} {p : Int × BS} : ∀ (l : List (Int × BS)) (acc : BS × Bool), XQ f (l ++ [p]) acc = if f ≥ p.1 then (p.2, true) else XQ f l acc
 | [], acc => rfl
 | q :: l, acc => by rw [List.cons_append, XQ, XQ, wg l]
theorem QV {f : Int} {l : List (Int × BS)} {i : Nat} {p : Int × BS} (h : l[i]? = some p) : XQ f (l.take (i + 1)) ([], false) = if f ≥ p.1 then (p.2, true) else XQ f (l.take i) ([], false) := by
 obtain ⟨h1, h2⟩ := List.getElem?_eq_some_iff.1 h
 rw [List.take_succ_eq_append_getElem h1, h2, wg]
theorem Jhx : PureE (α := Nat × Nat) Tryz.prog 111 [].toArray (fun p => .agg #[.slice (some ⟨p.1, 0, none⟩) 4 4, .slice (some ⟨p.2, 0, none⟩) 1 1]) (fun p => [(p.2, .cells (codes1.flatMap cdC).toArray 160 (0, 0)), (p.1, .cells (codes0.flatMap cdC).toArray 160 (0, 0))]) := by
 refine JW Tryz.func111 rfl rfl fun w => ?_; refine J9 ?_; refine Jq 2 rfl ?_; refine LN rfl fun r1 => ?_; refine JF 4 rfl ?_; refine LR rfl (Jr (r := [_, _]) rfl rfl) ?_; refine LR rfl (Jr (r := [_, _]) rfl rfl) ?_; refine LR rfl (Jr (r := [_, _]) rfl rfl) ?_; refine LR rfl (Jr (r := [_, _]) rfl rfl) ?_; refine JH (vs := [_, _, _, _]) (zs := [_, _, _, _, _, _, _, _]) (r := [_, _, _, _, _, _, _, _]) rfl rfl rfl rfl rfl rfl rfl rfl rfl (by rw [Kf]; exact rfl) rfl fun r2 => ?_; refine LR rfl (Jr (r := [_, _]) rfl rfl) ?_; refine JH (vs := [_]) (zs := [_, _]) (r := [_, _]) rfl rfl rfl rfl rfl rfl rfl rfl rfl (by rw [Kf]; exact rfl) rfl fun r3 => ?_; refine LR rfl (Jr (r := [_, _]) rfl rfl) ?_
 refine LT 2 rfl rfl ?_; refine Jx 3 rfl ?_; refine Jh rfl rfl (.cons (J1 (vs := [_, _]) rfl (kn 2 rfl) rfl rfl) .nil) (fun w1 hs1 => ?_); exact ⟨(r2, r3), rfl, hs1.weakL (.cons_cons _ (.cons_cons _ (List.nil_sublist _)))⟩
theorem Jyr {f : Int} (hf : KV f) : Pure Tryz.prog 56 [.int .i64 f, .int .i64 0].toArray (.tuple #[J6 (Qd f 0).1, .bool (Qd f 0).2]) := by
 refine Jk Tryz.func56 rfl rfl fun w => ?_; refine J9 ?_; refine Jq 15 rfl ?_; refine JR rfl rfl rfl (enters_of Tryz.func111 (by kernel_rfl) rfl) Jhx fun pp => ?_
 obtain ⟨p1, p2⟩ := pp
 change HL _ _ _ [(p2, _), (p1, _)] _ _ _ _; refine QI rfl (LR rfl (qY (j := 0) rfl rfl rfl rfl rfl rfl (by decide) rfl) (LR rfl (JQ rfl rfl) ?_)); refine JN 4 rfl ?_; refine J2 (σ := Nat) (fun i => i ≤ 4) (fun i => [(0, .int .i64 f), (6, J6 (XQ f (codes0.take i) ([], false)).1), (7, .bool (XQ f (codes0.take i) ([], false)).2), (12, .slice (some ⟨p1, 0, none⟩) 4 4), (13, .int .i64 4), (14, .int .i64 (i : Int))]) (fun _ => [(p2, .cells (codes1.flatMap cdC).toArray 160 (0, 0)), (p1, .cells (codes0.flatMap cdC).toArray 160 (0, 0))]) (fun _ _ _ => True) (fun i => 4 - i) 0 (Nat.zero_le _) (lK rfl) (List.Sublist.refl _) (fun _ _ h => h) ?_; intro i hi1; refine JP 6 rfl ?_; refine cD (fun g => ?_) fun g => ?_
 refine JP 5 rfl ?_
 obtain ⟨p, hp, -⟩ := Ve (l := codes0) (show i < 4 by omega)
 refine Jq 1 rfl ?_; refine LR rfl (JE (j := i) (m := 2) (off' := i * 2) rfl rfl rfl rfl rfl (by omega) (by omega)) ?_; refine LR rfl (Jp (n := 2) (vs := cdC p) rfl (kn 1 rfl) rfl rfl (VV Jhw hp) rfl) ?_; refine LN rfl fun r1 => ?_
 refine LT 0 rfl rfl ?_; refine Goc 10 [0] rfl rfl ?_; refine cD (fun g => ?_) fun g => ?_
 refine X6 10 [0] rfl rfl ?_; refine Jc (by omega) (by omega) ?_; refine Jx 2 rfl ?_; refine Jz ?_; exact Jt (i + 1) (by omega) (by omega) (.cons rfl (.cons (by rw [QV hp, if_pos (by omega)]; rfl) (.cons (by rw [QV hp, if_pos (by omega)]; rfl) (lK rfl)))) (List.sublist_cons_self _ _) (fun _ _ h => h)
 refine Jq 5 rfl ?_; refine Jc (by omega) (by omega) ?_; refine Jx 2 rfl ?_; refine Jz ?_; exact Jt (i + 1) (by omega) (by omega) (.cons rfl (.cons (by rw [QV hp, if_neg (by omega)]; rfl) (.cons (by rw [QV hp, if_neg (by omega)]; rfl) (lK rfl)))) (List.sublist_cons_self _ _) (fun _ _ h => h)
 ·refine Kn 14 rfl ?_; refine Jh rfl rfl (.cons (Jj rfl) (.cons (Jj rfl) .nil)) (fun w1 hs1 => ?_); refine ⟨?_, hs1.keep⟩
  obtain rfl : i = 4 := by omega
  rw [← (qn hf).1]
  rfl
theorem Jys {f : Int} (hf : KV f) : Pure Tryz.prog 56 [.int .i64 f, .int .i64 1].toArray (.tuple #[J6 (Qd f 1).1, .bool (Qd f 1).2]) := by
 refine Jk Tryz.func56 rfl rfl fun w => ?_; refine J9 ?_; refine Jq 15 rfl ?_; refine JR rfl rfl rfl (enters_of Tryz.func111 (by kernel_rfl) rfl) Jhx fun pp => ?_
 obtain ⟨p1, p2⟩ := pp
 change HL _ _ _ [(p2, _), (p1, _)] _ _ _ _; refine QI rfl (LR rfl (qY (j := 1) rfl rfl rfl rfl rfl rfl (by decide) rfl) (LR rfl (JQ rfl rfl) ?_)); refine JN 4 rfl ?_; refine J2 (σ := Nat) (fun i => i ≤ 1) (fun i => [(0, .int .i64 f), (6, J6 (XQ f (codes1.take i) ([], false)).1), (7, .bool (XQ f (codes1.take i) ([], false)).2), (12, .slice (some ⟨p2, 0, none⟩) 1 1), (13, .int .i64 1), (14, .int .i64 (i : Int))]) (fun _ => [(p2, .cells (codes1.flatMap cdC).toArray 160 (0, 0)), (p1, .cells (codes0.flatMap cdC).toArray 160 (0, 0))]) (fun _ _ _ => True) (fun i => 1 - i) 0 (Nat.zero_le _) (lK rfl) (List.Sublist.refl _) (fun _ _ h => h) ?_; intro i hi1; refine JP 6 rfl ?_; refine cD (fun g => ?_) fun g => ?_
 refine JP 5 rfl ?_
 obtain ⟨p, hp, -⟩ := Ve (l := codes1) (show i < 1 by omega)
 refine Jq 1 rfl ?_; refine LR rfl (JE (j := i) (m := 2) (off' := i * 2) rfl rfl rfl rfl rfl (by omega) (by omega)) ?_; refine LR rfl (Jp (n := 2) (vs := cdC p) rfl (kn 0 rfl) rfl rfl (VV Jhw hp) rfl) ?_; refine LN rfl fun r1 => ?_
 refine LT 0 rfl rfl ?_; refine Goc 10 [0] rfl rfl ?_; refine cD (fun g => ?_) fun g => ?_
 refine X6 10 [0] rfl rfl ?_; refine Jc (by omega) (by omega) ?_; refine Jx 2 rfl ?_; refine Jz ?_; exact Jt (i + 1) (by omega) (by omega) (.cons rfl (.cons (by rw [QV hp, if_pos (by omega)]; rfl) (.cons (by rw [QV hp, if_pos (by omega)]; rfl) (lK rfl)))) (List.sublist_cons_self _ _) (fun _ _ h => h)
 refine Jq 5 rfl ?_; refine Jc (by omega) (by omega) ?_; refine Jx 2 rfl ?_; refine Jz ?_; exact Jt (i + 1) (by omega) (by omega) (.cons rfl (.cons (by rw [QV hp, if_neg (by omega)]; rfl) (.cons (by rw [QV hp, if_neg (by omega)]; rfl) (lK rfl)))) (List.sublist_cons_self _ _) (fun _ _ h => h)
 ·refine Kn 14 rfl ?_; refine Jh rfl rfl (.cons (Jj rfl) (.cons (Jj rfl) .nil)) (fun w1 hs1 => ?_); refine ⟨?_, hs1.keep⟩
  obtain rfl : i = 1 := by omega
  rw [← (qn hf).2]
  rfl
def Qf (r o : Nat) : Value := .pointer (some ⟨r, o, none⟩)
theorem jM (r : Nat) : Pure Tryz.prog 179 [Qf r 0].toArray (Qf r 14) := by
 refine Jk Tryz.func179 rfl rfl fun w => ?_; refine J9 ?_; refine Kn 14 rfl ?_; refine pT rfl rfl rfl fun w1 hs1 => ?_; exact ⟨rfl, hs1.keep⟩
theorem Jo1 (r : Nat) : Pure Tryz.prog 181 [Qf r 0].toArray (Qf r 0) := by
 refine Jk Tryz.func181 rfl rfl fun w => ?_; refine J9 ?_; refine Kn 14 rfl ?_; refine pT rfl rfl rfl fun w1 hs1 => ?_; exact ⟨rfl, hs1.keep⟩
theorem Jo2 (r : Nat) : Pure Tryz.prog 182 [Qf r 0].toArray (Qf r 1) := by
 refine Jk Tryz.func182 rfl rfl fun w => ?_; refine J9 ?_; refine Kn 14 rfl ?_; refine pT rfl rfl rfl fun w1 hs1 => ?_; exact ⟨rfl, hs1.keep⟩
theorem Jo3 (r : Nat) : Pure Tryz.prog 184 [Qf r 0].toArray (Qf r 2) := by
 refine Jk Tryz.func184 rfl rfl fun w => ?_; refine J9 ?_; refine Kn 14 rfl ?_; refine pT rfl rfl rfl fun w1 hs1 => ?_; exact ⟨rfl, hs1.keep⟩
theorem Jo4 (r : Nat) : Pure Tryz.prog 185 [Qf r 0].toArray (Qf r 10) := by
 refine Jk Tryz.func185 rfl rfl fun w => ?_; refine J9 ?_; refine Kn 14 rfl ?_; refine pT rfl rfl rfl fun w1 hs1 => ?_; exact ⟨rfl, hs1.keep⟩
theorem Jo5 (r : Nat) : Pure Tryz.prog 186 [Qf r 0].toArray (Qf r 15) := by
 refine Jk Tryz.func186 rfl rfl fun w => ?_; refine J9 ?_; refine Kn 14 rfl ?_; refine pT rfl rfl rfl fun w1 hs1 => ?_; exact ⟨rfl, hs1.keep⟩
theorem Jo6 (r : Nat) : Pure Tryz.prog 187 [Qf r 0].toArray (Qf r 6) := by
 refine Jk Tryz.func187 rfl rfl fun w => ?_; refine J9 ?_; refine Kn 14 rfl ?_; refine pT rfl rfl rfl fun w1 hs1 => ?_; exact ⟨rfl, hs1.keep⟩
theorem xw (r : Nat) : Pure Tryz.prog 188 [Qf r 0].toArray (Qf r 16) := by
 refine Jk Tryz.func188 rfl rfl fun w => ?_; refine J9 ?_; refine Kn 14 rfl ?_; refine pT rfl rfl rfl fun w1 hs1 => ?_; exact ⟨rfl, hs1.keep⟩
theorem Jhy {R : Ji} {b1 b2 e1 e2 : Nat} {gl gh : FuncId} {ol oh x y : Nat} (egl : Enters Tryz.prog gl) (egh : Enters Tryz.prog gh) (hgl : ∀ ρ, Pure Tryz.prog gl [Qf ρ 0].toArray (Qf ρ ol)) (hgh : ∀ ρ, Pure Tryz.prog gh [Qf ρ 0].toArray (Qf ρ oh))
  (h1 : (b1, Obj.cells #[fV gl] e1 (0, 0)) ∈ R) (h2 : (b2, Obj.cells #[fV gh] e2 (0, 0)) ∈ R) (r : Rec) (hx : WF r.cells ol = some (uV x)) (hy : WF r.cells oh = some (uV y)) : PureR Tryz.prog 239 [r.val, Qf b1 0, Qf b2 0].toArray (wV [x, y, 0, 0]) R := by
 refine Ja Tryz.func239 rfl rfl fun w => ?_; refine J9 ?_; refine Jq 2 rfl ?_; refine Kk (cs := r.cells.toArray) rfl rfl rfl rfl fun rb => ?_; refine LN rfl fun r1 => ?_; refine JF 4 rfl ?_; refine LR rfl (Jd rfl (Or.inr h1) rfl rfl) ?_; refine Jm rfl rfl rfl egl (hgl rb) ?_; refine Wm rfl (LR rfl (Jd rfl (kn 1 rfl) rfl hx) (Jm rfl rfl rfl qg (V2 x) ?_)); refine LN rfl fun r2 => ?_
 refine LT 0 rfl rfl ?_; refine JF 5 rfl ?_; refine LR rfl (Jd rfl (Or.inr h2) rfl rfl) ?_; refine JN 3 rfl ?_; refine J0 rfl (fun g => ?_) (fun g => ?_)
 try simp only [ZZ] at g
 refine Jq 1 rfl ?_; refine LR rfl (Jd rfl (Or.inr h2) rfl rfl) ?_; refine Jm rfl rfl rfl egh (hgh rb) ?_; refine Wm rfl (LR rfl (Jd rfl (kn 2 rfl) rfl hy) ?_)
 refine LR rfl (JI (j := 1) rfl rfl rfl rfl rfl (by first | decide | omega) (by first | (simp only [Nat.zero_add, Nat.reduceAdd, Nat.reduceMul, Nat.zero_mul, Nat.mul_one, Nat.add_zero]; exact rfl) | exact rfl)) ?_
 refine LT 0 rfl rfl ?_; refine JF 4 rfl ?_; refine LR rfl (Jp (vs := [_, _, _, _]) rfl (kn 0 rfl) rfl rfl rfl rfl) ?_
 refine LT 1 rfl rfl ?_; refine Jx 3 rfl ?_; refine Jh rfl rfl (.cons (J1 (vs := [_, _, _, _]) rfl (kn 1 rfl) rfl rfl) .nil) (fun w1 hs1 => ?_); exact ⟨rfl, hs1.keep⟩
 ·try exact Bool.noConfusion g
theorem Jhz {R : Ji} {b1 b2 e1 e2 : Nat} {gl gh : FuncId} {ol oh x y : Nat} (egl : Enters Tryz.prog gl) (egh : Enters Tryz.prog gh) (hgl : ∀ ρ, Pure Tryz.prog gl [Qf ρ 0].toArray (Qf ρ ol)) (hgh : ∀ ρ, Pure Tryz.prog gh [Qf ρ 0].toArray (Qf ρ oh))
  (h1 : (b1, Obj.cells #[fV gl] e1 (0, 0)) ∈ R) (h2 : (b2, Obj.cells #[.nilFunc] e2 (0, 0)) ∈ R) (r : Rec) (hx : WF r.cells ol = some (uV x)) (hy : WF r.cells oh = some (uV y)) : PureR Tryz.prog 239 [r.val, Qf b1 0, Qf b2 0].toArray (wV [x, 0, 0, 0]) R := by
 refine Ja Tryz.func239 rfl rfl fun w => ?_; refine J9 ?_; refine Jq 2 rfl ?_; refine Kk (cs := r.cells.toArray) rfl rfl rfl rfl fun rb => ?_; refine LN rfl fun r1 => ?_; refine JF 4 rfl ?_; refine LR rfl (Jd rfl (Or.inr h1) rfl rfl) ?_; refine Jm rfl rfl rfl egl (hgl rb) ?_; refine Wm rfl (LR rfl (Jd rfl (kn 1 rfl) rfl hx) (Jm rfl rfl rfl qg (V2 x) ?_)); refine LN rfl fun r2 => ?_
 refine LT 0 rfl rfl ?_; refine JF 5 rfl ?_; refine LR rfl (Jd rfl (Or.inr h2) rfl rfl) ?_; refine JN 3 rfl ?_; refine J0 rfl (fun g => ?_) (fun g => ?_)
 try exact Bool.noConfusion g
 ·try simp only [ZZ] at g
  refine Jq 4 rfl ?_; refine LR rfl (Jp (vs := [_, _, _, _]) rfl (kn 0 rfl) rfl rfl rfl rfl) ?_
  refine LT 1 rfl rfl ?_; refine Jx 3 rfl ?_; refine Jh rfl rfl (.cons (J1 (vs := [_, _, _, _]) rfl (kn 1 rfl) rfl rfl) .nil) (fun w1 hs1 => ?_); exact ⟨rfl, hs1.keep⟩
theorem xx {R : Ji} {b1 e1 : Nat} {g : FuncId} {o : Nat} {x : W4} (eg : Enters Tryz.prog g) (hg : ∀ ρ, Pure Tryz.prog g [Qf ρ 0].toArray (Qf ρ o)) (h1 : (b1, Obj.cells #[fV g] e1 (0, 0)) ∈ R) (r : Rec) (hx : (r.cells.drop o).take 4 = x.l.map uV) : PureR Tryz.prog 241 [r.val, Qf b1 0].toArray (wV x.l) R := by
 refine Ja Tryz.func241 rfl rfl fun w => ?_; refine J9 ?_; refine Jq 2 rfl ?_; refine Kk (cs := r.cells.toArray) rfl rfl rfl rfl fun rb => ?_; refine LN rfl fun r1 => ?_; refine JF 4 rfl ?_; refine LR rfl (Jd rfl (Or.inr h1) rfl rfl) ?_; refine Jm rfl rfl rfl eg (hg rb) ?_; refine Wm rfl (LR rfl (Jp (n := 4) (vs := x.l.map uV) rfl (kn 1 rfl) rfl rfl hx rfl) ?_)
 refine LT 0 rfl rfl ?_; refine Jx 3 rfl ?_; refine Jh rfl rfl (.cons (J1 (vs := [_, _, _, _]) rfl (kn 0 rfl) rfl rfl) .nil) (fun w1 hs1 => ?_); exact ⟨rfl, hs1.keep⟩
theorem Jh0 {R : Ji} {ρ b1 b2 e1 e2 : Nat} {gl gh : FuncId} {ol oh : Nat} (egl : Enters Tryz.prog gl) (egh : Enters Tryz.prog gh) (hgl : ∀ ρ, Pure Tryz.prog gl [Qf ρ 0].toArray (Qf ρ ol)) (hgh : ∀ ρ, Pure Tryz.prog gh [Qf ρ 0].toArray (Qf ρ oh))
  (h1 : (b1, Obj.cells #[fV gl] e1 (0, 0)) ∈ R) (h2 : (b2, Obj.cells #[fV gh] e2 (0, 0)) ∈ R) (r : Rec) (w4 : W4) (ho : ol < 17) (ho2 : oh < 17) : PureT (α := Unit) Tryz.prog 240 [Qf ρ 0, wV w4.l, Qf b1 0, Qf b2 0].toArray (fun _ => .tuple #[]) [(ρ, .cells r.cells.toArray 29 (0, 0))] (fun _ => [(ρ, .cells ((r.cells.set ol (uV w4.a)).set oh (uV w4.b)).toArray 29 (0, 0))]) R := by
 refine Ju Tryz.func240 rfl rfl fun w => ?_; refine J9 ?_; refine Jq 2 rfl ?_; refine LN rfl fun r1 => ?_; refine JN 3 rfl ?_; refine JK 5 (by kernel_rfl) (by kernel_rfl) ?_; refine Jb rfl rfl rfl (Jd rfl (Or.inr h1) rfl rfl) ?_; refine Jb rfl rfl rfl (Jg rfl) ?_; refine Ku rfl rfl rfl egl (hgl ρ) ?_
 refine Jb rfl rfl rfl (JI (j := 0) rfl rfl rfl rfl rfl (by first | decide | omega) (by first | (simp only [Nat.zero_add, Nat.reduceAdd, Nat.reduceMul, Nat.zero_mul, Nat.mul_one, Nat.add_zero]; exact rfl) | exact rfl)) ?_; refine Jb rfl rfl rfl (Jd rfl (kn 0 rfl) rfl rfl) ?_; refine JY ?_; refine Wm rfl ?_; refine KF (k := 1) (cs' := (r.cells.set ol (uV w4.a)).toArray) rfl rfl rfl rfl rfl rfl (by rw [List.getElem?_toArray, List.getElem?_eq_getElem (show ol < r.cells.length from ho)]; rfl) rfl (by simp) rfl ?_; refine JF 4 rfl ?_; refine LR rfl (Jd rfl (Or.inr h2) rfl rfl) ?_; refine JN 3 rfl ?_; refine J0 rfl (fun g => ?_) (fun g => ?_)
 try simp only [ZZ] at g
 refine JK 5 (by kernel_rfl) (by kernel_rfl) ?_; refine Jb rfl rfl rfl (Jd rfl (Or.inr h2) rfl rfl) ?_; refine Jb rfl rfl rfl (Jg rfl) ?_; refine Ku rfl rfl rfl egh (hgh ρ) ?_
 refine Jb rfl rfl rfl (JI (j := 1) rfl rfl rfl rfl rfl (by first | decide | omega) (by first | (simp only [Nat.zero_add, Nat.reduceAdd, Nat.reduceMul, Nat.zero_mul, Nat.mul_one, Nat.add_zero]; exact rfl) | exact rfl)) ?_; refine Jb rfl rfl rfl (Jd rfl (kn 0 rfl) rfl rfl) ?_; refine JY ?_; refine Wm rfl ?_; refine KF (k := 1) (cs' := ((r.cells.set ol (uV w4.a)).set oh (uV w4.b)).toArray) rfl rfl rfl rfl rfl rfl (by rw [List.getElem?_toArray, List.getElem?_eq_getElem (show oh < (r.cells.set ol (uV w4.a)).length from by rw [List.length_set]; exact ho2)]; rfl) rfl (by simp) rfl ?_; refine Jx 1 rfl ?_; refine Kh rfl rfl .nil (fun w1 hs1 => ?_); exact ⟨(), rfl, hs1.weakL (List.sublist_cons_self _ _)⟩
 ·try exact Bool.noConfusion g
theorem Jh1 {R : Ji} {ρ b1 b2 e1 e2 : Nat} {gl gh : FuncId} {ol oh : Nat} (egl : Enters Tryz.prog gl) (egh : Enters Tryz.prog gh) (hgl : ∀ ρ, Pure Tryz.prog gl [Qf ρ 0].toArray (Qf ρ ol)) (hgh : ∀ ρ, Pure Tryz.prog gh [Qf ρ 0].toArray (Qf ρ oh))
  (h1 : (b1, Obj.cells #[fV gl] e1 (0, 0)) ∈ R) (h2 : (b2, Obj.cells #[.nilFunc] e2 (0, 0)) ∈ R) (r : Rec) (w4 : W4) (ho : ol < 17) (ho2 : oh < 17) : PureT (α := Unit) Tryz.prog 240 [Qf ρ 0, wV w4.l, Qf b1 0, Qf b2 0].toArray (fun _ => .tuple #[]) [(ρ, .cells r.cells.toArray 29 (0, 0))] (fun _ => [(ρ, .cells (r.cells.set ol (uV w4.a)).toArray 29 (0, 0))]) R := by
 refine Ju Tryz.func240 rfl rfl fun w => ?_; refine J9 ?_; refine Jq 2 rfl ?_; refine LN rfl fun r1 => ?_; refine JN 3 rfl ?_; refine JK 5 (by kernel_rfl) (by kernel_rfl) ?_; refine Jb rfl rfl rfl (Jd rfl (Or.inr h1) rfl rfl) ?_; refine Jb rfl rfl rfl (Jg rfl) ?_; refine Ku rfl rfl rfl egl (hgl ρ) ?_
 refine Jb rfl rfl rfl (JI (j := 0) rfl rfl rfl rfl rfl (by first | decide | omega) (by first | (simp only [Nat.zero_add, Nat.reduceAdd, Nat.reduceMul, Nat.zero_mul, Nat.mul_one, Nat.add_zero]; exact rfl) | exact rfl)) ?_; refine Jb rfl rfl rfl (Jd rfl (kn 0 rfl) rfl rfl) ?_; refine JY ?_; refine Wm rfl ?_; refine KF (k := 1) (cs' := (r.cells.set ol (uV w4.a)).toArray) rfl rfl rfl rfl rfl rfl (by rw [List.getElem?_toArray, List.getElem?_eq_getElem (show ol < r.cells.length from ho)]; rfl) rfl (by simp) rfl ?_; refine JF 4 rfl ?_; refine LR rfl (Jd rfl (Or.inr h2) rfl rfl) ?_; refine JN 3 rfl ?_; refine J0 rfl (fun g => ?_) (fun g => ?_)
 try exact Bool.noConfusion g
 ·try simp only [ZZ] at g
  refine Kn 1 rfl ?_; refine Kh rfl rfl .nil (fun w1 hs1 => ?_); exact ⟨(), rfl, hs1.weakL (List.sublist_cons_self _ _)⟩
theorem xy {R : Ji} {ρ b1 e1 : Nat} {g : FuncId} {o : Nat} {cs : List Value} (eg : Enters Tryz.prog g) (hg : ∀ ρ, Pure Tryz.prog g [Qf ρ 0].toArray (Qf ρ o)) (h1 : (b1, Obj.cells #[fV g] e1 (0, 0)) ∈ R) (r : Rec) (w4 : W4) (ho : o + 4 ≤ 17) (hcs : r.cells.take o ++ w4.l.map uV ++ r.cells.drop (o + 4) = cs) : PureT (α := Unit) Tryz.prog 242 [Qf ρ 0, wV w4.l, Qf b1 0].toArray (fun _ => .tuple #[]) [(ρ, .cells r.cells.toArray 29 (0, 0))] (fun _ => [(ρ, .cells cs.toArray 29 (0, 0))]) R := by
 refine Ju Tryz.func242 rfl rfl fun w => ?_; refine J9 ?_; refine Jq 2 rfl ?_; refine LN rfl fun r1 => ?_; refine JN 2 rfl ?_; refine JK 4 (by kernel_rfl) (by kernel_rfl) ?_; refine Jb rfl rfl rfl (Jd rfl (Or.inr h1) rfl rfl) ?_; refine Jb rfl rfl rfl (Jg rfl) ?_; refine Ku rfl rfl rfl eg (hg ρ) ?_; refine Jb rfl rfl rfl (Jp (vs := [_, _, _, _]) rfl (kn 0 rfl) rfl rfl rfl rfl) ?_; refine JY ?_; refine Wm rfl (Qz (k := 1) (n := 4) (vs := (w4.l.map uV).toArray) (cs' := cs.toArray) rfl rfl rfl rfl rfl rfl rfl ho (by rw [← hcs]) rfl (Jx 1 rfl ?_)); refine Kh rfl rfl .nil (fun w1 hs1 => ?_); exact ⟨(), rfl, hs1.weakL (List.sublist_cons_self _ _)⟩
def frN : Nat → Int
 | 0 => 0
 | 1 => 0
 | 2 => 0
 | 3 => 0
 | 4 => 3
 | 5 => 3
 | _ => 5
def toN : Nat → Int
 | 0 => 5
 | 1 => 5
 | 2 => 2
 | 3 => 2
 | 4 => 5
 | 5 => 5
 | _ => 5
def Jo7 : Nat → FuncId
 | 0 => 239
 | 1 => 241
 | 2 => 241
 | 3 => 239
 | 4 => 239
 | 5 => 241
 | _ => 239
def Jo8 : Nat → FuncId
 | 0 => 240
 | 1 => 242
 | 2 => 242
 | 3 => 240
 | 4 => 240
 | 5 => 242
 | _ => 240
def Jh2 (p : Nat → Nat) : Nat → List Value
 | 0 => [Qf (p 1) 0, Qf (p 2) 0]
 | 1 => [Qf (p 3) 0]
 | 2 => [Qf (p 4) 0]
 | 3 => [Qf (p 5) 0, Qf (p 6) 0]
 | 4 => [Qf (p 7) 0, Qf (p 8) 0]
 | 5 => [Qf (p 9) 0]
 | _ => [Qf (p 10) 0, Qf (p 11) 0]
def Zs (p : Nat → Nat) : Nat → Ji
 | 0 => [(p 2, .cells #[fV 182] 214 (0, 0)), (p 1, .cells #[fV 181] 214 (0, 0))]
 | 1 => [(p 3, .cells #[fV 184] 218 (0, 0))]
 | 2 => [(p 4, .cells #[fV 185] 218 (0, 0))]
 | 3 => [(p 6, .cells #[.nilFunc] 214 (0, 0)), (p 5, .cells #[fV 179] 214 (0, 0))]
 | 4 => [(p 8, .cells #[fV 186] 214 (0, 0)), (p 7, .cells #[fV 179] 214 (0, 0))]
 | 5 => [(p 9, .cells #[fV 187] 218 (0, 0))]
 | _ => [(p 11, .cells #[.nilFunc] 214 (0, 0)), (p 10, .cells #[fV 188] 214 (0, 0))]
def wh (p : Nat → Nat) (i : Nat) : List Value := [uV (Yb i), .int .i64 (frN i), .int .i64 (toN i), .func (.func (Jo7 i)) #[] (Jh2 p i).toArray, .func (.func (Jo8 i)) #[] (Jh2 p i).toArray]
theorem Jo9 (p : Nat → Nat) (i : Nat) : (wh p i).length = 5 := rfl
theorem Jtm {i : Nat} (h : i < 7) : tab[i]? = some i := by
 have : i = 0 ∨ i = 1 ∨ i = 2 ∨ i = 3 ∨ i = 4 ∨ i = 5 ∨ i = 6 := by omega
 rcases this with rfl | rfl | rfl | rfl | rfl | rfl | rfl <;> rfl
theorem lt7 {i : Nat} (h : i < 7) : i = 0 ∨ i = 1 ∨ i = 2 ∨ i = 3 ∨ i = 4 ∨ i = 5 ∨ i = 6 := by omega
theorem Jpa {f : Int} (hf : KV f) {i : Nat} (hi : i < 7) : Yy f i = (decide (f ≥ frN i) && decide (f ≤ toN i)) := by
 rcases Yc hf with rfl | rfl | rfl | rfl | rfl | rfl <;> rcases lt7 hi with rfl | rfl | rfl | rfl | rfl | rfl | rfl <;> rfl
theorem qo {i : Nat} (h : i < 7) : Enters Tryz.prog (Jo7 i) := by
 rcases lt7 h with rfl | rfl | rfl | rfl | rfl | rfl | rfl
 ·exact Jgy
 ·exact Jm9
 ·exact Jm9
 ·exact Jgy
 ·exact Jgy
 ·exact Jm9
 ·exact Jgy
theorem Jcx {i : Nat} (h : i < 7) : Enters Tryz.prog (Jo8 i) := by
 rcases lt7 h with rfl | rfl | rfl | rfl | rfl | rfl | rfl
 ·exact Jgz
 ·exact Jna
 ·exact Jna
 ·exact Jgz
 ·exact Jgz
 ·exact Jna
 ·exact Jgz
theorem Jh3 {R : Ji} {p : Nat → Nat} {i : Nat} (hi : i < 7) (hR : ∀ q ∈ Zs p i, q ∈ R) (r : Rec) : PureR Tryz.prog (Jo7 i) (r.val :: Jh2 p i).toArray (wV (Xy r i).l) R := by
 rcases lt7 hi with rfl | rfl | rfl | rfl | rfl | rfl | rfl
 ·exact Jhy (enters_of Tryz.func181 (by kernel_rfl) rfl) (enters_of Tryz.func182 (by kernel_rfl) rfl) Jo1 Jo2 (hR _ (List.mem_cons_of_mem _ List.mem_cons_self)) (hR _ List.mem_cons_self) r rfl rfl
 ·exact xx (enters_of Tryz.func184 (by kernel_rfl) rfl) Jo3 (hR _ List.mem_cons_self) r rfl
 ·exact xx (enters_of Tryz.func185 (by kernel_rfl) rfl) Jo4 (hR _ List.mem_cons_self) r rfl
 ·exact Jhz yu yu jM jM (hR _ (List.mem_cons_of_mem _ List.mem_cons_self)) (hR _ List.mem_cons_self) r rfl rfl
 ·exact Jhy yu (enters_of Tryz.func186 (by kernel_rfl) rfl) jM Jo5 (hR _ (List.mem_cons_of_mem _ List.mem_cons_self)) (hR _ List.mem_cons_self) r rfl rfl
 ·exact xx (enters_of Tryz.func187 (by kernel_rfl) rfl) Jo6 (hR _ List.mem_cons_self) r rfl
 ·exact Jhz Jgv Jgv xw xw (hR _ (List.mem_cons_of_mem _ List.mem_cons_self)) (hR _ List.mem_cons_self) r rfl rfl
theorem Jtn {R : Ji} {p : Nat → Nat} {i ρ : Nat} (hi : i < 7) (hR : ∀ q ∈ Zs p i, q ∈ R) (r : Rec) (w4 : W4) : PureT (α := Unit) Tryz.prog (Jo8 i) (Qf ρ 0 :: wV w4.l :: Jh2 p i).toArray (fun _ => .tuple #[]) [(ρ, .cells r.cells.toArray 29 (0, 0))] (fun _ => [(ρ, .cells (vw r w4 i).cells.toArray 29 (0, 0))]) R := by
 rcases lt7 hi with rfl | rfl | rfl | rfl | rfl | rfl | rfl
 ·exact Jh0 (enters_of Tryz.func181 (by kernel_rfl) rfl) (enters_of Tryz.func182 (by kernel_rfl) rfl) Jo1 Jo2 (hR _ (List.mem_cons_of_mem _ List.mem_cons_self)) (hR _ List.mem_cons_self) r w4 (by decide) (by decide)
 ·exact xy (enters_of Tryz.func184 (by kernel_rfl) rfl) Jo3 (hR _ List.mem_cons_self) r w4 (by decide) rfl
 ·exact xy (enters_of Tryz.func185 (by kernel_rfl) rfl) Jo4 (hR _ List.mem_cons_self) r w4 (by decide) rfl
 ·exact Jh1 yu yu jM jM (hR _ (List.mem_cons_of_mem _ List.mem_cons_self)) (hR _ List.mem_cons_self) r w4 (by decide) (by decide)
 ·exact Jh0 yu (enters_of Tryz.func186 (by kernel_rfl) rfl) jM Jo5 (hR _ (List.mem_cons_of_mem _ List.mem_cons_self)) (hR _ List.mem_cons_self) r w4 (by decide) (by decide)
 ·exact xy (enters_of Tryz.func187 (by kernel_rfl) rfl) Jo6 (hR _ List.mem_cons_self) r w4 (by decide) rfl
 ·exact Jh1 Jgv Jgv xw xw (hR _ (List.mem_cons_of_mem _ List.mem_cons_self)) (hR _ List.mem_cons_self) r w4 (by decide) (by decide)
theorem yI (k : Nat) (a b : Int) (gl gh : FuncId) : PureE (α := Nat × Nat) Tryz.prog 180 [uV k, .int .i64 a, .int .i64 b, fV gl, fV gh].toArray (fun p => .agg #[uV k, .int .i64 a, .int .i64 b, .func (.func 239) #[] #[Qf p.1 0, Qf p.2 0], .func (.func 240) #[] #[Qf p.1 0, Qf p.2 0]]) (fun p => [(p.2, .cells #[fV gh] 214 (0, 0)), (p.1, .cells #[fV gl] 214 (0, 0))]) := by
 refine JW Tryz.func180 rfl rfl fun w => ?_; refine J9 ?_; refine Jq 2 rfl ?_; refine LN rfl fun r1 => ?_; refine LN rfl fun r2 => ?_; refine LN rfl fun r3 => ?_; refine JF 4 rfl ?_; refine LR rfl (JA rfl rfl) ?_; refine JF 5 rfl ?_; refine LR rfl (JA rfl rfl) ?_; refine JF 10 rfl ?_; refine LR rfl (Jr (r := [_, _, _, _, _]) rfl rfl) ?_
 refine LT 0 rfl rfl ?_; refine Jx 3 rfl ?_; refine Jh rfl rfl (.cons (J1 (vs := [_, _, _, _, _]) rfl (kn 0 rfl) rfl rfl) .nil) (fun w1 hs1 => ?_); exact ⟨(r1, r2), rfl, hs1.weakL (List.sublist_cons_self _ _)⟩
theorem yJ (k : Nat) (a b : Int) (gl gh : FuncId) : PureE (α := Nat × Nat) Tryz.prog 180 [uV k, .int .i64 a, .int .i64 b, fV gl, .nilFunc].toArray (fun p => .agg #[uV k, .int .i64 a, .int .i64 b, .func (.func 239) #[] #[Qf p.1 0, Qf p.2 0], .func (.func 240) #[] #[Qf p.1 0, Qf p.2 0]]) (fun p => [(p.2, .cells #[.nilFunc] 214 (0, 0)), (p.1, .cells #[fV gl] 214 (0, 0))]) := by
 refine JW Tryz.func180 rfl rfl fun w => ?_; refine J9 ?_; refine Jq 2 rfl ?_; refine LN rfl fun r1 => ?_; refine LN rfl fun r2 => ?_; refine LN rfl fun r3 => ?_; refine JF 4 rfl ?_; refine LR rfl (JA rfl rfl) ?_; refine JF 5 rfl ?_; refine LR rfl (JA rfl rfl) ?_; refine JF 10 rfl ?_; refine LR rfl (Jr (r := [_, _, _, _, _]) rfl rfl) ?_
 refine LT 0 rfl rfl ?_; refine Jx 3 rfl ?_; refine Jh rfl rfl (.cons (J1 (vs := [_, _, _, _, _]) rfl (kn 0 rfl) rfl rfl) .nil) (fun w1 hs1 => ?_); exact ⟨(r1, r2), rfl, hs1.weakL (List.sublist_cons_self _ _)⟩
theorem xz (k : Nat) (a b : Int) (g : FuncId) : PureE (α := Nat) Tryz.prog 183 [uV k, .int .i64 a, .int .i64 b, fV g].toArray (fun p => .agg #[uV k, .int .i64 a, .int .i64 b, .func (.func 241) #[] #[Qf p 0], .func (.func 242) #[] #[Qf p 0]]) (fun p => [(p, .cells #[fV g] 218 (0, 0))]) := by
 refine JW Tryz.func183 rfl rfl fun w => ?_; refine J9 ?_; refine Jq 2 rfl ?_; refine LN rfl fun r1 => ?_; refine LN rfl fun r2 => ?_; refine JF 7 rfl ?_; refine LR rfl (JA rfl rfl) ?_; refine LR rfl (JA rfl rfl) ?_; refine LR rfl (Jr (r := [_, _, _, _, _]) rfl rfl) ?_
 refine LT 0 rfl rfl ?_; refine Jx 3 rfl ?_; refine Jh rfl rfl (.cons (J1 (vs := [_, _, _, _, _]) rfl (kn 0 rfl) rfl rfl) .nil) (fun w1 hs1 => ?_); exact ⟨r1, rfl, hs1.weakL (List.sublist_cons_self _ _)⟩
def Jpb (p : Nat → Nat) : Ji := (p 0, .cells (tab.flatMap (wh p)).toArray 108 (0, 0)) :: (Zs p 6 ++ (Zs p 5 ++ (Zs p 4 ++ (Zs p 3 ++ (Zs p 2 ++ (Zs p 1 ++ Zs p 0))))))
theorem Jto : PureE (α := Nat → Nat) Tryz.prog 113 [].toArray (fun p => .slice (some ⟨p 0, 0, none⟩) 7 7) Jpb := by
 refine JW Tryz.func113 rfl rfl fun w => ?_; refine J9 ?_; refine Jq 12 rfl ?_; refine JR rfl rfl rfl Jgu (yI 0 0 5 181 182) fun pp => ?_
 obtain ⟨a1, a2⟩ := pp
 refine JR rfl rfl rfl Jm6 (xz 1 0 5 184) fun a3 => ?_; refine JR rfl rfl rfl Jm6 (xz 5 0 2 185) fun a4 => ?_; refine QI rfl (JR rfl rfl rfl Jgu (yJ 6 0 2 179 179) fun pp => ?_)
 obtain ⟨a5, a6⟩ := pp
 refine QI rfl (JR rfl rfl rfl Jgu (yI 3 3 5 179 186) fun pp => ?_)
 obtain ⟨a7, a8⟩ := pp
 refine JR rfl rfl rfl Jm6 (xz 7 3 5 187) fun a9 => ?_; refine JR rfl rfl rfl Jgu (yJ 8 5 5 188 188) fun pp => ?_
 obtain ⟨a10, a11⟩ := pp
 refine JH (n := 7) (sz := 5) (vs := [_, _, _, _, _, _, _]) (zs := [_, _, _, _, _, _, _, _, _, _, _, _, _, _, _, _, _, _, _, _, _, _, _, _, _, _, _, _, _, _, _, _, _, _, _]) (r := tab.flatMap (wh ([0, a1, a2, a3, a4, a5, a6, a7, a8, a9, a10, a11].getD · 0))) rfl rfl rfl rfl rfl rfl rfl rfl rfl (by rw [Kf]; exact rfl) rfl fun rt => ?_; refine Jx 4 rfl ?_; refine pT rfl rfl rfl fun w1 hs1 => ?_; exact ⟨([rt, a1, a2, a3, a4, a5, a6, a7, a8, a9, a10, a11].getD · 0), rfl, hs1⟩
theorem Jpc (f : Int) : PureE (α := Nat) Tryz.prog 57 [.int .i64 f].toArray (fun p => .func (.func 112) #[] #[Qf p 0]) (fun p => [(p, .cells #[.int .i64 f] 3 (0, 0))]) := by
 refine JW Tryz.func57 rfl rfl fun w => ?_; refine J9 ?_; refine Jq 2 rfl ?_; refine LN rfl fun r1 => ?_; refine JF 5 rfl ?_; refine LR rfl (JA rfl rfl) ?_; refine Jx 4 rfl ?_; refine pT rfl rfl rfl fun w1 hs1 => ?_; exact ⟨r1, rfl, hs1⟩
def nxT (f : Int) : Nat → List Value → Ji → Nat → Prop := fun i v B i' => i < 7 ∧ i' = i + 1 ∧ ∃ p : Nat → Nat, v = [.agg (wh p i).toArray, .bool (Yy f i)] ∧ B = Zs p i
theorem Jpd {p : Nat → Nat} {i : Nat} (hi : i < 7) : ∀ q ∈ Zs p i, q ∈ Jpb p := by
 intro q hq
 unfold Jpb
 rcases lt7 hi with rfl | rfl | rfl | rfl | rfl | rfl | rfl <;> simp only [List.mem_cons, List.mem_append, hq, true_or, or_true]
theorem Jtp {f : Int} (hf : KV f) {i : Nat} (hi : i < 7) (h : f ≥ frN i) : decide (f ≤ toN i) = Yy f i := by rw [Jpa hf hi, decide_eq_true h, Bool.true_and]
theorem Jwo {f : Int} (hf : KV f) {i : Nat} (hi : i < 7) (h : ¬ f ≥ frN i) : false = Yy f i := by rw [Jpa hf hi, decide_eq_false h, Bool.false_and]
theorem Jpe {f : Int} (hf : KV f) (b : Nat) : Jfr Tryz.prog 112 [Qf b 0] [(b, .cells #[.int .i64 f] 3 (0, 0))] 0 (nxT f) (fun i => i = 7) := by
  refine qd Tryz.func112 rfl rfl fun q xids w2 XI XF hY => ?_; refine J9 ?_; refine Jq 2 rfl ?_; refine JR rfl rfl rfl (enters_of Tryz.func113 (by kernel_rfl) rfl) Jto fun p => ?_; change HL _ _ _ (Jpb p ++ []) _ _ _ _; rw [List.append_nil]; refine LR rfl (JQ rfl rfl) ?_; refine JN 4 rfl ?_; refine J2 (σ := Nat) (fun i => i ≤ 7) (fun i => [(0, .func (.yield q) #[] #[]), (1, Qf b 0), (5, .slice (some ⟨p 0, 0, none⟩) 7 7), (6, .int .i64 7), (7, .int .i64 (i : Int))]) (fun _ => Jpb p) (fun i => XI i) (fun i => 7 - i) 0 (Nat.zero_le _) (lK rfl) (List.Sublist.refl _) (fun _ _ h => h) ?_; intro i hi1; refine JP 6 rfl ?_; refine cD (fun g => ?_) fun g => ?_
  · refine Jq 6 rfl ?_; refine LR rfl (JE (j := i) (m := 5) (off' := i * 5) rfl rfl rfl rfl rfl (by omega) (by omega)) ?_; refine LR rfl (Jp (n := 5) (vs := wh p i) rfl (Or.inl List.mem_cons_self) rfl rfl (VV (Jo9 p) (Jtm (by omega))) rfl) ?_; refine LN rfl fun r1 => ?_
    refine LT 0 rfl rfl ?_; refine XV 6 [0] rfl rfl ?_; refine LR rfl (Jd rfl (Jv (k := 0) rfl) rfl rfl) ?_; refine LS 4 [0] rfl rfl ?_
    refine JB 17 rfl (fun gb => ?_) (fun gb => ?_) <;> (try simp only [ZZ] at gb) <;> first | (refine LR rfl (Jd rfl (kn 0 rfl) rfl rfl) ?_) | (refine LR rfl (Jd rfl (kn 1 rfl) rfl rfl) ?_) | (refine LR rfl (Jd rfl (Jv (k := 0) rfl) rfl rfl) ?_) | (refine LK rfl ?_)
    all_goals first | refine LR rfl (JG rfl rfl rfl) ?_ | refine LK rfl ?_
    all_goals refine LW 3 [0] rfl rfl ?_
    all_goals first | (refine Jw (congrArg Value.bool (Jtp hf (by omega) (by assumption))) ?_) | (refine Jw (congrArg Value.bool (Jwo hf (show i < 7 by omega) (by omega))) ?_)
    all_goals refine jx (B := Zs p i) (XT := XI (i + 1)) (XF := XF) rfl rfl rfl rfl (hY i [.agg (wh p i).toArray, .bool (Yy f i)] (Zs p i) (i + 1) ⟨by omega, rfl, p, rfl, rfl⟩) (fun q hq => List.mem_cons_of_mem _ (Jpd (by omega) q hq)) ?_ ?_
    all_goals (
     refine Jx 2 rfl (Zn 1 rfl ?_); refine J0 rfl (fun g => ?_) (fun g => ?_)
     · try exact Bool.noConfusion g
       all_goals try simp only [ZZ] at g
       all_goals (
        refine Kn 5 rfl ?_; refine Jh rfl rfl .nil (fun w1 hs1 => ?_)
        obtain ⟨xs1, hx1⟩ := hs1.now
        exact ⟨⟨_, rfl⟩, hs1.keep, .inr ⟨_, hx1⟩⟩
        skip)
     · try exact Bool.noConfusion g
       all_goals try simp only [ZZ] at g
       all_goals (
        refine Jq 5 rfl ?_; refine Jc (by omega) (by omega) ?_; refine Jx 2 rfl ?_; refine Jz ?_; exact Jt (i + 1) (by omega) (by omega) (lK rfl) (List.sublist_cons_self _ _) (fun _ _ h => h)
        skip)
     skip)
  · refine Kn 4 rfl ?_; refine Kh rfl rfl .nil (fun w1 hs1 => ?_)
    obtain ⟨xs1, hx1⟩ := hs1.now
    exact ⟨⟨_, rfl⟩, hs1.keep, .inl ⟨i, _, (by show i = 7; omega), hx1⟩⟩
theorem jN {f : Int} {g : Nat → W4} {i : Nat} : ∀ (l : List Nat) (out : Rec), XD f g (l ++ [i]) out = if Yy f i then vw (XD f g l out) (g i) i else XD f g l out
 | [], out => rfl
 | j :: l, out => by rw [List.cons_append, XD, XD, jN l]
theorem Jcy {i : Nat} (h : i < 7) : tab.take (i + 1) = tab.take i ++ [i] := by
 rcases lt7 h with rfl | rfl | rfl | rfl | rfl | rfl | rfl <;> rfl
theorem Jh4 {f : Int} : ∀ i v B i', nxT f i v B i' → v.length = 2 := by
 rintro i v B i' ⟨_, _, p, rfl, _⟩; rfl
theorem Jwp {f : Int} (hf : KV f) (r : Rec) : Pure Tryz.prog 117 [.int .i64 f, r.val].toArray (qa f r).val := by
 refine Jk Tryz.func117 rfl rfl fun w => ?_; refine J9 ?_; refine Jq 2 rfl ?_; refine Kk (cs := r.cells.toArray) rfl rfl rfl rfl fun rb => ?_; refine LN rfl fun r1 => ?_; refine JF 4 rfl ?_; refine LN rfl fun r2 => ?_; refine JF 6 rfl ?_; refine JR rfl rfl rfl (enters_of Tryz.func57 (by kernel_rfl) rfl) (Jpc f) fun b => ?_; refine JN 3 rfl ?_; refine Wp [1, 0, 2, 3] (by decide) rfl ?_; refine X8 (τ := Unit) (fun i (s : Rec) => i ≤ 7 ∧ s = XD f (Xy r) (tab.take i) rec0) (fun s => [(r2, .cells s.cells.toArray 29 (0, 0))]) (fun _ _ => False) (fun _ => []) [(b, .cells #[.int .i64 f] 3 (0, 0)), (r1, .cells rec0.cells.toArray 29 (0, 0)), (rb, .cells r.cells.toArray 29 (0, 0))] rec0 rfl rfl (enters_of Tryz.func112 (by kernel_rfl) rfl) (Jpe hf b) Jh4 rfl (by simp) rfl ⟨by decide, rfl⟩ ?_ ?_ ?_
 rintro q Xr Xb w3 i _ _ _ s ⟨hi, rfl, p, rfl, rfl⟩ ⟨-, hs⟩ Kr hKr; refine inR ?_
 refine Jq 2 rfl ?_; refine LN rfl fun r3 => ?_
 refine LT 0 rfl rfl ?_; refine Jx 5 rfl ?_; refine hKr _ _ ?_; refine J9 ?_; clear hKr; refine JP 6 rfl ?_; refine cD (fun g => ?_) fun g => ?_
 refine JK 6 (by kernel_rfl) (by kernel_rfl) ?_
 refine Jb rfl rfl rfl (JG rfl rfl rfl) ?_; refine Jb rfl rfl rfl (Jd rfl (kn 0 rfl) rfl rfl) ?_
 refine Jb rfl rfl rfl (JG rfl rfl rfl) ?_; refine Jb rfl rfl rfl (Jd rfl (kn 0 rfl) rfl rfl) ?_; refine Jb rfl rfl rfl (Jf (xs := r.cells) (n := 17) rfl (Or.inr (List.mem_append_left _ (List.mem_append_right _ (List.mem_cons_of_mem _ (List.mem_cons_of_mem _ List.mem_cons_self))))) rfl rfl rfl) ?_; refine V7 rfl rfl rfl (qo hi) (Jh3 hi (fun q hq => hq) r) (fun q hq => Or.inr (List.mem_append_left _ (List.mem_append_left _ hq))) ?_; refine JY ?_; refine Jjc (k := 1) rfl rfl rfl rfl rfl (Jcx hi) (Jtn hi (fun q hq => hq) s (Xy r i)) (fun q hq => Or.inr (List.mem_append_left _ (List.mem_append_left _ hq))) fun _ => ?_; refine Jx 2 rfl ?_
 (refine Qs [0] (L' := [_]) (by decide) rfl ?_
  exact Ks (vw s (Xy r i) i) ⟨by omega, by rw [Jcy hi, jN, ← hs, if_pos (by assumption)]⟩ rfl)
 refine Kn 2 rfl ?_
 (refine Qs [1] (L' := [_]) (by decide) rfl ?_
  exact Ks s ⟨by omega, by rw [Jcy hi, jN, ← hs, if_neg (by simp_all)]⟩ rfl)
 rintro D i s hfi ⟨-, hs⟩
 obtain rfl : i = 7 := hfi
 refine gqo 4 rfl ?_; refine LR rfl (Jf (xs := s.cells) (n := 17) rfl (kn 1 rfl) rfl rfl rfl) ?_; refine Jn (k := 3) (n := 17) (ys := s.cells) rfl rfl rfl rfl rfl rfl rfl rfl rfl ?_; refine Jx 3 rfl ?_; refine KN (k := 0) rfl rfl ?_; refine Jh rfl rfl (.cons (J1 (vs := s.cells) rfl (kn 3 rfl) rfl rfl) .nil) (fun w1 hs1 => ?_); exact ⟨by rw [hs]; rfl, hs1.keep⟩
 ·exact fun _ _ _ h => h.elim
theorem Jwq (x y : Rec) : (eqS (uV x.number) (uV y.number) && (eqS (uV x.time) (uV y.time) && (Qr [uV x.base.a, uV x.base.b, uV x.base.c, uV x.base.d] [uV y.base.a, uV y.base.b, uV y.base.c, uV y.base.d] && (Qr [uV x.blob.a, uV x.blob.b, uV x.blob.c, uV x.blob.d] [uV y.blob.a, uV y.blob.b, uV y.blob.c, uV y.blob.d] && (Qr [uV x.overhead.a, uV x.overhead.b, uV x.overhead.c, uV x.overhead.d] [uV y.overhead.a, uV y.overhead.b, uV y.overhead.c, uV y.overhead.d] && (eqS (uV x.scalar) (uV y.scalar) && (eqS (uV x.extra) (uV y.extra) && (eqS (uV x.operator) (uV y.operator) && true)))))))) = decide (x = y) := by
 rw [Bool.eq_iff_iff]; simp only [eqU, eqW, Bool.and_eq_true, decide_eq_true_eq, Bool.and_true]
 obtain ⟨a, b, c, d, e, f, g, h⟩ := x
 obtain ⟨a', b', c', d', e', f', g', h'⟩ := y
 simp only [Rec.mk.injEq]
theorem Jtq {f : Int} (hf : KV f) (r : Rec) : (qa f r = r → Xk f r = 0) ∧ (¬ qa f r = r → Xk f r = 2) := by
 unfold Xk
 rw [if_neg (by simpa using hf)]; exact ⟨fun h => if_pos ((vx hf).1 h), fun h => if_neg fun h2 => h ((vx hf).2 h2)⟩
theorem Jwr (f : Int) (r : Rec) : Pure Tryz.prog 63 [.int .i64 f, r.val].toArray (.int .i64 (Xk f r)) := by
 by_cases hf : KV f
 ·obtain ⟨h1, h2⟩ := Jtq hf r
  refine Jk Tryz.func63 rfl rfl fun w => ?_; refine J9 ?_; refine Jq 2 rfl ?_; refine Kk (cs := r.cells.toArray) rfl rfl rfl rfl fun rb => ?_; refine JF 8 rfl ?_; refine Jm rfl rfl rfl (enters_of Tryz.func55 (by kernel_rfl) rfl) (Jcw f) ?_; refine JN 4 rfl ?_; refine J0 rfl (fun g => ?_) (fun g => ?_)
  ·try simp only [ZZ] at g
   refine Kn 8 rfl ?_; refine pT rfl rfl rfl fun w1 hs1 => ?_
   exfalso; first | contradiction | (simp_all; done)
  try simp only [ZZ] at g
  refine JP 1 rfl ?_; refine JK 6 (by kernel_rfl) (by kernel_rfl) ?_; refine Jb rfl rfl rfl (Jg rfl) ?_; refine Jb rfl rfl rfl (Jf (xs := r.cells) (n := 17) rfl (kn 0 rfl) rfl rfl rfl) ?_; refine Ku rfl rfl rfl (enters_of Tryz.func117 (by kernel_rfl) rfl) (Jwp hf r) ?_; refine Jb rfl rfl rfl (Jf (xs := r.cells) (n := 17) rfl (kn 0 rfl) rfl rfl rfl) ?_; refine Jb rfl rfl rfl (Jry (xs := (qa f r).cells) (ys := r.cells) rfl rfl rfl (by kernel_rfl) (by kernel_rfl) (.scal (by decide) rfl rfl rfl rfl rfl (.scal (by decide) rfl rfl rfl rfl rfl (.arr (by decide) rfl rfl rfl rfl rfl rfl rfl rfl rfl rfl (.arr (by decide) rfl rfl rfl rfl rfl rfl rfl rfl rfl rfl (.arr (by decide) rfl rfl rfl rfl rfl rfl rfl rfl rfl rfl (.scal (by decide) rfl rfl rfl rfl rfl (.scal (by decide) rfl rfl rfl rfl rfl (.scal (by decide) rfl rfl rfl rfl rfl .nil))))))))) ?_; refine Qg (congrArg (fun b => Value.bool (!b)) (Jwq (qa f r) r)) ?_; refine Jb rfl rfl rfl (J7 rfl) ?_; refine JY ?_; refine JN 2 rfl ?_; refine cD (fun g => ?_) fun g => ?_
  refine Kn 8 rfl ?_; refine pT rfl rfl rfl fun w1 hs1 => ?_; rw [h2 (by assumption)]; exact ⟨rfl, hs1.keep⟩
  refine Kn 9 rfl ?_; refine pT rfl rfl rfl fun w1 hs1 => ?_; rw [h1 (by assumption)]; exact ⟨rfl, hs1.keep⟩
 ·have e : Xk f r = 10 := by unfold Xk; rw [if_pos hf]
  rw [e]; refine Jk Tryz.func63 rfl rfl fun w => ?_; refine J9 ?_; refine Jq 2 rfl ?_; refine LN rfl fun r1 => ?_; refine JF 8 rfl ?_; refine Jm rfl rfl rfl (enters_of Tryz.func55 (by kernel_rfl) rfl) (Jcw f) ?_; refine JN 4 rfl ?_; refine J0 rfl (fun g => ?_) (fun g => ?_)
  ·try simp only [ZZ] at g
   refine Kn 8 rfl ?_; refine pT rfl rfl rfl fun w1 hs1 => ?_
   first | exact ⟨rfl, hs1.keep⟩ | (exfalso; first | contradiction | (simp_all; done))
  ·try simp only [ZZ] at g
   refine JP 1 rfl ?_; refine JK 6 (by kernel_rfl) (by kernel_rfl) ?_; refine Jb rfl rfl rfl (Jg rfl) ?_; refine Jb rfl rfl rfl (Jp (vs := [_, _, _, _, _, _, _, _, _, _, _, _, _, _, _, _, _]) rfl (kn 0 rfl) rfl rfl rfl rfl) ?_
   exfalso; first | contradiction | (simp_all; done)
theorem Ju4 {f : Int} (hf : KV f) {i : Nat} (hi : i < 2) : Pure Tryz.prog 56 [.int .i64 f, .int .i64 (i : Int)].toArray (.tuple #[J6 (Qd f i).1, .bool (Qd f i).2]) := by
 have : i = 0 ∨ i = 1 := by omega
 rcases this with rfl | rfl
 ·exact Jyr hf
 ·exact Jys hf
theorem Jtr {f : Int} {r : Rec} {i : Nat} (h : Yy f i = true) : bW (Xy r i) = (jG f r i).2 := by unfold jG; rw [if_pos h]
theorem Jws {f : Int} {r : Rec} {i : Nat} (h : Yy f i = false) : Vc = (jG f r i).2 := by unfold jG; rw [if_neg (by rw [h]; simp)]
theorem Jyt {R : Ji} {p : Nat → Nat} {i rr e : Nat} {f : Int} (hi : i < 7) {r : Rec} (hr : r.ok) (hR : (rr, Obj.cells r.cells.toArray e (0, 0)) ∈ R) : PureR Tryz.prog 130 (.agg (wh p i).toArray :: .bool (Yy f i) :: [Qf rr 0]).toArray (J6 (jG f r i).2) (Zs p i ++ R) := by
 refine Ja Tryz.func130 rfl rfl fun w => ?_; refine J9 ?_; refine Jq 2 rfl ?_; refine Kk (cs := (wh p i).toArray) rfl rfl rfl rfl fun rb => ?_; refine JN 10 rfl ?_; refine cD (fun g => ?_) fun g => ?_
 refine Jq 2 rfl ?_; refine Jm rfl rfl rfl (enters_of Tryz.func58 (by kernel_rfl) rfl) Jti ?_; refine Jx 5 rfl ?_; refine pT rfl rfl rfl fun w1 hs1 => ?_; refine ⟨?_, hs1.keep⟩; rw [← Jws (by assumption)]; rfl
 ·refine X6 6 [0] rfl rfl ?_; refine LR rfl (Jf (xs := r.cells) (n := 17) rfl (Or.inr (List.mem_append_right _ hR)) rfl rfl rfl) ?_; refine Je rfl rfl rfl (qo hi) (Jh3 hi (fun q hq => hq) r) (fun q hq => Or.inr (List.mem_append_left _ hq)) ?_; refine Jm rfl rfl rfl Jbr (Q8 (Jbb hr i).wok) ?_; refine Jx 4 rfl ?_; refine pT rfl rfl rfl fun w1 hs1 => ?_; refine ⟨?_, hs1.keep⟩; rw [← Jtr (by assumption)]; rfl
theorem Jwt {R : Ji} {a : AcL} (ha : a.In R) {f : Int} (hf : KV f) {gv : FuncId} {capsV : List Value} {vals : Nat → BS} (egv : Enters Tryz.prog gv) (hgv : ∀ i, i < 7 → ∀ p, PureR Tryz.prog gv (.agg (wh p i).toArray :: .bool (Yy f i) :: capsV).toArray (J6 (vals i)) (Zs p i ++ R)) :
  PureT (α := AcRes R (Qx a.er (tab.map fun i => (Yx (Yb i), vals i)))) Tryz.prog 129 [.int .i64 f, a.val, .func (.func gv) #[] capsV.toArray].toArray (fun x => x.val) [] (fun x => x.L) R := by
 obtain ⟨rows, hrows⟩ : ∃ rows, rows = tab.map fun i => (Yx (Yb i), vals i) := ⟨_, rfl⟩
 have hdr : ∀ i, i < 7 → rows.drop i = (Yx (Yb i), vals i) :: rows.drop (i + 1) := fun i hi => by rw [hrows]; exact map_drop _ hi
 have hd7 : rows.drop 7 = [] := by rw [hrows]; rfl
 rw [← hrows]; clear hrows; refine Ju Tryz.func129 rfl rfl fun w => ?_; refine J9 ?_; refine Jq 2 rfl ?_; refine Kk (cs := a.cells.toArray) rfl rfl rfl rfl fun rb => ?_; refine LN rfl fun rv => ?_; refine LN rfl fun r1 => ?_; refine LN rfl fun r2 => ?_; refine JF 6 rfl ?_; refine JR rfl rfl rfl (enters_of Tryz.func57 (by kernel_rfl) rfl) (Jpc f) fun b => ?_; refine JN 3 rfl ?_; refine Wp [4, 2, 1, 0, 3] (L' := [_, _, _, _, _]) (by decide) rfl ?_; refine X8 (τ := AcSt R × Int) (fun i (s : AcSt R) => i ≤ 7 ∧ Qx a.er rows = Qx s.a.er (rows.drop i)) (fun s => (rb, .cells s.a.cells.toArray 48 (0, 0)) :: (r1, .cells ac0L.cells.toArray 48 (0, 0)) :: (r2, .cells #[.int .i64 0] 37 (0, 0)) :: s.L) (fun j s => j = .ret ∧ Qx a.er rows = (s.1.a.er, s.2)) (fun s => (rb, .cells s.1.a.cells.toArray 48 (0, 0)) :: (r1, .cells s.1.a.cells.toArray 48 (0, 0)) :: (r2, .cells #[.int .i64 s.2] 37 (0, 0)) :: s.1.L) [(b, .cells #[.int .i64 f] 3 (0, 0)), (rv, _)] ⟨a, [], ha⟩ rfl rfl (enters_of Tryz.func112 (by kernel_rfl) rfl) (Jpe hf b) Jh4 rfl (fun q hq => .inl (by rw [List.mem_singleton.1 hq]; exact List.mem_cons_self)) rfl ⟨Nat.zero_le _, rfl⟩ ?_ ?_ ?_
 ·rintro q Xr Xb w3 i _ _ _ s ⟨hi, rfl, p, rfl, rfl⟩ ⟨hi7, hinv⟩ Kr hKr; refine inR ?_
  rw [hdr i hi, zM] at hinv; refine Jq 2 rfl ?_; refine LN rfl fun r3 => ?_
  refine LT 0 rfl rfl ?_; refine Jx 5 rfl ?_; refine hKr _ _ ?_; refine J9 ?_; clear hKr; refine JP 2 rfl ?_; refine JM s.L [(1, .pure), (3, .pure), (6, .pure), (8, .grow (KY (Classical.choice (Jmq s.ok (Yx (Yb i)) (vals i))) AcRes.val AcRes.L)), (9, .pure), (10, .pure), (11, .pure), (12, .grow (VG zo (.cells #[.string ⟨#[]⟩, .int .u64 0, .int .u64 0, .int .u64 0, .int .u64 0, .int .u64 0, .string ⟨#[]⟩, .slice none 0 0] 48 (0, 0)))), (13, .turn), (14, .pure)] 15 [0, 1, 2, 3, 4, 5, 6, 7, 8, 9, 10, 11, 12, 13, 14] (by kernel_rfl) (by kernel_rfl) (fun p hp => List.mem_cons_of_mem _ (List.mem_cons_of_mem _ (List.mem_cons_of_mem _ (List.mem_cons_of_mem _ hp)))) ?_; refine KA (k := 0) rfl rfl rfl rfl rfl (Jf (xs := s.a.cells) (n := 8) rfl (kn 1 rfl) rfl rfl rfl) ?_
  refine Jl (k := 1) rfl rfl rfl rfl rfl (fun _ hS => (JG rfl rfl rfl)) ?_; refine KA (k := 2) rfl rfl rfl rfl rfl (Jd rfl (kn 0 rfl) rfl rfl) ?_; refine Vj (k := 3) rfl rfl rfl rfl rfl (enters_of Tryz.func61 (by kernel_rfl) rfl) (Jwm (Jd7 i)) ?_; refine KA (k := 4) rfl rfl rfl rfl rfl (Jd rfl (Or.inr (List.mem_append_left _ (List.mem_append_right _ (List.mem_cons_of_mem _ List.mem_cons_self)))) rfl rfl) ?_; refine KA (k := 5) rfl rfl rfl rfl rfl (Jf (xs := wh p i) (n := 5) rfl (kn 0 rfl) rfl rfl rfl) ?_; refine Jl (k := 6) rfl rfl rfl rfl rfl (fun _ hS => (Jg rfl)) ?_; refine KH (k := 7) rfl rfl rfl rfl rfl egv (hgv i hi p) (fun q hq => (List.mem_append.1 hq).elim (fun h => Or.inr (List.mem_append_left _ (List.mem_append_left _ h))) (fun h => Or.inr (List.mem_append_right _ h))) ?_; refine KS (k := 8) rfl rfl rfl rfl rfl (enters_of Tryz.func197 (by kernel_rfl) rfl) (Jyp s.ok (Yx (Yb i)) (vals i)) (fun q hq => (List.mem_append.1 hq).imp id (fun h => List.mem_append_right _ h)) fun x => ?_; refine Jl (k := 9) rfl rfl rfl rfl rfl (fun _ hS => (Jg rfl)) ?_; refine Jl (k := 10) rfl rfl rfl rfl rfl (fun _ hS => (JX rfl rfl)) ?_; refine Jl (k := 11) rfl rfl rfl rfl rfl (fun _ hS => (JX rfl rfl)) ?_; refine XA (k := 12) (cs := #[_, _, _, _, _, _, _, _]) rfl rfl rfl rfl rfl rfl fun r4 => ?_; refine Wf (k := 13) (q := 0) (n := 8) (ys := x.a.cells) rfl rfl rfl rfl rfl rfl rfl rfl rfl rfl rfl (fun p hp => List.mem_cons_of_mem _ (List.mem_append_right _ (List.mem_cons_of_mem _ (List.mem_cons_of_mem _ (List.mem_cons_of_mem _ (List.mem_cons_of_mem _ hp)))))) ?_; refine Jl (k := 14) rfl rfl rfl rfl rfl (fun _ hS => (J7 rfl)) ?_; refine Ko ?_; refine JN 4 rfl ?_; refine Jgm (L' := (r4, .cells x.a.cells.toArray 48 (0, 0)) :: (r3, .cells (wh p i).toArray 108 (0, 0)) :: (rb, .cells s.a.cells.toArray 48 (0, 0)) :: (r1, .cells ac0L.cells.toArray 48 (0, 0)) :: (r2, .cells #[.int .i64 0] 37 (0, 0)) :: (x.L ++ s.L)) (List.Perm.cons _ (VB x.L [_, _, _, _] s.L)) ?_
  have hx := x.eq
  have hxe : (VO s.a.er (Yx (Yb i)) (vals i)).2 = x.err := (congrArg Prod.snd hx).symm
  have hxa : (VO s.a.er (Yx (Yb i)) (vals i)).1 = x.a.er := (congrArg Prod.fst hx).symm
  refine JP 5 rfl ?_; refine cD (fun g => ?_) fun g => ?_
  refine Jq 2 rfl ?_; refine LR rfl (Jf (xs := s.a.cells) (n := 8) rfl (kn 2 rfl) rfl rfl rfl) ?_; refine QI rfl (Jn (k := 3) (n := 8) (ys := s.a.cells) rfl rfl rfl rfl rfl rfl rfl rfl rfl ?_)
  refine LT 4 rfl rfl ?_; refine Jx 5 rfl ?_; refine Jfm (L' := (rb, .cells s.a.cells.toArray 48 (0, 0)) :: (r1, .cells s.a.cells.toArray 48 (0, 0)) :: (r2, .cells #[.int .i64 x.err] 37 (0, 0)) :: s.L) (fun _ _ h => h) (.cons _ (.cons _ (.cons_cons _ (.cons_cons _ (.cons_cons _ (List.sublist_append_right _ _)))))) ?_; exact j3 (s, x.err) ⟨rfl, by rw [hinv, if_pos (by rw [hxe]; assumption)]; exact (Jmr (by rw [hxe]; assumption)).trans (congrArg (Prod.mk s.a.er) hxe)⟩ rfl
  ·refine Jq 3 rfl ?_; refine LR rfl (Jf (xs := x.a.cells) (n := 8) rfl (kn 0 rfl) rfl rfl rfl) ?_; refine Jn (k := 2) (n := 8) (ys := x.a.cells) rfl rfl rfl rfl rfl rfl rfl rfl rfl ?_; refine Jx 2 rfl ?_; refine Jfm (L' := (rb, .cells x.a.cells.toArray 48 (0, 0)) :: (r1, .cells ac0L.cells.toArray 48 (0, 0)) :: (r2, .cells #[.int .i64 0] 37 (0, 0)) :: (x.L ++ s.L)) (fun _ _ h => h) (.cons _ (.cons _ (List.Sublist.refl _))) ?_; exact Ks (s.next x) ⟨by omega, by rw [hinv, if_neg (by rw [hxe]; simpa using ‹x.err = 0›), hxa]; rfl⟩ rfl
 rintro D i s hfi ⟨-, hinv⟩
 obtain rfl : i = 7 := hfi
 rw [hd7] at hinv; refine gqo 4 rfl ?_; refine LR rfl (Jf (xs := s.a.cells) (n := 8) rfl (kn 1 rfl) rfl rfl rfl) ?_; refine Jn (k := 2) (n := 8) (ys := s.a.cells) rfl rfl rfl rfl rfl rfl rfl rfl rfl ?_
 refine LT 3 rfl rfl ?_; refine Jx 3 rfl ?_; refine KN (k := 0) rfl rfl ?_
 (refine Jh rfl rfl (.cons (J1 (vs := s.a.cells) rfl (kn 2 rfl) rfl rfl) (.cons (KP rfl (kn 3 rfl) rfl rfl) .nil)) (fun w1 hs1 => ?_)
  exact ⟨⟨s.a, 0, s.L, s.ok, by rw [hinv]; rfl⟩, rfl, hs1.weakL (.cons _ (.cons _ (.cons _ (.cons _ (List.sublist_append_left _ _)))))⟩)
 ·rintro D j s ⟨rfl, hst⟩
  refine Kn 3 rfl ?_; refine KN (k := 0) rfl rfl ?_
  (refine Jh rfl rfl (.cons (J1 (vs := s.1.a.cells) rfl (kn 2 rfl) rfl rfl) (.cons (KP rfl (kn 3 rfl) rfl rfl) .nil)) (fun w1 hs1 => ?_)
   exact ⟨⟨s.1.a, s.2, s.1.L, s.1.ok, hst.symm⟩, rfl, hs1.weakL (.cons _ (.cons _ (.cons _ (.cons _ (List.sublist_append_left _ _)))))⟩)
theorem Jts {R : Ji} {a : AcL} (h : a.In R) {c : BS} (hc : c.length ≤ 512) : AcL.In R { a with code := c } := ⟨h.addr, h.nonce, h.bal, (by show c.length ≤ 9223372036854775807; omega), h.len, h.seg, h.slots⟩
theorem Jtt {R : Ji} {a : AcL} (h : a.In R) {c : BS} (hc : c.length ≤ 512) : AcL.In R { a with addr := c } := ⟨(by show c.length ≤ 9223372036854775807; omega), h.nonce, h.bal, h.code, h.len, h.seg, h.slots⟩
theorem Jwu {f : Int} {r : Rec} : (tab.map fun i => (Yx (Yb i), (jG f r i).2)) = vz f r := rfl
theorem Jyu {R : Ji} {f : Int} (hf : KV f) {r : Rec} (hr : r.ok) {bf br ef er : Nat} (hbf : (bf, Obj.cells #[.int .i64 f] ef (0, 0)) ∈ R) (hbr : (br, Obj.cells r.cells.toArray er (0, 0)) ∈ R) {w : Nat} (hw : w < 2) {a : AcL} (ha : a.In R) :
  PureT (α := AcRes R (Xz f w a.er r)) Tryz.prog 128 (.int .i64 (w : Int) :: a.val :: [Qf bf 0, Qf br 0]).toArray (fun x => x.val) [] (fun x => x.L) R := by
 have hin := Jts ha (Jbc f w)
 have hset := Jwt (gv := 130) (capsV := [Qf br 0]) (vals := fun i => (jG f r i).2) hin hf (enters_of Tryz.func130 (by kernel_rfl) rfl) (fun i hi p => Jyt hi hr hbr)
 rw [Jwu] at hset
 have hC : Xz f w a.er r = if (w : Int) = 1 then ({ a.er with code := (Qd f w).1 }, 0) else Qx { a.er with code := (Qd f w).1 } (vz f r) := by
  unfold Xz
  by_cases h : (w : Int) = 1
  rw [if_pos h, if_pos h, h]
  rw [if_neg h, if_neg h]
 rw [hC]; clear hC; refine Ju Tryz.func128 rfl rfl fun w => ?_; refine J9 ?_; refine Jq 2 rfl ?_; refine Kk (cs := a.cells.toArray) rfl rfl rfl rfl fun rb => ?_; refine LN rfl fun r1 => ?_; refine JF 5 rfl ?_; refine LR rfl (Jd rfl (Or.inr hbf) rfl rfl) ?_; refine QI rfl (Jm rfl rfl rfl (enters_of Tryz.func56 (by kernel_rfl) rfl) (Ju4 hf hw) (LS 4 [] rfl rfl ?_))
 refine LT 1 rfl rfl ?_; refine JN 9 rfl ?_; refine cD (fun g => ?_) fun g => ?_
 refine Jq 2 rfl ?_; refine LR rfl (Jp (vs := [_, _, _, _, _, _, _, _]) rfl (kn 1 rfl) rfl rfl rfl rfl) ?_
 refine LT 0 rfl rfl ?_; refine Jx 5 rfl ?_; refine Jh rfl rfl (.cons (J1 (vs := [_, _, _, _, _, _, _, _]) rfl (kn 0 rfl) rfl rfl) (.cons (Jj rfl) .nil)) (fun w1 hs1 => ?_)
 (rw [if_pos (by omega)]
  exact ⟨⟨{ a with code := (Qd f _).1 }, 0, [], hin, rfl⟩, rfl, hs1.weakL (List.nil_sublist _)⟩)
 ·refine Jq 4 rfl ?_; refine LR rfl (Jd rfl (Or.inr hbf) rfl rfl) ?_; refine LR rfl (Jp (vs := [_, _, _, _, _, _, _, _]) rfl (kn 1 rfl) rfl rfl rfl rfl) ?_; refine LR rfl (JA rfl rfl) ?_; refine Kq rfl rfl rfl (enters_of Tryz.func129 (by kernel_rfl) rfl) hset oR fun x => ?_; refine Km List.perm_append_comm ?_; change HL _ _ ((21, .tuple #[x.a.val, .int .i64 x.err]) :: _) ((r1, _) :: (rb, _) :: x.L) _ _ _ _; refine LS 2 [] rfl rfl ?_; refine Jn (k := 0) (n := 8) (ys := x.a.cells) rfl rfl rfl rfl rfl rfl rfl rfl rfl ?_; refine Jx 4 rfl ?_; refine Jh rfl rfl (.cons (J1 (vs := [_, _, _, _, _, _, _, _]) rfl (kn 0 rfl) rfl rfl) (.cons (Jj rfl) .nil)) (fun w1 hs1 => ?_)
  (rw [if_neg (by omega)]
   exact ⟨x, rfl, hs1.weakL (List.sublist_append_right [_, _] _)⟩)
theorem Jpf {R : Ji} {s : StL} (hs : s.In R) {f : Int} (hf : KV f) {gd : FuncId} {capsd : List Value} {go : Int → AcE → AcE × Int} (egd : Enters Tryz.prog gd)
  (hdo : ∀ w : Nat, w < 2 → ∀ (a : AcL) (R' : Ji), (∀ q ∈ R, q ∈ R') → a.In R' → PureT (α := AcRes R' (go w a.er)) Tryz.prog gd (.int .i64 (w : Int) :: a.val :: capsd).toArray (fun x => x.val) [] (fun x => x.L) R') :
  PureT (α := StRes R (YM f s.er go)) Tryz.prog 127 [.int .i64 f, s.val, .func (.func gd) #[] capsd.toArray].toArray (fun x => x.val) [] (fun x => x.L) R := by
 obtain ⟨res, hres⟩ : ∃ res, res = YM f s.er go := ⟨_, rfl⟩
 rw [← hres]; refine Ju Tryz.func127 rfl rfl fun w => ?_; refine J9 ?_; refine Jq 2 rfl ?_; refine Kk (cs := s.cells.toArray) rfl rfl rfl rfl fun rb => ?_; refine LN rfl fun r1 => ?_; refine JF 5 rfl ?_; refine LR rfl (Jp (vs := [_]) rfl (kn 1 rfl) rfl rfl rfl rfl) ?_; refine LN rfl fun r2 => ?_
 refine LT 0 rfl rfl ?_; refine JN 9 rfl ?_; refine J2 (σ := Nat × StSt R) (fun q => q.1 ≤ 2 ∧ VA f s.er go (([0, 1] : List Int).drop q.1) q.2.s.er = res) (fun q => [(0, .int .i64 f), (2, .func (.func gd) #[] capsd.toArray), (4, Qf rb 0), (6, Qf r1 0), (8, Qf r2 0), (17, .int .i64 (q.1 : Int))]) (fun q => (r2, .cells q.2.s.cells.toArray 36 (0, 0)) :: (r1, .cells st0L.cells.toArray 36 (0, 0)) :: (rb, .cells s.cells.toArray 36 (0, 0)) :: q.2.L) (fun _ _ _ => True) (fun q => 2 - q.1) (0, ⟨s, [], hs⟩) ⟨Nat.zero_le _, hres.symm⟩ (lK rfl) (List.Sublist.refl _) (fun _ _ h => h) ?_; rintro ⟨i, t⟩ ⟨hi2, hinv⟩; simp only at hi2 hinv; change HC _ _ [(0, _), (2, _), (4, _), (6, _), (8, _), (17, .int .i64 (i : Int))] ((r2, .cells t.s.cells.toArray _ (0, 0)) :: (r1, _) :: (rb, _) :: t.L) _ _ _; refine JP 6 rfl ?_; refine cD (fun g => ?_) fun g => ?_
 ·refine JP 12 rfl ?_
  have hi : i < 2 := by omega
  rw [Jbn hi, zN] at hinv; refine Jq 3 rfl ?_; refine Jm rfl rfl rfl (enters_of Tryz.func56 (by kernel_rfl) rfl) (Ju4 hf hi) ?_; refine JN 13 rfl ?_; refine cD (fun g => ?_) fun g => ?_
  refine Jq 6 rfl ?_; refine Jc (by omega) (by omega) ?_; refine Jx 2 rfl ?_; refine Jz ?_
  (rw [if_pos (by simp_all)] at hinv
   exact Jt (i + 1, t) ⟨by simp only; omega, hinv⟩ (by simp only; omega) (lK rfl) (List.Sublist.refl _) (fun _ _ h => h))
  ·refine JP 3 rfl ?_; rw [if_neg (by simp_all)] at hinv
   refine JM [] [(1, .pure), (2, .pure), (4, .pure), (5, .pure), (6, .pure), (7, .grow (VG zo (.cells #[.string ⟨#[]⟩, .int .u64 0, .int .u64 0, .int .u64 0, .int .u64 0, .int .u64 0, .string ⟨#[]⟩, .slice none 0 0] 48 (0, 0)))), (8, .turn), (9, .pure)] 10 [0, 1, 2, 3, 4, 5, 6, 7, 8, 9] (by kernel_rfl) (by kernel_rfl) (by first | exact (fun _ h => absurd h List.not_mem_nil) | simp [SubS] | (intro p hp; simp [hp])) ?_; refine KA (k := 0) rfl rfl rfl rfl rfl (Jf (xs := t.s.cells) (n := 1) rfl (kn 0 rfl) rfl rfl rfl) ?_; refine Jl (k := 1) rfl rfl rfl rfl rfl (fun _ hS => (Jg rfl)) ?_; refine Vj (k := 2) rfl rfl rfl rfl rfl Jr2 (Jo0 i) ?_; refine KH (k := 3) rfl rfl rfl rfl rfl Jvv (Jey t.ok (V0 i)) (fun q hq => (List.mem_append.1 hq).elim (fun h => Or.inl (List.mem_cons_of_mem _ (List.mem_cons_of_mem _ (List.mem_cons_of_mem _ h)))) Or.inr) ?_; refine Jl (k := 4) rfl rfl rfl rfl rfl (fun _ hS => (Jg rfl)) ?_; refine Jl (k := 5) rfl rfl rfl rfl rfl (fun _ hS => (JX rfl rfl)) ?_; refine Jl (k := 6) rfl rfl rfl rfl rfl (fun _ hS => (JX rfl rfl)) ?_; refine XA (k := 7) (cs := #[_, _, _, _, _, _, _, _]) rfl rfl rfl rfl rfl rfl fun r3 => ?_; refine Wf (k := 8) (q := 0) (n := 8) (ys := (Qm t.s (V0 i)).cells) rfl rfl rfl rfl rfl rfl rfl rfl rfl rfl rfl (fun _ h => nomatch h) ?_; refine Jl (k := 9) rfl rfl rfl rfl rfl (fun _ hS => (J7 rfl)) ?_; refine Ko ?_; refine JF 5 rfl ?_; refine Jm rfl rfl rfl Jr2 (Jo0 i) ?_; refine LS 1 [] rfl rfl ?_
   refine LT 0 rfl rfl ?_; refine XV 7 [0] rfl rfl ?_; refine Kq rfl rfl rfl egd (hdo i hi { Qm t.s (V0 i) with addr := V0 i } (t.L ++ R) (fun q hq => List.mem_append_right _ hq) (Jtt (jd t.ok (V0 i)) (Jmt i))) (fun q hq => (List.mem_append.1 hq).elim (fun h => Or.inl (List.mem_cons_of_mem _ (List.mem_cons_of_mem _ (List.mem_cons_of_mem _ (List.mem_cons_of_mem _ h))))) Or.inr) fun x => ?_; refine Km (VB x.L [_, _, _, _] t.L) ?_; change HL _ _ ((42, .tuple #[x.a.val, .int .i64 x.err]) :: _) ((r3, _) :: (r2, _) :: (r1, _) :: (rb, _) :: (x.L ++ t.L)) _ _ _ _
   have hxe : (go i (Q9 t.s.er i)).2 = x.err := by rw [← Jms]; exact (congrArg Prod.snd x.eq).symm
   have hxa : (go i (Q9 t.s.er i)).1 = x.a.er := by rw [← Jms]; exact (congrArg Prod.fst x.eq).symm
   rw [hxe, hxa] at hinv; refine LS 3 [] rfl rfl ?_; refine LN rfl fun r4 => ?_; refine Jn (k := 0) (n := 8) (ys := x.a.cells) rfl rfl rfl rfl rfl rfl rfl rfl rfl ?_; refine JN 10 rfl ?_; refine cD (fun g => ?_) fun g => ?_
   ·refine Jq 1 rfl ?_; refine LR rfl (Jf (xs := t.s.cells) (n := 1) rfl (kn 2 rfl) rfl rfl rfl) ?_; refine LR rfl (Jf (xs := x.a.cells) (n := 8) rfl (kn 0 rfl) rfl rfl rfl) ?_; refine Kq rfl rfl rfl (enters_of Tryz.func196 (by kernel_rfl) rfl) (Jyq (R := x.L ++ (t.L ++ R)) (t.ok.mono fun q hq => List.mem_append_right _ hq) x.ok) (fun q hq => (List.mem_append.1 hq).elim (fun h => Or.inl (List.mem_cons_of_mem _ (List.mem_cons_of_mem _ (List.mem_cons_of_mem _ (List.mem_cons_of_mem _ (List.mem_cons_of_mem _ (List.mem_append_left _ h))))))) fun hq => (List.mem_append.1 hq).elim (fun h => Or.inl (List.mem_cons_of_mem _ (List.mem_cons_of_mem _ (List.mem_cons_of_mem _ (List.mem_cons_of_mem _ (List.mem_cons_of_mem _ (List.mem_append_right _ h))))))) Or.inr) fun y => ?_; refine Km (VB y.L [_, _, _, _, _] (x.L ++ t.L)) ?_; change HL _ _ ((50, .tuple #[y.s.val, .int .i64 y.err]) :: _) ((r4, _) :: (r3, _) :: (r2, _) :: (r1, _) :: (rb, _) :: (y.L ++ (x.L ++ t.L))) _ _ _ _
    have hye : (jE t.s.er x.a.er).2 = y.err := (congrArg Prod.snd y.eq).symm
    have hys : (jE t.s.er x.a.er).1 = y.s.er := (congrArg Prod.fst y.eq).symm
    rw [hye, hys] at hinv; refine LS 3 [] rfl rfl ?_; refine Jn (k := 2) (n := 1) (ys := y.s.cells) rfl rfl rfl rfl rfl rfl rfl rfl rfl ?_; refine JN 9 rfl ?_; refine cD (fun g => ?_) fun g => ?_
    refine Jq 2 rfl ?_; refine LR rfl (Jf (xs := s.cells) (n := 1) rfl (kn 4 rfl) rfl rfl rfl) ?_; refine QI rfl (Jn (k := 3) (n := 1) (ys := s.cells) rfl rfl rfl rfl rfl rfl rfl rfl rfl (Jx 9 rfl ?_)); refine Jh rfl rfl (.cons (J1 (vs := [_]) rfl (kn 3 rfl) rfl rfl) (.cons (Jj rfl) .nil)) (fun w1 hs1 => ?_)
    (rw [if_neg (show ¬ (x.err ≠ 0) by omega), if_pos (show y.err ≠ 0 by omega)] at hinv
     exact ⟨⟨s, y.err, [], hs, hinv⟩, rfl, hs1.weakL (List.nil_sublist _)⟩)
    ·refine Jq 5 rfl ?_; refine Jc (by omega) (by omega) ?_; refine Jx 2 rfl ?_; refine Jz ?_
     (rw [if_neg (show ¬ (x.err ≠ 0) by omega), if_neg (show ¬ (y.err ≠ 0) by omega)] at hinv
      exact Jt (i + 1, t.next y) ⟨by simp only; omega, hinv⟩ (by simp only; omega) (lK rfl) (.cons _ (.cons _ (List.Sublist.refl _))) (fun _ _ h => h))
   refine JP 8 rfl ?_; refine cD (fun g => ?_) fun g => ?_
   refine Jq 2 rfl ?_; refine LR rfl (Jf (xs := s.cells) (n := 1) rfl (kn 4 rfl) rfl rfl rfl) ?_; refine QI rfl (Jn (k := 3) (n := 1) (ys := s.cells) rfl rfl rfl rfl rfl rfl rfl rfl rfl (Jx 9 rfl ?_)); refine Jh rfl rfl (.cons (J1 (vs := [_]) rfl (kn 3 rfl) rfl rfl) (.cons (Jj rfl) .nil)) (fun w1 hs1 => ?_)
   (rw [if_pos (show x.err ≠ 0 by omega)] at hinv
    exact ⟨⟨s, x.err, [], hs, hinv⟩, rfl, hs1.weakL (List.nil_sublist _)⟩)
   refine Jq 5 rfl ?_; refine Jc (by omega) (by omega) ?_; refine Jx 2 rfl ?_; refine Jz ?_
   exfalso; omega
 ·refine Jq 7 rfl ?_; refine LR rfl (Jf (xs := t.s.cells) (n := 1) rfl (kn 0 rfl) rfl rfl rfl) ?_; refine Jn (k := 1) (n := 1) (ys := t.s.cells) rfl rfl rfl rfl rfl rfl rfl rfl rfl ?_; refine Jx 4 rfl ?_; refine Jh rfl rfl (.cons (J1 (vs := [_]) rfl (kn 1 rfl) rfl rfl) (.cons (Jj rfl) .nil)) (fun w1 hs1 => ?_)
  (obtain rfl : i = 2 := by omega
   exact ⟨⟨t.s, 0, t.L, t.ok, hinv⟩, rfl, hs1.weakL (.cons _ (.cons _ (.cons _ (List.Sublist.refl _))))⟩)
theorem Jtu {R : Ji} (f : Int) {s : StL} (hs : s.In R) {r : Rec} (hr : r.ok) : PureT (α := StRes R (QC f s.er r)) Tryz.prog 81 [.int .i64 f, s.val, r.val].toArray (fun x => x.val) [] (fun x => x.L) R := by
 have hc := YZ hs
 obtain ⟨res, hres⟩ : ∃ res, res = YM f s.er fun w a => Xz f w a r := ⟨_, rfl⟩
 have hwr : QC f s.er r = if Xk f r ≠ 0 then (s.er, Xk f r) else if KT s.er ≠ 0 then (s.er, KT s.er) else res := by rw [hres]; rfl
 rw [hwr]; refine Ju Tryz.func81 rfl rfl fun w => ?_; refine J9 ?_; refine Jq 2 rfl ?_; refine LN rfl fun r1 => ?_; refine Kk (cs := s.cells.toArray) rfl rfl rfl rfl fun rs => ?_; refine Kk (cs := r.cells.toArray) rfl rfl rfl rfl fun rr => ?_; refine LN rfl fun r2 => ?_; refine JF 6 rfl ?_; refine LR rfl (Jd rfl (kn 3 rfl) rfl rfl) ?_; refine LR rfl (Jf (xs := r.cells) (n := 17) rfl (kn 1 rfl) rfl rfl rfl) ?_; refine Jm rfl rfl rfl (enters_of Tryz.func63 (by kernel_rfl) rfl) (Jwr f r) ?_; refine JN 9 rfl ?_; refine cD (fun g => ?_) fun g => ?_
 refine X6 4 [2] rfl rfl ?_
 refine LT 0 rfl rfl ?_; refine Jx 5 rfl ?_; refine Jh rfl rfl (.cons (J1 (vs := [_]) rfl (kn 0 rfl) rfl rfl) (.cons (Jj rfl) .nil)) (fun w1 hs1 => ?_); rw [if_pos (by omega)]; exact ⟨⟨s, Xk f r, [], hs, rfl⟩, rfl, hs1.weakL (List.nil_sublist _)⟩
 ·refine Jq 5 rfl ?_; refine LR rfl (Jp (vs := [_]) rfl (kn 2 rfl) rfl rfl rfl rfl) ?_; refine Je rfl rfl rfl Jr3 hc oR ?_; refine JN 9 rfl ?_; refine cD (fun g => ?_) fun g => ?_
  refine X6 4 [2] rfl rfl ?_
  refine LT 0 rfl rfl ?_; refine Jx 5 rfl ?_; refine Jh rfl rfl (.cons (J1 (vs := [_]) rfl (kn 0 rfl) rfl rfl) (.cons (Jj rfl) .nil)) (fun w1 hs1 => ?_); rw [if_neg (by omega), if_pos (by omega)]; exact ⟨⟨s, KT s.er, [], hs, rfl⟩, rfl, hs1.weakL (List.nil_sublist _)⟩
  ·refine JP 3 rfl ?_
   have hf : KV f := (Jgi (show Xk f r = 0 by omega)).1
   have hch := Jpf (R := (rr, Obj.cells r.cells.toArray 29 (0, 0)) :: (r1, Obj.cells #[.int .i64 f] 3 (0, 0)) :: R) (hs.mono fun q hq => List.mem_cons_of_mem _ (List.mem_cons_of_mem _ hq)) hf (gd := 128) (capsd := [Qf r1 0, Qf rr 0]) (go := fun w a => Xz f w a r) (enters_of Tryz.func128 (by kernel_rfl) rfl) (fun w hw a R2 hR2 ha => Jyu hf hr (hR2 _ (List.mem_cons_of_mem _ List.mem_cons_self)) (hR2 _ List.mem_cons_self) hw ha)
   refine X6 3 [3, 2] rfl rfl ?_; refine LR rfl (JA rfl rfl) ?_
   refine Kq (Rl := (rr, Obj.cells r.cells.toArray 29 (0, 0)) :: (r1, Obj.cells #[.int .i64 f] 3 (0, 0)) :: R) rfl rfl rfl (enters_of Tryz.func127 (by kernel_rfl) rfl) hch (fun q hq => by
    rcases List.mem_cons.1 hq with rfl | hq
    exact Or.inl (by simp)
    rcases List.mem_cons.1 hq with rfl | hq
    exact Or.inl (by simp)
    exact Or.inr hq) fun x => ?_
   refine Km List.perm_append_comm ?_; change HL _ _ ((26, .tuple #[x.s.val, .int .i64 x.err]) :: _) ((r2, _) :: (rr, _) :: (rs, _) :: (r1, _) :: x.L) _ _ _ _; refine LS 2 [] rfl rfl ?_; refine Jn (k := 0) (n := 1) (ys := x.s.cells) rfl rfl rfl rfl rfl rfl rfl rfl rfl ?_; refine Jx 4 rfl ?_; refine Jh rfl rfl (.cons (J1 (vs := [_]) rfl (kn 0 rfl) rfl rfl) (.cons (Jj rfl) .nil)) (fun w1 hs1 => ?_)
   (rw [if_neg (by omega), if_neg (by omega), hres]
    exact ⟨⟨x.s, x.err, x.L ++ [(rr, Obj.cells r.cells.toArray 29 (0, 0)), (r1, Obj.cells #[.int .i64 f] 3 (0, 0))], x.ok.mono fun q hq => by simp only [List.mem_append, List.mem_cons, List.not_mem_nil, or_false] at hq ⊢; rcases hq with h | h | h | h <;> simp [h], x.eq⟩, rfl, (hs1.perm (L' := x.L ++ [_, _, _, _]) (List.perm_append_comm (l₁ := [_, _, _, _]))).weakL ((List.Sublist.refl _).append (.cons _ (.cons_cons _ (.cons _ (List.Sublist.refl _)))))⟩)
def X5 (a : AcE) : Bool := !((decide (100 < a.addr.length) || (decide (60 < a.code.length) && decide (a.code.length ≤ 512))) || decide (20 < a.slots.length)) && a.slots.all fun x => !(decide (100 < x.1.length) || decide (100 < x.2.length))
def Ze : Nat → Int → List AcE → Bool × Int
 | _, n, [] => (true, n)
 | i, n, a :: l => if 40 < i then (true, n) else if X5 a = false then (false, n) else Ze (i + 1) (n + (a.slots.length : Int)) l
def Zt (s : List AcE) : Bool := (Ze 0 0 s).1 && (decide (s.length ≤ 40) && decide ((Ze 0 0 s).2 ≤ 40))
theorem Jtv {a : AcE} {i : Nat} {x : BS × BS} (hx : a.slots[i]? = some x) (h : x.1.length > 100 ∨ x.2.length > 100) : X5 a = false := by
 unfold X5
 have : (a.slots.all fun x => !(decide (100 < x.1.length) || decide (100 < x.2.length))) = false := by
  rw [List.all_eq_false]
  exact ⟨x, List.mem_of_getElem? hx, by rcases h with h | h <;> simp [h]⟩
 rw [this, Bool.and_false]
theorem Jtw {a : AcE} (h : X5 a = true) : a.slots.length ≤ 20 := by
 unfold X5 at h
 simp only [Bool.and_eq_true, Bool.not_eq_true', Bool.or_eq_false_iff, decide_eq_false_iff_not] at h; omega
theorem Jpg {i : Nat} {n : Int} {s : List AcE} {a : AcE} (h : s[i]? = some a) (hi : i ≤ 40) (hf : X5 a = true) : Ze i n (s.drop i) = Ze (i + 1) (n + (a.slots.length : Int)) (s.drop (i + 1)) := by
 obtain ⟨hlt, e⟩ := List.getElem?_eq_some_iff.1 h
 rw [List.drop_eq_getElem_cons hlt, e]
 unfold Ze
 rw [if_neg (by omega), if_neg (by rw [hf]; simp)]
 cases s.drop (i + 1) <;> rfl
theorem Jph {i : Nat} {n : Int} {s : List AcE} (h : 40 < i ∨ s.length ≤ i) : Ze i n (s.drop i) = (true, n) := by
 rcases h with h | h
 ·cases s.drop i with
  | nil => rfl
  | cons a l => unfold Ze; rw [if_pos h]
 ·rw [List.drop_of_length_le h]; rfl
theorem Jpi {i : Nat} {n : Int} {s : List AcE} {a : AcE} (h : s[i]? = some a) (hi : i ≤ 40) (hf : X5 a = false) : (Ze i n (s.drop i)).1 = false := by
 obtain ⟨hlt, e⟩ := List.getElem?_eq_some_iff.1 h
 rw [List.drop_eq_getElem_cons hlt, e]
 unfold Ze
 rw [if_neg (by omega), if_pos hf]
theorem Jkb {R : Ji} {a : AcL} (ha : a.In R) : PureR Tryz.prog 69 [a.val].toArray (.bool (X5 a.er)) R := by
  have hl := ha.len
  have hseg := ha.seg
  obtain ⟨res, hres⟩ : ∃ b, b = X5 a.er := ⟨_, rfl⟩
  rw [← hres]
  have h1 : (100 < (a.addr.length : Int) ∨ (60 < (a.code.length : Int) ∧ (a.code.length : Int) ≤ 512) ∨ 20 < (a.slots.length : Int)) → res = false := fun h => by
    rw [hres]; unfold X5
    have : ((decide (100 < a.addr.length) || (decide (60 < a.code.length) && decide (a.code.length ≤ 512))) || decide (20 < a.slots.length)) = true := by
      simp only [Bool.or_eq_true, Bool.and_eq_true, decide_eq_true_eq]; omega
    show (!((decide (100 < a.addr.length) || (decide (60 < a.code.length) && decide (a.code.length ≤ 512))) || decide (20 < a.slots.length)) && _) = false
    rw [this]; rfl
  have h2 : ¬ (100 < (a.addr.length : Int) ∨ (60 < (a.code.length : Int) ∧ (a.code.length : Int) ≤ 512) ∨ 20 < (a.slots.length : Int)) → (∀ (j : Nat) (x : BS × BS), a.slots[j]? = some x → x.1.length ≤ 100 ∧ x.2.length ≤ 100) → res = true := fun h h' => by
    rw [hres]; unfold X5
    have e : ((decide (100 < a.addr.length) || (decide (60 < a.code.length) && decide (a.code.length ≤ 512))) || decide (20 < a.slots.length)) = false := by
      simp only [Bool.or_eq_false_iff, Bool.and_eq_false_iff, decide_eq_false_iff_not]; omega
    show (!((decide (100 < a.addr.length) || (decide (60 < a.code.length) && decide (a.code.length ≤ 512))) || decide (20 < a.slots.length)) && _) = true
    rw [e]; simp only [Bool.not_false, Bool.true_and, List.all_eq_true]; intro x hx
    obtain ⟨j, hj⟩ := List.getElem?_of_mem hx
    obtain ⟨g1, g2⟩ := h' j x hj
    simp; omega
  refine Ja Tryz.func69 rfl rfl fun w => ?_; refine J9 ?_; refine Jq 2 rfl ?_; refine Kk (cs := a.cells.toArray) rfl rfl rfl rfl fun r1 => ?_; refine XV 8 [0] rfl rfl ?_; refine LR rfl (Qe rfl rfl) ?_; refine LS 2 [] rfl rfl ?_
  refine JB 8 rfl (fun gb => ?_) (fun gb => ?_) <;> (try simp only [ZZ] at gb) <;> first | (refine LR rfl (JG rfl rfl rfl) ?_) | (refine LK rfl ?_)
  all_goals refine LW 1 [0] rfl rfl ?_
  all_goals first | refine LR rfl (Qe rfl rfl) ?_ | refine LK rfl ?_
  all_goals refine LW 2 [] rfl rfl ?_
  all_goals first | refine LK rfl ?_ | (refine JB 13 rfl (fun gb => ?_) (fun gb => ?_) <;> (try simp only [ZZ] at gb) <;> first | (refine LR rfl (JG rfl rfl rfl) ?_) | (refine LK rfl ?_))
  all_goals refine LW 1 [0] rfl rfl ?_
  all_goals first | refine LR rfl (Qe rfl rfl) ?_ | refine LK rfl ?_
  all_goals refine LW 4 [] rfl rfl ?_
  all_goals first | refine LR rfl (JG rfl rfl rfl) ?_ | refine LK rfl ?_ | (refine JB 20 rfl (fun gb => ?_) (fun gb => ?_) <;> (try simp only [ZZ] at gb) <;> first | (refine LR rfl (JG rfl rfl rfl) ?_) | (refine LK rfl ?_))
  all_goals refine LW 1 [0] rfl rfl ?_
  all_goals first | refine LR rfl (J5 rfl hseg rfl) ?_ | refine LK rfl ?_
  all_goals (
   refine LW 2 [] rfl rfl (Jx 1 rfl (Zn 1 rfl ?_)); refine J0 rfl (fun g => ?_) (fun g => ?_)
   try simp only [ZZ] at g
   refine Kn 7 rfl ?_; refine pT rfl rfl rfl fun w1 hs1 => ?_; rw [h1 (by omega)]; exact ⟨rfl, hs1.keep⟩
   · try exact Bool.noConfusion g
     all_goals try simp only [ZZ] at g
     all_goals (
      refine JP 9 rfl ?_
      have h0 : ¬ (100 < (a.addr.length : Int) ∨ (60 < (a.code.length : Int) ∧ (a.code.length : Int) ≤ 512) ∨ 20 < (a.slots.length : Int)) := by
        simp_all
        all_goals first | done | omega | trace_state
      refine J2 (σ := Nat) (fun i => i ≤ a.slots.length ∧ ∀ (j : Nat) (x : BS × BS), j < i → a.slots[j]? = some x → x.1.length ≤ 100 ∧ x.2.length ≤ 100) (fun i => [(1, .pointer (some ⟨r1, 0, none⟩)), (3, .int .i64 (i : Int))]) (fun _ => [(r1, .cells a.cells.toArray 48 (0, 0))]) (fun _ _ _ => True) (fun i => a.slots.length - i) 0 ⟨Nat.zero_le _, fun _ _ h => absurd h (Nat.not_lt_zero _)⟩ (lK rfl) (List.Sublist.refl _) (fun _ _ h => h) ?_; rintro i ⟨hi1, hinv⟩; refine X6 6 [0] rfl rfl ?_; refine LR rfl (J5 rfl hseg rfl) ?_; refine JN 3 rfl ?_; refine cD (fun g => ?_) fun g => ?_
      · refine JP 5 rfl ?_
        obtain ⟨x, hx, hmx⟩ := Ve (show i < a.slots.length by omega)
        have hxl := ha.slots x hmx
        refine X6 4 [0] rfl rfl ?_
        refine LR rfl (Js (j := i) rfl hseg rfl rfl rfl (by first | rfl | omega) (by omega)) ?_; refine LR rfl (QL (off' := plO a.p + (i * 2 + 0)) rfl rfl (by show plO a.p + i * 2 + 0 = _; omega)) ?_; refine LR rfl (vv Kj (k := 0) (v := J6 x.1) oR rfl hseg hx rfl rfl) ?_; refine LR rfl (Qe rfl rfl) ?_; refine LS 2 [] rfl rfl ?_
        refine JB 41 rfl (fun gb => ?_) (fun gb => ?_) <;> (try simp only [ZZ] at gb) <;> first | (refine LR rfl (JG rfl rfl rfl) ?_) | (refine LK rfl ?_)
        all_goals refine LW 2 [0] rfl rfl ?_
        all_goals first | (refine LR rfl (Js (j := i) rfl hseg rfl rfl rfl (by first | rfl | omega) (by omega)) ?_) | refine LK rfl ?_
        all_goals first | (refine LR rfl (QL (off' := plO a.p + (i * 2 + 1)) rfl rfl (by show plO a.p + i * 2 + 1 = _; omega)) ?_) | refine LK rfl ?_
        all_goals first | refine LR rfl (vv Kj (k := 1) (v := J6 x.2) oR rfl hseg hx rfl rfl) ?_ | refine LK rfl ?_
        all_goals first | refine LR rfl (Qe rfl rfl) ?_ | refine LK rfl ?_
        all_goals (
         refine LW 2 [] rfl rfl (Jx 1 rfl (Zn 1 rfl ?_)); refine J0 rfl (fun g => ?_) (fun g => ?_)
         try simp only [ZZ] at g
         refine Kn 11 rfl ?_; refine pT rfl rfl rfl fun w1 hs1 => ?_; rw [hres, Jtv hx (by omega)]; exact ⟨rfl, hs1.keep⟩
         · try exact Bool.noConfusion g
           all_goals try simp only [ZZ] at g
           all_goals (
            refine Jq 6 rfl ?_; refine Jc (by omega) (by omega) ?_; refine Jx 2 rfl ?_; refine Jz ?_
            exact Jt (i + 1) ⟨by omega, fun j y hj hy => by
              rcases Nat.lt_succ_iff_lt_or_eq.1 hj with h | rfl
              exact hinv j y h hy
              · obtain rfl := Option.some.inj (hx.symm.trans hy); simp_all; all_goals first | done | omega | trace_state⟩ (by omega) (lK rfl) (List.Sublist.refl _) (fun _ _ h => h)
            skip)
         skip)
      refine Kn 11 rfl ?_; refine pT rfl rfl rfl fun w1 hs1 => ?_; rw [h2 h0 (fun j y hy => hinv j y (by have := (List.getElem?_eq_some_iff.1 hy).1; omega) hy)]; exact ⟨rfl, hs1.keep⟩
      skip)
   skip)
theorem Jtx {R : Ji} {s : StL} (hs : s.In R) : PureR Tryz.prog 29 [s.val].toArray (.bool (Zt s.er)) R := by
  have hl := hs.len
  have hseg := hs.seg
  obtain ⟨⟨rb, rn⟩, hres⟩ : ∃ b, b = Ze 0 0 s.er := ⟨_, rfl⟩
  have hfs : Zt s.er = (rb && (decide (s.accts.length ≤ 40) && decide (rn ≤ 40))) := by unfold Zt; rw [← hres, s.er_len]
  rw [hfs]; refine Ja Tryz.func29 rfl rfl fun w => ?_; refine J9 ?_; refine Jq 2 rfl ?_; refine Kk (cs := s.cells.toArray) rfl rfl rfl rfl fun r1 => ?_; refine JN 15 rfl ?_; refine J2 (σ := Nat × Int) (fun q => q.1 ≤ s.accts.length ∧ 0 ≤ q.2 ∧ q.2 ≤ 20 * q.1 ∧ q.1 ≤ 41 ∧ Ze q.1 q.2 (s.er.drop q.1) = (rb, rn)) (fun q => [(1, .pointer (some ⟨r1, 0, none⟩)), (3, .int .i64 q.2), (4, .int .i64 (q.1 : Int))]) (fun _ => [(r1, .cells s.cells.toArray 36 (0, 0))]) (fun _ _ _ => True) (fun q => s.accts.length - q.1) (0, 0) ⟨Nat.zero_le _, by omega, by omega, by omega, hres.symm⟩ (lK rfl) (List.Sublist.refl _) (fun _ _ h => h) ?_; rintro ⟨i, n⟩ ⟨hi1, hn0, hn1, hi41, hinv⟩; simp only at hi1 hn0 hn1 hi41 hinv; change HC _ _ [(1, _), (3, .int .i64 n), (4, .int .i64 (i : Int))] _ _ _ _; refine X6 6 [0] rfl rfl ?_; refine LR rfl (J5 rfl hseg rfl) ?_; refine LS 2 [] rfl rfl ?_
  refine JB 11 rfl (fun gb => ?_) (fun gb => ?_) <;> (try simp only [ZZ] at gb) <;> first | (refine QI rfl ?_) | (refine LK rfl ?_)
  all_goals (
   refine LW 2 [] rfl rfl (Jx 1 rfl (Zn 1 rfl ?_)); refine J0 rfl (fun g => ?_) (fun g => ?_)
   · try exact Bool.noConfusion g
     all_goals try simp only [ZZ] at g
     all_goals (
      refine JP 5 rfl ?_
      obtain ⟨a, ha, hma⟩ := Ve (show i < s.accts.length by omega)
      have ha2 := hs.accts a hma
      have hi40 : i ≤ 40 := by simp_all <;> omega
      refine X6 4 [0] rfl rfl ?_
      refine LR rfl (Js (j := i) rfl hseg rfl rfl rfl (by first | rfl | omega) (by omega)) ?_; refine LR rfl (Kw AcL.len oR rfl hseg ha rfl rfl) ?_; refine Je rfl rfl rfl (enters_of Tryz.func69 (by kernel_rfl) rfl) (Jkb ha2) oR ?_; refine JN 10 rfl ?_; refine cD (fun g => ?_) fun g => ?_
      refine Kn 12 rfl ?_; refine pT rfl rfl rfl fun w1 hs1 => ?_
      (have hff : X5 a.er = false := by simp_all
       have h1 := Jpi (n := n) (vE ha) hi40 hff
       rw [hinv] at h1
       rw [show rb = false from h1]; exact ⟨rfl, hs1.keep⟩)
      refine JP 2 rfl ?_
      have hft : X5 a.er = true := by simp_all
      have h20 := Jtw hft
      have h20 : a.slots.length ≤ 20 := h20
      rw [Jpg (vE ha) hi40 hft] at hinv; refine X6 5 [0] rfl rfl ?_
      refine LR rfl (Js (j := i) rfl hseg rfl rfl rfl (by first | rfl | omega) (by omega)) ?_; refine LR rfl (QL (off' := plO s.p + (i * 8 + 7)) rfl rfl (by show plO s.p + i * 8 + 7 = _; omega)) ?_; refine LR rfl (vv AcL.len (k := 7) (v := KG a.slots.length a.p) oR rfl hseg ha rfl rfl) ?_; refine LR rfl (J5 rfl ha2.seg rfl) ?_; refine Wm rfl (Jc (by omega) (by omega) (JF 7 rfl ?_)); refine Jc (by omega) (by omega) ?_; refine Jx 2 rfl ?_; refine Jz ?_; exact Jt (i + 1, n + (a.slots.length : Int)) ⟨by simp only; omega, by simp only; omega, by simp only; omega, by simp only; omega, hinv⟩ (by simp only; omega) (lK rfl) (List.Sublist.refl _) (fun _ _ h => h)
      skip)
   · try simp only [ZZ] at g
     refine X6 9 [0] rfl rfl ?_; refine LR rfl (J5 rfl hseg rfl) ?_; refine LS 2 [] rfl rfl ?_
     refine JB 38 rfl (fun gb => ?_) (fun gb => ?_) <;> (try simp only [ZZ] at gb) <;> first | (refine QI rfl ?_) | (refine LK rfl ?_)
     all_goals (
      refine LW 3 [] rfl rfl (Jx 1 rfl (ZM 2 rfl ?_)); refine pT rfl rfl rfl fun w1 hs1 => ?_
      first
        | (have hff : X5 a.er = false := by simp_all
           have h1 := Jpi (n := n) (vE ha) hi40 hff
           rw [hinv] at h1
           rw [show rb = false from h1]; exact ⟨rfl, hs1.keep⟩)
        | (rw [Jph (by rw [s.er_len]; omega)] at hinv
           obtain ⟨rfl, rfl⟩ := Prod.mk.inj hinv
           refine ⟨?_, hs1.keep⟩
           simp [J8]
           all_goals first | done | omega | trace_state)
        | trace_state
      skip)
   skip)
def rw1 : Rec := ⟨5, 6, ⟨7, 0, 0, 0⟩, w40, w40, 8, 0, 0⟩
theorem jO {n : Nat} (h : n < 1000) : VF n := by unfold VF; omega
theorem Jpj {a b : Int} (h : a = b) : Value.int .i64 a = .int .i64 b := congrArg _ h
structure Stay (s t : StL) (a key : BS) : Prop where
  there : Yf s a = true → Yf t a = true
  oth : a ≠ A0 → a ≠ A1 → Yf s a = Yf t a ∧ (Qm s a).er = (Qm t a).er
  nonce : (Qm s a).nonce = (Qm t a).nonce
  bal : (Qm s a).bal = (Qm t a).bal
  slot : (a = A0 → ¬ zI key) → Q4 (Qm s a).er key = Q4 (Qm t a).er key
theorem Jwv {α : Type} {p : α → Bool} {l : List α} {j : Nat} {x : α} (h : l[j]? = some x) (hp : p x = true) : l.any p = true := List.any_eq_true.2 ⟨x, List.mem_of_getElem? h, hp⟩
theorem Jpk {α : Type} {p : α → Bool} {l : List α} (h : ∀ (j : Nat) x, l[j]? = some x → p x = false) : l.any p = false := by
 rw [List.any_eq_false]; intro x hx
 obtain ⟨j, hj⟩ := List.getElem?_of_mem hx
 rw [h j x hj]; simp
structure RackI (a : AcL) (rb : Bool) (i : Nat) (rs sp : Bool) : Prop where
  le : i ≤ a.slots.length
  odd : ∀ (j : Nat) x, j < i → a.slots[j]? = some x → q6 x = false
  rs : rs = true ↔ rb = true ∧ ∀ (j : Nat) x y, j + 1 < i → a.slots[j]? = some x → a.slots[j + 1]? = some y → Op.bytesLess x.1 y.1 = true
  sp : sp = true ↔ ∃ (j : Nat) (x : BS × BS), j < i ∧ a.slots[j]? = some x ∧ x.2 = Vc
theorem RackI.zero (a : AcL) (rb : Bool) : RackI a rb 0 rb false := ⟨Nat.zero_le _, fun _ _ h => absurd h (Nat.not_lt_zero _), by simp, by simp⟩
theorem RackI.next {a : AcL} {rb : Bool} {i : Nat} {rs sp rs' sp' : Bool} {x : BS × BS} (h : RackI a rb i rs sp) (hx : a.slots[i]? = some x) (ho : x.1.length = 32 ∧ x.2.length = 32)
  (hr : rs' = (rs && (decide (i = 0) || Op.bytesLess ((a.slots[i - 1]?.map Prod.fst).getD []) x.1))) (hp : sp' = (sp || decide (x.2 = Vc))) : RackI a rb (i + 1) rs' sp' := by
 have hlt := (List.getElem?_eq_some_iff.1 hx).1
 refine ⟨hlt, fun j y hj hy => ?_, ?_, ?_⟩
 ·rcases Nat.lt_succ_iff_lt_or_eq.1 hj with hj | rfl
  ·exact h.odd j y hj hy
  ·rw [hx] at hy; cases hy
   unfold q6; simp [ho.1, ho.2]
 ·rw [hr, Bool.and_eq_true, h.rs, Bool.or_eq_true, decide_eq_true_eq]
  constructor
  ·rintro ⟨⟨h1, h2⟩, h3⟩
   refine ⟨h1, fun j u v hj hu hv => ?_⟩
   rcases Nat.lt_succ_iff_lt_or_eq.1 hj with hj | hj
   ·exact h2 j u v hj hu hv
   ·subst hj
    rw [hx] at hv; cases hv; rw [show j + 1 - 1 = j by omega, hu] at h3; exact h3.resolve_left (by omega)
  ·rintro ⟨h1, h2⟩
   refine ⟨⟨h1, fun j u v hj hu hv => h2 j u v (by omega) hu hv⟩, ?_⟩
   rcases Nat.eq_zero_or_pos i with h0 | h0
   ·exact .inl h0
   ·obtain ⟨j, rfl⟩ : ∃ j, i = j + 1 := ⟨i - 1, by omega⟩
    obtain ⟨u, hu, -⟩ := Ve (show j < a.slots.length by omega)
    rw [show j + 1 - 1 = j by omega, hu]; exact .inr (h2 j u x (by omega) hu hx)
 ·rw [hp, Bool.or_eq_true, h.sp, decide_eq_true_eq]
  constructor
  ·rintro (⟨j, u, hj, hu, e⟩ | e)
   ·exact ⟨j, u, by omega, hu, e⟩
   ·exact ⟨i, x, by omega, hx, e⟩
  ·rintro ⟨j, u, hj, hu, e⟩
   rcases Nat.lt_succ_iff_lt_or_eq.1 hj with hj | rfl
   ·exact .inl ⟨j, u, hj, hu, e⟩
   ·rw [hx] at hu; cases hu; exact .inr e
theorem RackI.done {a : AcL} {rb : Bool} {rs sp : Bool} (h : RackI a rb a.slots.length rs sp) : a.slots.any q6 = false ∧ rs = (rb && Q7 Prod.fst a.slots) ∧ sp = a.slots.any Xw := by
 have hlt : ∀ (j : Nat) (x : BS × BS), a.slots[j]? = some x → j < a.slots.length := fun j x hx => (List.getElem?_eq_some_iff.1 hx).1
 refine ⟨Jpk fun j x hx => h.odd j x (hlt j x hx) hx, ?_, ?_⟩
 ·rw [Bool.eq_iff_iff, h.rs, Bool.and_eq_true]
  refine and_congr_right fun _ => ⟨fun hh => YN fun j x y hx hy => hh j x y (hlt _ _ hy) hx hy, fun hh j x y _ hx hy => ?_⟩
  cases hb : Op.bytesLess x.1 y.1
  ·rw [jc hx hy hb] at hh; cases hh
  ·rfl
 ·rw [Bool.eq_iff_iff, h.sp]
  constructor
  ·rintro ⟨j, x, _, hx, e⟩
   exact Jwv hx (by unfold Xw; rw [e]; simp)
  ·intro hh
   obtain ⟨x, hx, e⟩ := List.any_eq_true.1 hh
   obtain ⟨j, hj⟩ := List.getElem?_of_mem hx
   exact ⟨j, x, hlt j x hj, hj, by simpa [Xw] using e⟩
theorem chk_one (e : AcE) : KT [e] = Wy e := by
 unfold KT goS
 rw [if_neg (by show ¬ 1 > 32; decide), yg]
 split
 ·rfl
 ·rename_i h
  rw [goS]; exact (Decidable.not_not.1 h).symm
structure OutI {α : Type} (f : α → List Value) (sz : Nat) (acc : List α) (n : Nat) (xs : List Value) (row : QJ) : Prop where
  num : n = acc.length
  cells : xs = acc.flatMap f
  ok : rowOk sz n xs row
theorem OutI.nil {α : Type} {f : α → List Value} {sz : Nat} : OutI f sz [] 0 [] none := ⟨rfl, rfl, rfl, rfl⟩
theorem one_seg {a : AcL} {r : Nat} : Seg [(r, .cells a.cells.toArray 48 (0, 0))] [a].length ([a].flatMap AcL.cells) (some (⟨r, 0, none⟩, 1)) := by
 have h := Kx (row := some (r, 1, [])) (sz := 8) (n := 1) (e := 48) (cs := a.cells) ⟨rfl, rfl⟩ (by decide)
 simpa [JL, QR] using h
theorem xA {R : Ji} {a : AcL} (ha : a.In R) (r : Nat) : StL.In ((r, .cells a.cells.toArray 48 (0, 0)) :: R) ⟨[a], some (⟨r, 0, none⟩, 1)⟩ :=
 ⟨by show 1 ≤ _; decide, one_seg.mono fun q hq => by rw [List.mem_singleton.1 hq]; exact List.mem_cons_self, fun x hx => by rw [List.mem_singleton.1 hx]; exact ha.mono fun q hq => List.mem_cons_of_mem _ hq⟩
open Go.Proofs (Enters enters_of)
theorem jp {k n : Int} {p : Pl} {x : Ty} {l : List Vl} (hk : (k = 3 ∧ (l.length : Int) = n) ∨ (k = 4 ∧ (l.length : Int) ≤ n)) (h : ∀ v ∈ l, KC v x = 0) : KC (KO l 0) (.mk k n p [x]) = 0 := by
 have hL : ∀ (l : List Vl) (i : Nat), (∀ v ∈ l, KC v x = 0) → Q2 l k 0 [x] i = 0 := by
  intro l
  induction l with
  | nil => intro i _; rw [Q2]
  | cons v l ih =>
   intro i h
   have e : JO k 0 [x] i = x := by unfold JO Xl; rcases hk with ⟨rfl, _⟩ | ⟨rfl, _⟩ <;> rfl
   rw [Q2, e, if_pos (h v (by simp)), ih _ (fun w hw => h w (by simp [hw]))]
 unfold KO
 rw [jJ ?_ ?_, hL l 0 h]
 ·rcases hk with ⟨rfl, h1⟩ | ⟨rfl, h1⟩ <;> simp <;> omega
 ·rw [Vf k n _ 0 0 0 0 [] none l none 0 _ rfl]
  rcases hk with ⟨rfl, h1⟩ | ⟨rfl, h1⟩ <;> simp [QT, h1]
theorem wi {a b c d : Nat} {n : Int} {p : Pl} (h : ((Wr [a, b, c, d]).length : Int) ≤ n) : KC (.mk a b c d [] none [] none 0) (.mk 1 n p []) = 0 := by
 rw [jJ (by simp) (by rw [Vf 1 n _ a b c d [] none [] none 0 _ rfl]; simp [QT, h]), Q2]
theorem Jww : ∀ i : Fin 256, (Wr [i.val, 0, 0, 0]).length ≤ 1 := by decide +kernel
theorem Jpl (b : UInt8) : KC (Zw b) byT = 0 := wi (by have := Jww ⟨b.toNat, Yt b⟩; simp only at this; omega)
theorem xB {s : BS} {n : Int} (h : (s.length : Int) = n) : KC (wG s) (Xh 3 n) = 0 := jp (.inl ⟨rfl, by rw [List.length_map]; exact h⟩) fun v hv => by obtain ⟨b, _, rfl⟩ := List.mem_map.1 hv; exact Jpl b
theorem Jty {s : BS} {n : Int} (h : (s.length : Int) ≤ n) : KC (wG s) (Xh 4 n) = 0 := jp (.inr ⟨rfl, by rw [List.length_map]; exact h⟩) fun v hv => by obtain ⟨b, _, rfl⟩ := List.mem_map.1 hv; exact Jpl b
theorem Jtz {x : BS × BS} (h1 : x.1.length = 32) (h2 : x.2.length = 32) : KC (wf x) xm = 0 := by
 unfold wf xm KO
 rw [jJ (by simp) (by rw [Vf 7 0 _ 0 0 0 0 [] none _ none 0 _ rfl]; simp [QT]), Q2, show JO 7 0 [Xh 3 32, Xh 3 32] 0 = Xh 3 32 from rfl, if_pos (xB (by omega)), Q2, show JO 7 0 [Xh 3 32, Xh 3 32] (0 + 1) = Xh 3 32 from rfl, if_pos (xB (by omega)), Q2]
theorem Jt0 {n : Nat} (h : VF n) : (Wr [n, 0, 0, 0]).length ≤ 8 := by
 have h1 := Jjq (l := [n, 0, 0, 0]) (Jv3 h)
 rw [Jnq] at h1; exact of_decide_eq_true h1.symm
theorem Jwx {a : AcE} (h : Wy a = 0) (hn : VF a.nonce) : KC (acV a) acT = 0 := by
 obtain ⟨h1, h2, _, h4, h5⟩ := QE h
 obtain ⟨I, hI⟩ : ∃ I, I = [Xh 3 20, .mk 1 8 none [], .mk 1 32 none [], Xh 4 512, .mk 4 16 none [xm]] := ⟨_, rfl⟩
 have e0 : JO 7 0 I 0 = Xh 3 20 := by rw [hI]; rfl
 have e1 : JO 7 0 I (0 + 1) = .mk 1 8 none [] := by rw [hI]; rfl
 have e2 : JO 7 0 I (0 + 1 + 1) = .mk 1 32 none [] := by rw [hI]; rfl
 have e3 : JO 7 0 I (0 + 1 + 1 + 1) = Xh 4 512 := by rw [hI]; rfl
 have e4 : JO 7 0 I (0 + 1 + 1 + 1 + 1) = .mk 4 16 none [xm] := by rw [hI]; rfl
 have hl : I.length = 5 := by rw [hI]; rfl
 have hsl : KC (Vl.mk 0 0 0 0 [] none (a.slots.map wf) none 0) (.mk 4 16 none [xm]) = 0 := jp (.inr ⟨rfl, by rw [List.length_map]; omega⟩) fun v hv => by
  obtain ⟨x, hx, rfl⟩ := List.mem_map.1 hv
  exact Jtz (h2 x hx).1 (h2 x hx).2.1
 unfold acV acT KO
 rw [← hI, jJ (by simp) (by rw [hl, Vf 7 0 _ 0 0 0 0 [] none _ none 0 _ rfl]; simp [QT]), Q2, e0, if_pos (xB (by omega)), Q2, e1, if_pos (wi (by have := Jt0 hn; omega)), Q2, e2, if_pos (wi (by have := Jep [a.bal.a, a.bal.b, a.bal.c, a.bal.d]; omega)),
  Q2, e3, if_pos (Jty (by omega)), Q2, e4, if_pos hsl, Q2]
theorem xC {l : List AcE} (h : KT l = 0) (hn : ∀ a ∈ l, VF a.nonce) : Vm jL (YB l) = 0 := by
 obtain ⟨h1, h2, _⟩ := Xx.1 h
 unfold Vm
 rw [if_pos Jhu]
 exact jp (.inr ⟨rfl, by rw [List.length_map]; omega⟩) fun v hv => by
  obtain ⟨a, ha, rfl⟩ := List.mem_map.1 hv
  exact Jwx (h2 a ha) (hn a ha)
theorem Jh5 {s : StL} (h : KT s.er = 0) : s.accts.length ≤ 100000 ∧ ∀ a ∈ s.accts, Ac1 a := by
 obtain ⟨h1, h2, _⟩ := Xx.1 h
 rw [s.er_len] at h1; refine ⟨by omega, fun a ha => ?_⟩
 obtain ⟨g1, g2, _, g4, g5⟩ := QE (h2 a.er (List.mem_map.2 ⟨a, ha, rfl⟩))
 change a.addr.length = 20 at g1; change a.code.length ≤ 512 at g4; change a.slots.length ≤ 16 at g5; exact ⟨by omega, by omega, by omega, fun x hx => by obtain ⟨e1, e2, _⟩ := g2 x hx; omega⟩
theorem Jwy {R : Ji} {s : StL} (hs : s.In R) (h : KT s.er = 0) : Vm jL (YB s.er) = 0 := xC h fun a ha => by
 obtain ⟨b, hb, rfl⟩ := List.mem_map.1 ha
 exact (hs.accts b hb).nonce
theorem Jcz : ∀ l : List Vl, (∀ x ∈ l, Nonempty (VR x)) → ∃ (ys : List Vl) (L : Ji), ys.map Zh = l ∧ ∀ y ∈ ys, y.In L
 | [], _ => ⟨[], [], rfl, fun y hy => nomatch hy⟩
 | x :: l, h => by
  obtain ⟨ys, L, h1, h2⟩ := Jcz l fun y hy => h y (List.mem_cons_of_mem _ hy)
  obtain ⟨v⟩ := h x List.mem_cons_self
  refine ⟨v.x :: ys, v.L ++ L, by rw [List.map_cons, v.er, h1], fun y hy => ?_⟩
  rcases List.mem_cons.1 hy with rfl | hy
  ·exact v.ok.mono fun q hq => List.mem_append_left _ hq
  ·exact (h2 y hy).mono fun q hq => List.mem_append_right _ hq
theorem Za {l : List Vl} (h : ∀ x ∈ l, Nonempty (VR x)) (hl : l.length ≤ 100000) : Nonempty (VR (KO l 0)) := by
 obtain ⟨ys, L, h1, h2⟩ := Jcz l h
 have hy : ys.length = l.length := by rw [← h1, List.length_map]
 exact ⟨⟨.mk 0 0 0 0 [] none ys (some (⟨0, 0, none⟩, ys.length)) 0, (0, .cells (Qv ys).toArray 0 (0, 0)) :: L, .mk u0 u0 u0 u0 (by decide) rfl (by omega) ⟨Nat.le_refl _, fun _ => ⟨rfl, _, 0, (0, 0), List.mem_cons_self, by rw [List.drop_zero, List.toList_toArray, List.take_length]⟩⟩ i0 fun x hx => (h2 x hx).mono fun q hq => List.mem_cons_of_mem _ hq, by rw [Wv, WD, h1]; rfl⟩⟩
theorem Jh6 {a b c d : Nat} (ha : VF a) (hb : VF b) (hc : VF c) (hd : VF d) : Nonempty (VR (.mk a b c d [] none [] none 0)) :=
 ⟨⟨.mk a b c d [] none [] none 0, [], .mk ha hb hc hd (by decide) rfl (by decide) rfl i0 (fun x hx => nomatch hx), by rw [Wv, qT]⟩⟩
theorem xD {s : BS} (hl : s.length ≤ 100000) : Nonempty (VR (wG s)) := ⟨Joo hl⟩
theorem Jwz {a : AcL} (h : Ac1 a) (hn : VF a.nonce) (hb : a.bal.ok) : Nonempty (VR (acV a.er)) := by
 obtain ⟨h1, h2, h3, h4⟩ := h
 refine Za (fun x hx => ?_) (by show 5 ≤ 100000; decide); simp only [List.mem_cons, List.not_mem_nil, or_false] at hx
 rcases hx with rfl | rfl | rfl | rfl | rfl
 ·exact xD h1
 ·exact Jh6 hn u0 u0 u0
 ·exact Jh6 hb.a hb.b hb.c hb.d
 ·exact xD h2
 ·refine Za (fun x hx => ?_) (by rw [List.length_map]; exact h3)
  obtain ⟨⟨k, v⟩, hy, rfl⟩ := List.mem_map.1 hx
  refine Za (fun x hx => ?_) (by show 2 ≤ 100000; decide); simp only [List.mem_cons, List.not_mem_nil, or_false] at hx
  rcases hx with rfl | rfl
  ·exact xD (h4 _ hy).1
  ·exact xD (h4 _ hy).2
theorem Jw0 {R : Ji} {s : StL} (hs : s.In R) (h : KT s.er = 0) : Nonempty (VR (YB s.er)) := by
 obtain ⟨hn, hb⟩ := Jh5 h
 refine Za (fun x hx => ?_) (by rw [List.length_map, s.er_len]; exact hn)
 obtain ⟨a, ha, rfl⟩ := List.mem_map.1 hx
 obtain ⟨b, hb2, rfl⟩ := List.mem_map.1 ha
 exact Jwz (hb b hb2) (hs.accts b hb2).nonce (hs.accts b hb2).bal
def Jyv : TR jL := ⟨Joc 0 0 0 0 0 0 0 0, [(0, Jj1 0), (0, .cells #[.int .i64 3, .int .i64 32, .slice (some ⟨0, 0, none⟩) 1 1, .int .i64 3, .int .i64 32, .slice (some ⟨0, 0, none⟩) 1 1] 0 (0, 0)), (0, .cells #[.int .i64 7, .int .i64 0, .slice (some ⟨0, 0, none⟩) 2 2] 0 (0, 0)),
 (0, .cells #[.int .i64 3, .int .i64 20, .slice (some ⟨0, 0, none⟩) 1 1, .int .i64 1, .int .i64 8, .slice none 0 0, .int .i64 1, .int .i64 32, .slice none 0 0, .int .i64 4, .int .i64 512, .slice (some ⟨0, 0, none⟩) 1 1, .int .i64 4, .int .i64 16, .slice (some ⟨0, 0, none⟩) 1 1] 0 (0, 0)),
 (0, .cells #[.int .i64 7, .int .i64 0, .slice (some ⟨0, 0, none⟩) 5 5] 0 (0, 0))], Jhk (e := 0) (by simp) (by simp) (by simp) (by simp) (by simp) (by simp) (by simp) (by simp), Jhl ..⟩
theorem Jpm (t : Ty) (v : Vl) : XO t (Zh v) = XO t v := by unfold XO Vm; rw [Jwf, Js3]
theorem Jpn {T : Ty} {V : Vl} (t : TR T) (v : VR V) : XO t.x v.x = XO T V := by obtain ⟨x, L, ok, rfl⟩ := t; obtain ⟨y, M, ok2, rfl⟩ := v; rw [Jj6, Jpm]
theorem Jc0 {l : List AcE} (h : KT l = 0) (hf : Vm jL (YB l) = 0) : Ql l = (KI (YB l) jL, 0) := by
 unfold Ql XO
 rw [if_neg (by omega), if_neg (by omega)]
theorem YC {R : Ji} {s : StL} (hs : s.In R) (hw : KT s.er = 0 → Yo (YB s.er) ≤ 20000) : PureR Tryz.prog 20 [s.val].toArray (Wt (Ql s.er)) R := by
 have hC := YZ hs
 have hac := Jh5 (s := s)
 have hlay := Jw0 hs
 have hfit := Jwy hs
 have hb0 : KT s.er ≠ 0 → Ql s.er = ([], KT s.er) := fun h => by unfold Ql; rw [if_pos h]
 have hb1 : KT s.er = 0 → Ql s.er = XO jL (YB s.er) := fun h => by unfold Ql; rw [if_neg (by omega)]
 obtain ⟨accts, p⟩ := s
 generalize hz0 : KT (StL.er ⟨accts, p⟩) = z at *
 refine Ja Tryz.func20 rfl rfl fun w => ?_; refine J9 ?_; refine Jq 2 rfl ?_; refine LN rfl fun r1 => ?_; refine JF 7 rfl ?_; refine LR rfl (Jp (vs := [_]) rfl (kn 0 rfl) rfl rfl rfl rfl) ?_; refine Je rfl rfl rfl Jr3 hC oR ?_; refine JN 9 rfl ?_; refine cD (fun g => ?_) fun g => ?_
 refine Kn 9 rfl ?_; refine Jh rfl rfl (.cons (Jj rfl) (.cons (Jj rfl) .nil)) (fun w1 hs1 => ?_); refine ⟨?_, hs1.keep⟩; rw [hb0 (by assumption)]; rfl
 ·refine JP 3 rfl ?_
  have hz : z = 0 := by assumption
  obtain ⟨hn, hb⟩ := hac hz
  obtain ⟨v0⟩ := hlay hz
  have hww := hw hz
  refine JM [(r1, .cells #[KG accts.length p] 36 (0, 0))] [(0, .grow (KY Jyv (fun y => y.x.val) (fun y => y.L))), (1, .pure), (2, .pure), (3, .grow (KY v0 (fun y => y.x.val) (fun y => y.L))), (5, .pure), (6, .pure)] 7 [1, 2, 0, 3, 4, 5, 6] (by kernel_rfl) (by kernel_rfl) (by first | exact (fun _ h => absurd h List.not_mem_nil) | simp [SubS] | (intro p hp; simp [hp])) ?_
  refine Jl (k := 1) rfl rfl rfl rfl rfl (fun _ hS => (JG rfl rfl rfl)) ?_; refine Jl (k := 2) rfl rfl rfl rfl rfl (fun _ hS => (Jd rfl (.inl (hS _ (Jo (n := 0) rfl))) rfl rfl)) ?_; refine KS (k := 0) rfl rfl rfl rfl rfl (enters_of Tryz.func46 (by kernel_rfl) rfl) Js4 oN fun t => ?_; refine KS (k := 3) rfl rfl rfl rfl rfl (enters_of Tryz.func47 (by kernel_rfl) rfl) (Jtb hs hn hb) oR fun v => ?_
  refine KH (k := 4) (Rl := v.L ++ t.L) rfl rfl rfl rfl rfl (enters_of Tryz.func45 (by kernel_rfl) rfl) (Js6 (t.ok.mono fun q hq => List.mem_append_right _ hq) (v.ok.mono fun q hq => List.mem_append_left _ hq) (by rw [← Jyk v.x, v.er]; exact hww)) (fun q hq => .inl (by rcases List.mem_append.1 hq with h | h <;> simp [h])) ?_; refine We (congrArg Wt (Jpn t v)) ?_; refine Jl (k := 5) rfl rfl rfl rfl rfl (fun _ hS => (JX rfl rfl)) ?_; refine Jl (k := 6) rfl rfl rfl rfl rfl (fun _ hS => (JX rfl rfl)) ?_; refine Ko ?_; refine Jx 5 rfl ?_; refine Jh rfl rfl (.cons (Jj rfl) (.cons (Jj rfl) .nil)) (fun w1 hs1 => ?_); refine ⟨?_, hs1.keep⟩; rw [hb1 hz]; rfl
structure Num8 (s : BS) (x : Nat) : Prop where
  len : s.length = 8
  u : VF x
  at_ : ∀ i, i < 8 → (s.getD i 0).toNat = x / 256 ^ (7 - i) % 256
theorem yK {c : Cx} {l : Ki} {E : Ji} {X : XP} {d : List Deferred} {ops : Array Oper} {rest : List Nat} {k : Nat} {tb : Zu} {S : Ji} {T : Ji → Act → Prop} {t ty : TypeId} {ps : String} {af : Array Edge} {gd : Option (Nat × Bool)} {x y : Operand} {q r off n : Nat} {cs cs' : Array Value} {vs : Array Value} {e : TypeId} {E' : Ji} (hko : WF ops.toList k = some ⟨none, .store t x y, ty, ps, af, gd⟩) (hg : JV l ops ⟨none, .store t x y, ty, ps, af, gd⟩ = some true) (hA : tb k = .turn)
  (hx : JT l x = some (.pointer (some ⟨r, off, none⟩))) (hk : E[q]? = some (r, .cells cs e (0, 0))) (hy : JT l y = some (.agg vs)) (ht : KB c.P t = some n) (hn : vs.size = n) (ho : vs.toList.all Qu = true) (hc : off + n ≤ cs.size)
  (hcs : (cs.toList.take off ++ vs.toList ++ cs.toList.drop (off + n)).toArray = cs') (hL : E.set q (r, .cells cs' e (0, 0)) = E') (hS : SubS S E')
  (h : HB c d l E' X S ops tb rest T) : HB c d l E X S ops tb (k :: rest) T :=
 ZT hko hg rfl hA (fun a w hf hs => ⟨w.setRow r cs', by
  simp only [execOp]; rw [hf.eval hx, hf.eval hy]
  have h1 := run_storeCells_at (P := c.P) r off e vs.toList 0 cs w (hs.get hk) (by simp [hn]; omega) (fun u hu => by rw [W0]; exact List.all_eq_true.1 ho u hu)
  simp only [Nat.add_zero, Array.length_toList, hn] at h1; rw [hcs] at h1
  simp [Instr.storeAt, Instr.sureAddr, Sem.run_bind, Result.andThen, storeVar, QB ht, Value.cells, hn, h1], by
  subst hL
  exact hs.set hk (Keep.setRow r cs') (setRow_heap _ _ _ _ _ _ (hs.get hk))⟩) hS h
theorem _root_.Go.SL.PureT.ne {α : Type} {P : Program} {f : FuncId} {args : Array Value} {V : α → Value} {LL : α → Ji} {Rl : Ji} (h : PureT P f args V [] LL Rl) {w : World} (hR : xR Rl w) : Nonempty α := by
 obtain ⟨e, w', fr, ⟨x, _⟩, _⟩ := h.run w (fun p hp => by cases hp) hR List.Pairwise.nil (fun p _ q hq => by cases hq) []
 exact ⟨x⟩
theorem xE {α : Type} {P : Program} {f : FuncId} {fn : Func} {code : Code} {vs : List Value} {V : α → Value} {T Rl : Ji} {LL : α → Ji} (hf : P.funcs[f]? = some fn) (hb : fn.body = some code) (hlen : Nat.ble vs.length fn.ntmps = true)
  (h : ∀ w, xR Rl w → HC (cxT P w T Rl fn.ntmps) [] (Vr 0 vs) T (fun _ _ => True) code (bodyPostM (FW none) 0 P fn (fun e w' => ∃ x, e = .returned (V x) ∧ St (cxT P w T Rl fn.ntmps) (LL x) (fun _ _ => True) w'))) : PureT P f vs.toArray V T LL Rl := ⟨fun w hT hR hd hne =>
 (Qp (cxT P w T Rl fn.ntmps) hf hb rfl rfl rfl hlen (St.startT hT hR hd hne) (h w hR)).mono fun _ _ ⟨x, he, hs⟩ => ⟨x, he, by have := hs.keep; simpa [cxT] using this, fun p hp => ⟨(hs.own p hp).1, (hs.own p hp).2.2⟩, hs.distinct⟩⟩
def m1 : Rec := ⟨7, 0, w40, w40, ⟨5, 0, 0, 0⟩, 3, 0, 0⟩
def m2 : Rec := ⟨7, 0, w40, ⟨1, 0, 0, 0⟩, w40, 3, 0, 0⟩
def m3 : Rec := ⟨7, 0, w40, ⟨1, 0, 0, 0⟩, w40, 3, 0, 1⟩
def qp (k v : Int) : Int × Int × Bool :=
 if k = 1 then (if v = 4 then (5, 5, true) else (0, 5, (v == 0 || v == 1 || v == 2 || v == 126)))
 else if k = 2 then (if v = 2 then (2, 5, true) else (v, v, (v == 0 || v == 1)))
 else if k = 3 then (IntKind.i64.wrap (3 * v), 5, (v == 0 || v == 1))
 else if k = 4 then (IntKind.i64.wrap (2 * v), 5, (v == 0 || v == 2))
 else if k = 5 then (IntKind.i64.wrap (5 * v), IntKind.i64.wrap (4 + v), (v == 0 || v == 1))
 else (0, 0, false)
def Ky (a b : Int) : Value := .agg [.int .i64 a, .int .i64 b].toArray
def xF (v : Value) : Prop := ∃ a b, v = Ky a b
def wj : Value → List Int
 | .agg cs => cs.toList.map fun | .int _ n => n | _ => 0
 | _ => []
def VS (x y : Value) : Bool := decide (wj x = wj y)
theorem yM (a b c d : Int) : VS (Ky a b) (Ky c d) = (a == c && b == d) := by
 unfold VS Ky wj
 by_cases h1 : a = c <;> by_cases h2 : b = d <;> simp [h1, h2]
theorem Jpo : KeyL Tryz.prog 201 xF VS where
 now := ⟨_, rfl, fun a b ⟨a1, a2, ha⟩ ⟨b1, b2, hb⟩ => by subst ha hb; exact .inl rfl⟩
 equal := by
  rintro _ _ w ⟨a, b, rfl⟩ ⟨c, d, rfl⟩; rw [yM]
  show (Op.equalIn (9999 + 1) _ (.agg _) (.agg _)).run _ _ = _
  rw [run_equalIn_struct w 9999 _ _ _ (by kernel_rfl) (by kernel_rfl)]
  simp [go_sem]
  by_cases h1 : a = c <;> by_cases h2 : b = d <;> simp [h1, h2]
 check := by
  rintro _ b w ⟨x, y, rfl⟩; exact ZI (by kernel_rfl) (by simp) b 9998 w
def tableKV : List (Value × Value) :=
 [(Ky 1 0, Ky 0 5), (Ky 1 1, Ky 0 5), (Ky 1 2, Ky 0 5), (Ky 1 126, Ky 0 5), (Ky 1 4, Ky 5 5), (Ky 2 0, Ky 0 0), (Ky 2 1, Ky 1 1), (Ky 2 2, Ky 2 5),
  (Ky 3 0, Ky 0 5), (Ky 3 1, Ky 3 5), (Ky 4 0, Ky 0 5), (Ky 4 2, Ky 4 5), (Ky 5 0, Ky 0 4), (Ky 5 1, Ky 5 5)]
def Jz5 : Type := { p : Nat × Array MapEntry // (p.2.toList.map QN).Perm tableKV ∧ p.2.toList.map (·.born) = List.range p.2.size }
theorem Zi : PureE (α := Jz5) Tryz.prog 172 [].toArray (fun x => .map (some x.1.1)) (fun x => [(x.1.1, .map x.1.2 x.1.2.size)]) := by
 refine JW Tryz.func172 rfl rfl fun w => ?_; refine J9 ?_; refine JP 6 rfl ?_; refine Jiw (t := 198) 1 [(1, 2, .agg [.int .i64 1, .int .i64 0].toArray), (2, 3, .agg [.int .i64 0, .int .i64 5].toArray), (4, 4, .agg [.int .i64 1, .int .i64 1].toArray), (5, 5, .agg [.int .i64 0, .int .i64 5].toArray), (7, 6, .agg [.int .i64 1, .int .i64 2].toArray), (8, 7, .agg [.int .i64 0, .int .i64 5].toArray), (10, 8, .agg [.int .i64 1, .int .i64 126].toArray), (11, 9, .agg [.int .i64 0, .int .i64 5].toArray), (13, 10, .agg [.int .i64 1, .int .i64 4].toArray), (14, 11, .agg [.int .i64 5, .int .i64 5].toArray), (16, 12, .agg [.int .i64 2, .int .i64 0].toArray), (17, 13, .agg [.int .i64 0, .int .i64 0].toArray), (19, 14, .agg [.int .i64 2, .int .i64 1].toArray), (20, 15, .agg [.int .i64 1, .int .i64 1].toArray), (22, 16, .agg [.int .i64 2, .int .i64 2].toArray), (23, 17, .agg [.int .i64 2, .int .i64 5].toArray), (25, 18, .agg [.int .i64 3, .int .i64 0].toArray), (26, 19, .agg [.int .i64 0, .int .i64 5].toArray), (28, 20, .agg [.int .i64 3, .int .i64 1].toArray), (29, 21, .agg [.int .i64 3, .int .i64 5].toArray), (31, 22, .agg [.int .i64 4, .int .i64 0].toArray), (32, 23, .agg [.int .i64 0, .int .i64 5].toArray), (34, 24, .agg [.int .i64 4, .int .i64 2].toArray), (35, 25, .agg [.int .i64 4, .int .i64 5].toArray), (37, 26, .agg [.int .i64 5, .int .i64 0].toArray), (38, 27, .agg [.int .i64 0, .int .i64 4].toArray), (40, 28, .agg [.int .i64 5, .int .i64 1].toArray), (41, 29, .agg [.int .i64 5, .int .i64 5].toArray)] [(3, .agg [.int .i64 1, .int .i64 0].toArray, .agg [.int .i64 0, .int .i64 5].toArray), (6, .agg [.int .i64 1, .int .i64 1].toArray, .agg [.int .i64 0, .int .i64 5].toArray), (9, .agg [.int .i64 1, .int .i64 2].toArray, .agg [.int .i64 0, .int .i64 5].toArray), (12, .agg [.int .i64 1, .int .i64 126].toArray, .agg [.int .i64 0, .int .i64 5].toArray), (15, .agg [.int .i64 1, .int .i64 4].toArray, .agg [.int .i64 5, .int .i64 5].toArray), (18, .agg [.int .i64 2, .int .i64 0].toArray, .agg [.int .i64 0, .int .i64 0].toArray), (21, .agg [.int .i64 2, .int .i64 1].toArray, .agg [.int .i64 1, .int .i64 1].toArray), (24, .agg [.int .i64 2, .int .i64 2].toArray, .agg [.int .i64 2, .int .i64 5].toArray), (27, .agg [.int .i64 3, .int .i64 0].toArray, .agg [.int .i64 0, .int .i64 5].toArray), (30, .agg [.int .i64 3, .int .i64 1].toArray, .agg [.int .i64 3, .int .i64 5].toArray), (33, .agg [.int .i64 4, .int .i64 0].toArray, .agg [.int .i64 0, .int .i64 5].toArray), (36, .agg [.int .i64 4, .int .i64 2].toArray, .agg [.int .i64 4, .int .i64 5].toArray), (39, .agg [.int .i64 5, .int .i64 0].toArray, .agg [.int .i64 0, .int .i64 4].toArray), (42, .agg [.int .i64 5, .int .i64 1].toArray, .agg [.int .i64 5, .int .i64 5].toArray)] [(43, 30), (44, 0)] [] Jpo rfl (by kernel_rfl) ?hops (by kernel_rfl) rfl (by decide) rfl (fun i v h => by cases h) (by decide) rfl (by simp only [List.forall_mem_cons]; exact ⟨⟨_, _, rfl⟩, ⟨_, _, rfl⟩, ⟨_, _, rfl⟩, ⟨_, _, rfl⟩, ⟨_, _, rfl⟩, ⟨_, _, rfl⟩, ⟨_, _, rfl⟩, ⟨_, _, rfl⟩, ⟨_, _, rfl⟩, ⟨_, _, rfl⟩, ⟨_, _, rfl⟩, ⟨_, _, rfl⟩, ⟨_, _, rfl⟩, ⟨_, _, rfl⟩, by simp⟩) (by decide) ?_
 case hops =>
  intro i o h
  match i, h with
  | 0, h => cases Option.some.inj h; exact MLit.mk
  | 1, h => cases Option.some.inj h; exact MLit.pure (s := 2) (v := .agg [.int .i64 1, .int .i64 0].toArray) (Jo (n := 0) rfl) rfl rfl rfl (Jr (r := [_, _]) rfl rfl)
  | 2, h => cases Option.some.inj h; exact MLit.pure (s := 3) (v := .agg [.int .i64 0, .int .i64 5].toArray) (Jo (n := 1) rfl) rfl rfl rfl (Jr (r := [_, _]) rfl rfl)
  | 3, h => cases Option.some.inj h; exact MLit.ins (j1 := 1) (j2 := 2) (k := .agg [.int .i64 1, .int .i64 0].toArray) (v := .agg [.int .i64 0, .int .i64 5].toArray) (Jo (n := 0) rfl) (Jo (n := 0) rfl) (Jo (n := 1) rfl) rfl rfl rfl
  | 4, h => cases Option.some.inj h; exact MLit.pure (s := 4) (v := .agg [.int .i64 1, .int .i64 1].toArray) (Jo (n := 2) rfl) rfl rfl rfl (Jr (r := [_, _]) rfl rfl)
  | 5, h => cases Option.some.inj h; exact MLit.pure (s := 5) (v := .agg [.int .i64 0, .int .i64 5].toArray) (Jo (n := 3) rfl) rfl rfl rfl (Jr (r := [_, _]) rfl rfl)
  | 6, h => cases Option.some.inj h; exact MLit.ins (j1 := 4) (j2 := 5) (k := .agg [.int .i64 1, .int .i64 1].toArray) (v := .agg [.int .i64 0, .int .i64 5].toArray) (Jo (n := 1) rfl) (Jo (n := 2) rfl) (Jo (n := 3) rfl) rfl rfl rfl
  | 7, h => cases Option.some.inj h; exact MLit.pure (s := 6) (v := .agg [.int .i64 1, .int .i64 2].toArray) (Jo (n := 4) rfl) rfl rfl rfl (Jr (r := [_, _]) rfl rfl)
  | 8, h => cases Option.some.inj h; exact MLit.pure (s := 7) (v := .agg [.int .i64 0, .int .i64 5].toArray) (Jo (n := 5) rfl) rfl rfl rfl (Jr (r := [_, _]) rfl rfl)
  | 9, h => cases Option.some.inj h; exact MLit.ins (j1 := 7) (j2 := 8) (k := .agg [.int .i64 1, .int .i64 2].toArray) (v := .agg [.int .i64 0, .int .i64 5].toArray) (Jo (n := 2) rfl) (Jo (n := 4) rfl) (Jo (n := 5) rfl) rfl rfl rfl
  | 10, h => cases Option.some.inj h; exact MLit.pure (s := 8) (v := .agg [.int .i64 1, .int .i64 126].toArray) (Jo (n := 6) rfl) rfl rfl rfl (Jr (r := [_, _]) rfl rfl)
  | 11, h => cases Option.some.inj h; exact MLit.pure (s := 9) (v := .agg [.int .i64 0, .int .i64 5].toArray) (Jo (n := 7) rfl) rfl rfl rfl (Jr (r := [_, _]) rfl rfl)
  | 12, h => cases Option.some.inj h; exact MLit.ins (j1 := 10) (j2 := 11) (k := .agg [.int .i64 1, .int .i64 126].toArray) (v := .agg [.int .i64 0, .int .i64 5].toArray) (Jo (n := 3) rfl) (Jo (n := 6) rfl) (Jo (n := 7) rfl) rfl rfl rfl
  | 13, h => cases Option.some.inj h; exact MLit.pure (s := 10) (v := .agg [.int .i64 1, .int .i64 4].toArray) (Jo (n := 8) rfl) rfl rfl rfl (Jr (r := [_, _]) rfl rfl)
  | 14, h => cases Option.some.inj h; exact MLit.pure (s := 11) (v := .agg [.int .i64 5, .int .i64 5].toArray) (Jo (n := 9) rfl) rfl rfl rfl (Jr (r := [_, _]) rfl rfl)
  | 15, h => cases Option.some.inj h; exact MLit.ins (j1 := 13) (j2 := 14) (k := .agg [.int .i64 1, .int .i64 4].toArray) (v := .agg [.int .i64 5, .int .i64 5].toArray) (Jo (n := 4) rfl) (Jo (n := 8) rfl) (Jo (n := 9) rfl) rfl rfl rfl
  | 16, h => cases Option.some.inj h; exact MLit.pure (s := 12) (v := .agg [.int .i64 2, .int .i64 0].toArray) (Jo (n := 10) rfl) rfl rfl rfl (Jr (r := [_, _]) rfl rfl)
  | 17, h => cases Option.some.inj h; exact MLit.pure (s := 13) (v := .agg [.int .i64 0, .int .i64 0].toArray) (Jo (n := 11) rfl) rfl rfl rfl (Jr (r := [_, _]) rfl rfl)
  | 18, h => cases Option.some.inj h; exact MLit.ins (j1 := 16) (j2 := 17) (k := .agg [.int .i64 2, .int .i64 0].toArray) (v := .agg [.int .i64 0, .int .i64 0].toArray) (Jo (n := 5) rfl) (Jo (n := 10) rfl) (Jo (n := 11) rfl) rfl rfl rfl
  | 19, h => cases Option.some.inj h; exact MLit.pure (s := 14) (v := .agg [.int .i64 2, .int .i64 1].toArray) (Jo (n := 12) rfl) rfl rfl rfl (Jr (r := [_, _]) rfl rfl)
  | 20, h => cases Option.some.inj h; exact MLit.pure (s := 15) (v := .agg [.int .i64 1, .int .i64 1].toArray) (Jo (n := 13) rfl) rfl rfl rfl (Jr (r := [_, _]) rfl rfl)
  | 21, h => cases Option.some.inj h; exact MLit.ins (j1 := 19) (j2 := 20) (k := .agg [.int .i64 2, .int .i64 1].toArray) (v := .agg [.int .i64 1, .int .i64 1].toArray) (Jo (n := 6) rfl) (Jo (n := 12) rfl) (Jo (n := 13) rfl) rfl rfl rfl
  | 22, h => cases Option.some.inj h; exact MLit.pure (s := 16) (v := .agg [.int .i64 2, .int .i64 2].toArray) (Jo (n := 14) rfl) rfl rfl rfl (Jr (r := [_, _]) rfl rfl)
  | 23, h => cases Option.some.inj h; exact MLit.pure (s := 17) (v := .agg [.int .i64 2, .int .i64 5].toArray) (Jo (n := 15) rfl) rfl rfl rfl (Jr (r := [_, _]) rfl rfl)
  | 24, h => cases Option.some.inj h; exact MLit.ins (j1 := 22) (j2 := 23) (k := .agg [.int .i64 2, .int .i64 2].toArray) (v := .agg [.int .i64 2, .int .i64 5].toArray) (Jo (n := 7) rfl) (Jo (n := 14) rfl) (Jo (n := 15) rfl) rfl rfl rfl
  | 25, h => cases Option.some.inj h; exact MLit.pure (s := 18) (v := .agg [.int .i64 3, .int .i64 0].toArray) (Jo (n := 16) rfl) rfl rfl rfl (Jr (r := [_, _]) rfl rfl)
  | 26, h => cases Option.some.inj h; exact MLit.pure (s := 19) (v := .agg [.int .i64 0, .int .i64 5].toArray) (Jo (n := 17) rfl) rfl rfl rfl (Jr (r := [_, _]) rfl rfl)
  | 27, h => cases Option.some.inj h; exact MLit.ins (j1 := 25) (j2 := 26) (k := .agg [.int .i64 3, .int .i64 0].toArray) (v := .agg [.int .i64 0, .int .i64 5].toArray) (Jo (n := 8) rfl) (Jo (n := 16) rfl) (Jo (n := 17) rfl) rfl rfl rfl
  | 28, h => cases Option.some.inj h; exact MLit.pure (s := 20) (v := .agg [.int .i64 3, .int .i64 1].toArray) (Jo (n := 18) rfl) rfl rfl rfl (Jr (r := [_, _]) rfl rfl)
  | 29, h => cases Option.some.inj h; exact MLit.pure (s := 21) (v := .agg [.int .i64 3, .int .i64 5].toArray) (Jo (n := 19) rfl) rfl rfl rfl (Jr (r := [_, _]) rfl rfl)
  | 30, h => cases Option.some.inj h; exact MLit.ins (j1 := 28) (j2 := 29) (k := .agg [.int .i64 3, .int .i64 1].toArray) (v := .agg [.int .i64 3, .int .i64 5].toArray) (Jo (n := 9) rfl) (Jo (n := 18) rfl) (Jo (n := 19) rfl) rfl rfl rfl
  | 31, h => cases Option.some.inj h; exact MLit.pure (s := 22) (v := .agg [.int .i64 4, .int .i64 0].toArray) (Jo (n := 20) rfl) rfl rfl rfl (Jr (r := [_, _]) rfl rfl)
  | 32, h => cases Option.some.inj h; exact MLit.pure (s := 23) (v := .agg [.int .i64 0, .int .i64 5].toArray) (Jo (n := 21) rfl) rfl rfl rfl (Jr (r := [_, _]) rfl rfl)
  | 33, h => cases Option.some.inj h; exact MLit.ins (j1 := 31) (j2 := 32) (k := .agg [.int .i64 4, .int .i64 0].toArray) (v := .agg [.int .i64 0, .int .i64 5].toArray) (Jo (n := 10) rfl) (Jo (n := 20) rfl) (Jo (n := 21) rfl) rfl rfl rfl
  | 34, h => cases Option.some.inj h; exact MLit.pure (s := 24) (v := .agg [.int .i64 4, .int .i64 2].toArray) (Jo (n := 22) rfl) rfl rfl rfl (Jr (r := [_, _]) rfl rfl)
  | 35, h => cases Option.some.inj h; exact MLit.pure (s := 25) (v := .agg [.int .i64 4, .int .i64 5].toArray) (Jo (n := 23) rfl) rfl rfl rfl (Jr (r := [_, _]) rfl rfl)
  | 36, h => cases Option.some.inj h; exact MLit.ins (j1 := 34) (j2 := 35) (k := .agg [.int .i64 4, .int .i64 2].toArray) (v := .agg [.int .i64 4, .int .i64 5].toArray) (Jo (n := 11) rfl) (Jo (n := 22) rfl) (Jo (n := 23) rfl) rfl rfl rfl
  | 37, h => cases Option.some.inj h; exact MLit.pure (s := 26) (v := .agg [.int .i64 5, .int .i64 0].toArray) (Jo (n := 24) rfl) rfl rfl rfl (Jr (r := [_, _]) rfl rfl)
  | 38, h => cases Option.some.inj h; exact MLit.pure (s := 27) (v := .agg [.int .i64 0, .int .i64 4].toArray) (Jo (n := 25) rfl) rfl rfl rfl (Jr (r := [_, _]) rfl rfl)
  | 39, h => cases Option.some.inj h; exact MLit.ins (j1 := 37) (j2 := 38) (k := .agg [.int .i64 5, .int .i64 0].toArray) (v := .agg [.int .i64 0, .int .i64 4].toArray) (Jo (n := 12) rfl) (Jo (n := 24) rfl) (Jo (n := 25) rfl) rfl rfl rfl
  | 40, h => cases Option.some.inj h; exact MLit.pure (s := 28) (v := .agg [.int .i64 5, .int .i64 1].toArray) (Jo (n := 26) rfl) rfl rfl rfl (Jr (r := [_, _]) rfl rfl)
  | 41, h => cases Option.some.inj h; exact MLit.pure (s := 29) (v := .agg [.int .i64 5, .int .i64 5].toArray) (Jo (n := 27) rfl) rfl rfl rfl (Jr (r := [_, _]) rfl rfl)
  | 42, h => cases Option.some.inj h; exact MLit.ins (j1 := 40) (j2 := 41) (k := .agg [.int .i64 5, .int .i64 1].toArray) (v := .agg [.int .i64 5, .int .i64 5].toArray) (Jo (n := 13) rfl) (Jo (n := 26) rfl) (Jo (n := 27) rfl) rfl rfl rfl
  | 43, h => cases Option.some.inj h; exact MLit.mv (s := 30) (x := 1) (Jo (n := 0) rfl) rfl rfl (Or.inl rfl) rfl (Or.inl rfl)
  | 44, h => cases Option.some.inj h; exact MLit.mv (s := 0) (x := 30) (Jo (n := 1) rfl) rfl rfl (Or.inr rfl) rfl (Or.inr ⟨43, Jo (n := 0) rfl, rfl⟩)
  | n + 45, h => simp at h
 intro mr mes hmes hborn; refine ZM 2 rfl ?_; refine pT rfl rfl rfl fun w1 hs1 => ?_; exact ⟨⟨(mr, mes), hmes, hborn⟩, rfl, hs1⟩
def okI (k v : Int) : Bool := (qp k v).2.2
def loI (k v : Int) : Int := if okI k v then (qp k v).1 else 0
def hiI (k v : Int) : Int := if okI k v then (qp k v).2.1 else 0
theorem xG {x y z : Value} (h1 : VS x y = true) (h2 : VS x z = true) : VS y z = true := by
 unfold VS at *
 simp only [decide_eq_true_eq] at *; rw [← h1, h2]
theorem table_dist : tableKV.Pairwise fun p q => VS p.1 q.1 = false := by decide
theorem Je0 : ∀ p ∈ tableKV, xF p.1 := by
 unfold tableKV
 simp only [List.forall_mem_cons]; exact ⟨⟨_, _, rfl⟩, ⟨_, _, rfl⟩, ⟨_, _, rfl⟩, ⟨_, _, rfl⟩, ⟨_, _, rfl⟩, ⟨_, _, rfl⟩, ⟨_, _, rfl⟩, ⟨_, _, rfl⟩, ⟨_, _, rfl⟩, ⟨_, _, rfl⟩, ⟨_, _, rfl⟩, ⟨_, _, rfl⟩, ⟨_, _, rfl⟩, ⟨_, _, rfl⟩, by simp⟩
theorem Je1 (k v : Int) : Kl VS (Ky k v) tableKV = if okI k v then some (Ky (loI k v) (hiI k v)) else none := by
 simp only [tableKV, Kl, yM, loI, hiI, okI, qp]
 by_cases h1 : k = 1
 ·subst h1; by_cases a0 : v = 0 <;> by_cases a1 : v = 1 <;> by_cases a2 : v = 2 <;> by_cases a3 : v = 126 <;> by_cases a4 : v = 4 <;> simp_all
 ·by_cases h2 : k = 2
  ·subst h2; by_cases a0 : v = 0 <;> by_cases a1 : v = 1 <;> by_cases a2 : v = 2 <;> simp_all
  ·by_cases h3 : k = 3
   ·subst h3; by_cases a0 : v = 0 <;> by_cases a1 : v = 1 <;> simp_all <;> rfl
   ·by_cases h4 : k = 4
    ·subst h4; by_cases a0 : v = 0 <;> by_cases a1 : v = 2 <;> simp_all <;> rfl
    ·by_cases h5 : k = 5
     ·subst h5; by_cases a0 : v = 0 <;> by_cases a1 : v = 1 <;> simp_all <;> rfl
     ·simp_all
theorem Jkc {kv : List (Value × Value)} (hp : kv.Perm tableKV) (k v : Int) : Kl VS (Ky k v) kv = if okI k v then some (Ky (loI k v) (hiI k v)) else none := by
 rw [← Je1, Jag hp.symm]; refine table_dist.imp fun {p q} h ⟨h1, h2⟩ => ?_; rw [xG h1 h2] at h; cases h
theorem Jkd {kv : List (Value × Value)} (hp : kv.Perm tableKV) (k v : Int) :
  (if true = true then Value.tuple #[((Kl VS (Ky k v) kv).getD (Ky 0 0)), .bool (Kl VS (Ky k v) kv).isSome] else (Kl VS (Ky k v) kv).getD (Ky 0 0)) =
   .tuple #[.agg [.int .i64 (loI k v), .int .i64 (hiI k v)].toArray, .bool (okI k v)] := by
 rw [Jkc hp, if_pos rfl]
 cases h : okI k v <;> simp [loI, hiI, Ky, h]
theorem yN {mes : Array MapEntry} (hp : (mes.toList.map QN).Perm tableKV) : ∀ e ∈ mes.toList, xF e.key := fun e he =>
 Je0 (QN e) (hp.subset (List.mem_map_of_mem he))
theorem wH (f k v : Int) : Pure Tryz.prog 105 [.int .i64 f, .int .i64 k, .int .i64 v].toArray (.bool (okI k v && decide (f ≥ loI k v) && decide (f ≤ hiI k v))) := by
 refine Jk Tryz.func105 rfl rfl fun w => ?_; refine J9 ?_; refine Jq 7 rfl ?_; refine JR rfl rfl rfl (enters_of Tryz.func172 (by kernel_rfl) rfl) Zi fun x1 => ?_
 obtain ⟨⟨mr, mes⟩, hmes, hborn⟩ := x1
 change HL _ _ _ [(mr, .map mes mes.size)] _ _ _ _; refine LS 2 [] rfl rfl ?_; refine LR rfl (Jr (r := [_, _]) rfl rfl) ?_; refine LR rfl (WO Jpo rfl rfl (kn 0 rfl) rfl rfl ⟨_, _, rfl⟩ (yN hmes) (Jkd hmes k v)) ?_; refine LS 3 [] rfl rfl ?_; refine LN rfl fun r1 => ?_
 refine LT 0 rfl rfl ?_; refine JF 7 rfl ?_
 refine JB 18 rfl (fun gb => ?_) (fun gb => ?_) <;> (try simp only [ZZ] at gb) <;> first | (refine QI rfl ?_) | (refine LK rfl ?_)
 all_goals first | refine LR rfl (JG rfl rfl rfl) ?_ | refine LK rfl ?_
 all_goals refine LW 4 [0] rfl rfl ?_
 all_goals first | refine LK rfl ?_ | (refine JB 24 rfl (fun gb => ?_) (fun gb => ?_) <;> (try simp only [ZZ] at gb) <;> first | (refine QI rfl ?_) | (refine LK rfl ?_))
 all_goals first | refine LR rfl (JG rfl rfl rfl) ?_ | refine LK rfl ?_
 all_goals (
  refine LW 4 [0] rfl rfl (Jx 1 rfl (ZM 2 rfl ?_)); refine pT rfl rfl rfl fun w1 hs1 => ?_; exact ⟨by (try simp_all [J8]); try omega, hs1.keep⟩
  skip)
def Jw1 (v : Value) : Int := (wj v).headD 0
def Jyw (v : Value) : Int := ((wj v).drop 1).headD 0
theorem Jt1 (a b : Int) : Jw1 (.agg [.int .i64 a, .int .i64 b].toArray) = a := rfl
theorem Jt2 (a b : Int) : Jyw (.agg [.int .i64 a, .int .i64 b].toArray) = b := rfl
def VT (k : Int) (l : List (Value × Value)) : List Int := (l.filter fun p => Jw1 p.1 == k).map fun p => Jyw p.1
def wk (k : Int) (l : List MapEntry) : List Int := VT k (l.map QN)
theorem Je2 {k : Int} {l : List MapEntry} {e : MapEntry} {a b : Int} (h : e.key = .agg [.int .i64 a, .int .i64 b].toArray) : wk k (l ++ [e]) = wk k l ++ (if a = k then [b] else []) := by
 simp only [wk, VT, List.map_append, List.filter_append, List.map_cons, List.map_nil, QN, h, List.filter_cons, Jt1, List.filter_nil]
 by_cases hk : a = k <;> simp [hk, Jt2]
theorem wl (k : Int) (l : List (Value × Value)) : (VT k l).length ≤ l.length := by
 unfold VT; rw [List.length_map]; exact List.length_filter_le _ _
theorem qr {k : Int} {l l' : List (Value × Value)} (h : l.Perm l') : (VT k l).Perm (VT k l') := (h.filter _).map _
def nxV (ys : List Int) (v : List Value) (ys' : List Int) : Prop := ∃ x, v = [.int .i64 x] ∧ ys' = ys ++ [x] ∧ ys.length < 14
def fiV (k : Int) (ys : List Int) : Prop := ys.Perm (VT k tableKV)
theorem Je3 (k : Int) (p : Nat) : ZH Tryz.prog 171 [.pointer (some ⟨p, 0, none⟩)] [(p, .cells #[.int .i64 k] 3 (0, 0))] ([] : List Int) nxV (fiV k) := by
  refine QO Tryz.func171 rfl rfl fun q xids w2 XI XF hY => ?_; refine J9 ?_; refine Jq 2 rfl ?_; refine JR rfl rfl rfl (enters_of Tryz.func172 (by kernel_rfl) rfl) Zi fun x1 => ?_
  obtain ⟨⟨mr, mes⟩, hmes, hborn⟩ := x1
  change HL _ _ _ [(mr, .map mes mes.size)] _ _ _ _
  have hnd : (mes.toList.map (·.born)).Nodup := by rw [show mes.toList.map (·.born) = List.range mes.size from hborn]; exact List.nodup_range
  have hlt : ∀ e ∈ mes.toList, e.born < mes.size := fun e he => List.mem_range.1 (by rw [← show mes.toList.map (·.born) = List.range mes.size from hborn]; exact List.mem_map_of_mem (f := (·.born)) he)
  have h14 : mes.toList.length = 14 := by have := List.Perm.length_eq (show (mes.toList.map QN).Perm tableKV from hmes); rw [List.length_map] at this; exact this
  refine Jah (c := ⟨Tryz.prog, none, w2, [], xids, _, _⟩) rfl rfl rfl (kn 0 rfl) rfl fun qi => ?_; refine JN 3 rfl ?_; refine J2 (σ := List MapEntry × Array Nat) (fun s => (s.1 ++ KD mes.toList s.2).Perm mes.toList) (fun _ => [(0, .func (.yield q) #[] #[]), (1, .pointer (some ⟨p, 0, none⟩)), (5, .pointer (some ⟨qi, 0, none⟩))]) (fun s => [(qi, .mapIter (some mr) mes.size s.2 mes.size), (mr, .map mes mes.size)]) (fun s => XI (wk k s.1)) (fun s => (KD mes.toList s.2).length) ([], #[]) (by rw [Jix]; exact List.Perm.refl _) (lK rfl) (List.Sublist.refl _) (fun _ _ h => h) ?_; rintro ⟨done, seen⟩ hI; simp only at hI; refine Jq 2 rfl ?_; refine Jqw (k := 0) rfl rfl rfl rfl (kn 1 rfl) hlt (fun hleft => ?_) (fun e he L1 hL1 => ?_)
  all_goals try (simp only [List.set_cons_zero] at hL1; subst hL1)
  all_goals (
   refine LR rfl (JX rfl rfl) (Jx 1 rfl (Zn 2 rfl ?_)); refine J0 rfl (fun g => ?_) (fun g => ?_)
   · try exact Bool.noConfusion g
     all_goals try simp only [ZZ] at g
     all_goals (
      refine Jq 5 rfl ?_
      obtain ⟨ka, kb, hab⟩ : xF e.key := yN hmes e (Jaj he)
      refine LR rfl (Jqx rfl (kn 0 rfl) (kn 1 rfl) hnd (Jaj he)) ?_; refine Jw (show _ = Value.tuple #[.agg [.int .i64 ka, .int .i64 kb].toArray, e.val] from by rw [hab]; rfl) ?_; refine LR rfl (JX rfl rfl) ?_; refine LN rfl fun r1 => ?_
      refine Qz (k := 0) (n := 2) (cs' := #[_, _]) (vs := #[_, _]) rfl rfl rfl rfl rfl rfl rfl (by exact Nat.le_of_ble_eq_true rfl) rfl (by first | (simp only [List.set_cons_zero, List.set_cons_succ]; exact rfl) | exact rfl) ?_; refine JF 4 rfl ?_
      refine LR rfl (QL rfl rfl (by first | (simp only [Nat.zero_add, Nat.reduceAdd, Nat.reduceMul, Nat.zero_mul, Nat.mul_one, Nat.add_zero]; exact rfl) | exact rfl)) ?_; refine LR rfl (Jd rfl (kn 0 rfl) rfl rfl) ?_; refine LR rfl (Jd rfl (Jv (k := 0) rfl) rfl rfl) ?_; refine JF 2 rfl ?_
      refine JB 14 rfl (fun gb => ?_) (fun gb => ?_) <;> (try simp only [ZZ] at gb) <;> first | (refine QI rfl ?_) | (refine LK rfl ?_)
      all_goals first | (refine LR rfl (QL rfl rfl (by first | (simp only [Nat.zero_add, Nat.reduceAdd, Nat.reduceMul, Nat.zero_mul, Nat.mul_one, Nat.add_zero]; exact rfl) | exact rfl)) ?_) | refine LK rfl ?_
      all_goals first | refine LR rfl (Jd rfl (kn 0 rfl) rfl rfl) ?_ | refine LK rfl ?_
      all_goals first | (refine Vh (XT := XI (wk k done ++ [kb])) (XF := XF) rfl rfl rfl rfl (hY _ _ _ ⟨kb, rfl, rfl, by have h1 := (j0 hnd he hI).2.2; have h2 := wl k (done.map QN); rw [List.length_map] at h2; show (VT k (done.map QN)).length < 14; omega⟩) ?_ ?_) | (refine LK rfl ?_)
      all_goals first | refine Wm rfl ?_ | refine LK rfl ?_
      all_goals first | refine LR rfl (Zz rfl rfl) ?_ | refine LR rfl (Z0 rfl rfl) ?_
      all_goals (
       refine Jx 1 rfl (Zn 1 rfl ?_); refine J0 rfl (fun g => ?_) (fun g => ?_)
       · try exact Bool.noConfusion g
         all_goals try simp only [ZZ] at g
         all_goals (
          refine Kn 4 rfl ?_; refine Jh rfl rfl .nil (fun w1 hs1 => ?_)
          obtain ⟨xs1, hx1⟩ := hs1.now
          exact ⟨⟨_, rfl⟩, hs1.keep, .inr ⟨_, hx1⟩⟩
          skip)
       · try exact Bool.noConfusion g
         all_goals try simp only [ZZ] at g
         all_goals (
          refine Kn 2 rfl ?_; refine Jz ?_; exact Jt (done ++ [e], seen.push e.born) (j0 hnd he hI).1 (j0 hnd he hI).2.1 (lK rfl) (.cons _ (List.Sublist.refl _)) (fun _ w h => by simp only [Je2 hab]; simp_all)
          skip)
       skip)
      skip)
   · try exact Bool.noConfusion g
     all_goals try simp only [ZZ] at g
     all_goals (
      refine Kn 4 rfl ?_; refine Kh rfl rfl .nil (fun w1 hs1 => ?_)
      obtain ⟨xs1, hx1⟩ := hs1.now
      exact ⟨⟨_, rfl⟩, hs1.keep, .inl ⟨_, _, by rw [hleft, List.append_nil] at hI; exact (qr (hI.map QN)).trans (qr hmes), hx1⟩⟩
      skip)
   skip)
theorem wm : Pure Tryz.prog 174 [.int .u64 0].toArray (.int .i64 0) := ⟨fun w => (Tryz.bits_Len 0 w (by decide) (by decide)).mono fun _ _ ⟨h1, h2⟩ => ⟨h1, h2 ▸ Keep.refl _ _⟩⟩
theorem Jyx : Pure Tryz.prog 225 [.slice none 0 0, .int .i64 0, .int .i64 0].toArray (.tuple #[]) := by
 refine Jk Tryz.func225 rfl rfl fun w => ?_; refine J9 ?_; refine Jq 4 rfl ?_; refine Jc (by omega) (by omega) ?_; refine JN 4 rfl ?_; refine J2 (σ := Unit) (fun _ => True) (fun _ => [(2, .int .i64 0), (6, .int .i64 1)]) (fun _ => []) (fun _ _ _ => True) (fun _ => 0) () trivial (lK rfl) (List.nil_sublist _) (fun _ _ h => h) ?_; rintro ⟨⟩ -; refine JP 8 rfl ?_; refine J0 rfl (fun h4 => ?_) (fun h4 => ?_)
 exact absurd h4 (by decide)
 ·try simp only [ZZ] at h4
  refine Kn 4 rfl ?_; refine Kh rfl rfl .nil (fun w1 hs1 => ?_); exact ⟨rfl, hs1.keep⟩
theorem Jyy : Pure Tryz.prog 173 [.slice none 0 0, .int .i64 0, .int .i64 0, .int .i64 0].toArray (.tuple #[]) := by
 refine Jk Tryz.func173 rfl rfl fun w => ?_; refine J9 ?_; refine JP 11 rfl ?_; refine J2 (σ := Unit) (fun _ => True) (fun _ => [(0, .slice none 0 0), (1, .int .i64 0), (2, .int .i64 0)]) (fun _ => []) (fun _ _ _ => True) (fun _ => 0) () trivial (lK rfl) (List.nil_sublist _) (fun _ _ h => h) ?_; rintro ⟨⟩ -; refine Jq 6 rfl ?_; refine Jc (by omega) (by omega) ?_; refine JN 10 rfl ?_; refine J0 rfl (fun h6 => ?_) (fun h6 => ?_)
 try simp only [ZZ] at h6
 refine Jq 5 rfl ?_; refine Jm rfl rfl rfl (enters_of Tryz.func225 (by kernel_rfl) rfl) Jyx ?_; refine Jx 7 rfl ?_; refine Jh rfl rfl .nil (fun w1 hs1 => ?_); exact ⟨rfl, hs1.keep⟩
 ·exact absurd h6 (by decide)
theorem Je4 : Pure Tryz.prog 106 [.slice none 0 0].toArray (.tuple #[]) := by
 refine Jk Tryz.func106 rfl rfl fun w => ?_; refine J9 ?_; refine Jq 3 rfl ?_; refine LR rfl (JQ rfl rfl) ?_; refine JF 8 rfl ?_; refine Wa (by omega) (by omega) ?_; refine Jm rfl rfl rfl (enters_of Tryz.func174 (by kernel_rfl) rfl) wm ?_; refine Jm rfl rfl rfl (enters_of Tryz.func173 (by kernel_rfl) rfl) Jyy ?_; refine Jx 1 rfl ?_; refine Kh rfl rfl .nil (fun w1 hs1 => ?_); exact ⟨rfl, hs1.keep⟩
def XR (xs : List Int) : List Int := xs.mergeSort fun x y => decide (x ≤ y)
theorem Jw2 {c : Cx} {L : Ji} {X : XP} {k blk cap : Nat} {xs : List Int} {sp : List Value} (hP : c.P = Tryz.prog) (hk : L[k]? = some (blk, .cells (xs.map (Value.int .i64) ++ sp).toArray 3 (0, 0))) (hlen : xs.length < 4611686018427387904) :
  ∀ w, St c L X w → Calls c.P 106 [.slice (some ⟨blk, 0, none⟩) xs.length cap].toArray w fun e w' => ∃ _ : Unit, e = .returned (.tuple #[]) ∧ St c (L.set k (blk, .cells ((XR xs).map (Value.int .i64) ++ sp).toArray 3 (0, 0))) X w' := fun w hs => by
 rw [hP]
 have hb := hs.get hk
 refine (Tryz.slices_Sort_int blk 0 cap xs w (Jiy hb) (J4 hb) hlen).mono ?_; rintro e w' ⟨rfl, n, os, hw⟩
 obtain ⟨h1, h2⟩ := Jdn (ys := XR xs) (by unfold XR; rw [List.length_mergeSort]) hw hb
 exact ⟨(), rfl, hs.set hk h1 h2⟩
theorem Je5 (k : Int) : PureE (α := Nat) Tryz.prog 104 [.int .i64 k].toArray (fun r => .func (.func 171) #[] #[.pointer (some ⟨r, 0, none⟩)]) (fun r => [(r, .cells #[.int .i64 k] 3 (0, 0))]) := by
 refine JW Tryz.func104 rfl rfl fun w => ?_; refine J9 ?_; refine Jq 2 rfl ?_; refine LN rfl fun r1 => ?_; refine JF 5 rfl ?_; refine LR rfl (JA rfl rfl) ?_; refine Jx 4 rfl ?_; refine pT rfl rfl rfl fun w1 hs1 => ?_; exact ⟨_, rfl, hs1⟩
def xT (f k v : Int) : Bool := okI k v && decide (f ≥ loI k v) && decide (f ≤ hiI k v)
def Wl (f k : Int) : List Int := XR ((VT k tableKV).filter (xT f k))
section
variable {c : Cx} {l : Ki} {L : Ji} {X : XP} {Q : Exit → Act → World → Prop} {d : List Deferred}
variable {ops : Array Oper} {rest : List Oper} {i : Nat} {ps : String} {af : Array Edge} {gd : Option (Nat × Bool)} {ty : TypeId}
theorem Je6 {f x : Operand} {at_ : Array TypeId} {xs : List Int} {row : QJ} {L0 : Ji} (hP : c.P = Tryz.prog) (hp : L.Perm (JL 3 (xs.map (Value.int .i64)) row ++ L0))
  (hg : JV l ops ⟨some i, .call ⟨.value f, #[x], at_⟩, ty, ps, af, gd⟩ = some true) (hi : Nat.ble (i + 1) c.n = true) (hf : JT l f = some (.func (.func 106) #[] #[])) (hx : JT l x = some (JC xs.length row)) (hok : rowOk 1 xs.length (xs.map (Value.int .i64)) row)
  (hlen : xs.length < 4611686018427387904)
  (h : HL c d ((i, .tuple #[]) :: l) (L0 ++ JL 3 ((XR xs).map (Value.int .i64)) row) X ops rest Q) : HL c d l L X ops (⟨some i, .call ⟨.value f, #[x], at_⟩, ty, ps, af, gd⟩ :: rest) Q := by
 refine Km hp ?_
 cases row with
 | none =>
  obtain ⟨h1, h2⟩ := hok
  have hxs : xs = [] := by simpa using h2
  subst hxs; refine Jm hg hi ?_ (hP ▸ enters_of Tryz.func106 (by kernel_rfl) rfl) (hP ▸ Je4) ?_
  ·simp only [Kc, hf, evs, hx]; rfl
  ·simpa [XR, JL] using h
 | some p =>
  obtain ⟨r, cap, sp⟩ := p
  refine WK (α := Unit) (V := fun _ => .tuple #[]) (X' := fun _ => X) (vs := [.slice (some ⟨r, 0, none⟩) xs.length cap]) hg hi ?_ (hP ▸ enters_of Tryz.func106 (by kernel_rfl) rfl) (Jw2 (k := 0) (sp := sp) hP rfl hlen) fun _ => ?_
  ·simp only [Kc, hf, evs, hx]; rfl
  ·exact Km (List.perm_append_comm (l₁ := [_])) h
end
theorem jP (f k : Int) : PureE (α := { row : QJ // rowOk 1 (Wl f k).length ((Wl f k).map (Value.int .i64)) row }) Tryz.prog 48 [.int .i64 f, .int .i64 k].toArray (fun r => JC (Wl f k).length r.1) (fun r => JL 3 ((Wl f k).map (Value.int .i64)) r.1) := by
  refine JW Tryz.func48 rfl rfl fun w => ?_; refine J9 ?_; refine Jq 2 rfl ?_; refine LN rfl fun r1 => ?_; refine LN rfl fun r2 => ?_; refine JF 5 rfl ?_; refine LN rfl fun r3 => ?_; refine JF 5 rfl ?_; refine LR rfl (Jd rfl (kn 1 rfl) rfl rfl) ?_; refine JR rfl rfl rfl (enters_of Tryz.func104 (by kernel_rfl) rfl) (Je5 k) fun rc => ?_; change HL _ _ _ [(rc, .cells #[.int .i64 k] 3 (0, 0)), (r3, _), (r2, _), (r1, _)] _ _ _ _; refine JN 3 rfl ?_; refine Wp [1, 0, 2, 3] (by decide) rfl ?_; refine WN (τ := Unit) (fun ys (s : List Value × QJ) => s.1 = (ys.filter (xT f k)).map (.int .i64) ∧ rowOk 1 s.1.length s.1 s.2 ∧ ys.length ≤ 14) (fun s => (r3, .cells #[JC s.1.length s.2] 92 (0, 0)) :: JL 3 s.1 s.2) (fun _ _ => False) (fun _ => []) [(rc, _), (r2, _), (r1, _)] ([], none) rfl rfl (enters_of Tryz.func171 (by kernel_rfl) rfl) (Je3 k rc) (by rintro _ _ _ ⟨x, rfl, _⟩; rfl) rfl (by simp) rfl ⟨rfl, ⟨rfl, rfl⟩, by simp⟩ ?_ ?_ ?_
  · rintro q Xr Xb w3 ys _ _ ⟨xs, row⟩ ⟨x, rfl, rfl, hys⟩ ⟨hxs, hrow, -⟩ Kr hKr; refine inR ?_
    simp only at hxs hrow hKr ⊢
    have hn : xs.length ≤ 14 := by rw [hxs, List.length_map]; exact Nat.le_trans (List.length_filter_le _ _) (by omega)
    refine Kn 3 rfl ?_; refine hKr _ _ ?_; refine J9 ?_; clear hKr; refine Jq 3 rfl ?_; refine LR rfl (Jd rfl (Jv (k := 2) rfl) rfl rfl) ?_; refine LR rfl (Jd rfl (Jv (k := 1) rfl) rfl rfl) ?_; refine QI rfl (Jm rfl rfl rfl (enters_of Tryz.func105 (by kernel_rfl) rfl) (wH ..) (JN 2 rfl ?_)); refine cD (fun g => ?_) fun g => ?_
    · refine X6 3 [0] rfl rfl ?_; refine JH (vs := [_]) (zs := [_]) (r := [_]) rfl rfl rfl rfl rfl rfl rfl rfl rfl (by show (madeCells #[_] _).toList = _; rw [QM]; exact rfl) rfl fun r4 => ?_; refine Kz (L0 := [_, _]) (xs := xs) (row := row) (n := xs.length) (sz := 1) (b := 8) (news := [_]) (List.perm_append_comm (l₁ := [_, _])) rfl rfl rfl rfl (kn 0 rfl) rfl rfl rfl rfl rfl (by decide) rfl rfl rfl (by decide) hrow (by omega) (by omega) fun ra cap sp hra => ?_
      refine LT 2 rfl rfl ?_; refine Jx 2 rfl ?_
      by_cases hlx : xT f k x = true
      · first
        | (refine Qs [2, 0] (L' := [_, _]) (by decide) rfl ?_
           refine Ks (xs ++ [.int .i64 x], some (ra, cap, sp)) ⟨?_, ?_, ?_⟩ ?_
           simp [hxs, List.filter_append, hlx]
           simpa using hra
           simp; omega
           simp [JC, JL])
        | (exfalso; unfold xT at hlx; simp_all; done)
      · first
        | (refine Ks (xs, row) ⟨?_, hrow, ?_⟩ rfl
           simp [hxs, List.filter_append, hlx]
           simp; omega)
        | (exfalso; unfold xT at hlx; simp_all; done)
    · refine Kn 2 rfl ?_
      by_cases hlx : xT f k x = true
      · first
        | (refine Qs [2, 0] (L' := [_, _]) (by decide) rfl ?_
           refine Ks (xs ++ [.int .i64 x], some (ra, cap, sp)) ⟨?_, ?_, ?_⟩ ?_
           simp [hxs, List.filter_append, hlx]
           simpa using hra
           simp; omega
           simp [JC, JL])
        | (exfalso; unfold xT at hlx; simp_all; done)
      · first
        | (refine Ks (xs, row) ⟨?_, hrow, ?_⟩ rfl
           simp [hxs, List.filter_append, hlx]
           simp; omega)
        | (exfalso; unfold xT at hlx; simp_all; done)
  rintro D ys ⟨xs, row⟩ hfi ⟨hxs, hrow, hlen⟩
  simp only at hxs hrow ⊢; subst hxs; rw [List.length_map] at hrow ⊢
  have hn : (ys.filter (xT f k)).length ≤ 14 := Nat.le_trans (List.length_filter_le _ _) hlen
  have hv : Wl f k = XR (ys.filter (xT f k)) := (ZK (hfi.filter _)).symm
  refine gqo 4 rfl ?_; refine LR rfl (Jd rfl (kn 1 rfl) rfl rfl) ?_; refine Je6 (L0 := (D, _) :: (r3, _) :: [_, _, _]) rfl ((List.perm_append_comm_assoc [_, _] _ _)) rfl rfl rfl rfl hrow (by omega) ?_; refine Goq 9 [1] rfl rfl ?_; refine KN (k := 0) rfl rfl ?_; refine pT rfl rfl rfl fun w1 hs1 => ?_
  generalize Wl f k = vl at hv ⊢
  subst hv
  have hle : (XR (ys.filter (xT f k))).length = (ys.filter (xT f k)).length := by unfold XR; rw [List.length_mergeSort]
  exact ⟨⟨row, by rw [hle]; exact hrow.same (by simp [hle])⟩, by simp [J8, hle], hs1.weakL (List.sublist_append_right [_, _, _, _, _] _)⟩
  · exact fun _ _ _ h => h.elim
def okR (f k v : Int) : Bool := (qp k v).2.2 && decide ((qp k v).1 ≤ f) && decide (f ≤ (qp k v).2.1)
def Jpp (l : List Int) : Value := if l = [] then .tuple #[.int .i64 0, .int .i64 10] else .tuple #[.int .i64 (l.getD (l.length - 1) 0), .int .i64 0]
theorem Jkf {l : List Int} (h : ¬ ((l.length : Nat) : Int) = 0) : (l.map (Value.int .i64))[l.length - 1]? = some (.int .i64 (l.getD (l.length - 1) 0)) := by
 have : l.length - 1 < l.length := by omega
 simp [this, List.getD_eq_getElem?_getD]
theorem Jkg (f k : Int) : (Wl f k).length ≤ 14 := by
 unfold Wl XR
 rw [List.length_mergeSort]; exact Nat.le_trans (List.length_filter_le _ _) (wl k tableKV)
theorem wn (f k : Int) : Pure Tryz.prog 21 [.int .i64 f, .int .i64 k].toArray (Jpp (Wl f k)) := by
  refine Jk Tryz.func21 rfl rfl fun w => ?_; refine J9 ?_
  have hlen := Jkg f k
  refine Jq 10 rfl ?_; refine JR rfl rfl rfl (enters_of Tryz.func48 (by kernel_rfl) rfl) (jP f k) fun x1 => ?_
  rcases x1 with ⟨_ | ⟨ra, cap, sp⟩, hrow⟩
  all_goals first | change HL _ _ ((_, .slice none 0 0) :: _) [] _ _ _ _ | change HL _ _ ((_, .slice (some ⟨ra, 0, none⟩) (Wl f k).length cap) :: _) [(ra, .cells ((Wl f k).map (Value.int .i64) ++ sp).toArray 3 (0, 0))] _ _ _ _
  all_goals (
   refine Jx 2 rfl (gqo 5 rfl ?_); refine LR rfl (JQ rfl rfl) ?_; refine JN 3 rfl ?_; refine J0 rfl (fun g => ?_) (fun g => ?_)
   · try simp only [ZZ] at g
     refine Kn 8 rfl ?_; refine Jh rfl rfl (.cons (Jj rfl) (.cons (Jj rfl) .nil)) (fun w1 hs1 => ?_); refine ⟨?_, hs1.keep⟩
     (have h0 : Wl f k = [] := by first | exact List.eq_nil_of_length_eq_zero hrow.1 | exact List.eq_nil_of_length_eq_zero (by omega)
      simp [J8, Jpp, h0]; done)
   · try exact Bool.noConfusion g
     all_goals try simp only [ZZ] at g
     all_goals (
      refine Jq 6 rfl ?_; refine LR rfl (JQ rfl rfl) ?_; refine Wm rfl (Jc (by omega) (by omega) (LR rfl (JE (j := (Wl f k).length - 1) (m := 1) (off' := (Wl f k).length - 1) rfl rfl rfl rfl (by omega) (by omega) (by omega)) ?_)); refine LR rfl (Jd rfl (kn 0 rfl) rfl (ZJ (Jkf (by assumption)))) ?_; refine Jx 5 rfl ?_; refine Jh rfl rfl (.cons (Jj rfl) (.cons (Jj rfl) .nil)) (fun w1 hs1 => ?_); refine ⟨?_, hs1.keep⟩
      (have h0 : Wl f k ≠ [] := fun h => by simp_all
       simp [J8, Jpp, h0])
      skip)
   skip)
def qt (k : Int) : List Int := if k = 1 then [0, 1, 2, 4, 126] else if k = 2 then [0, 1, 2] else if k = 3 then [0, 1] else if k = 4 then [0, 2] else if k = 5 then [0, 1] else []
def vl (f k : Int) : List Int := (qt k).filter (okR f k)
theorem Je7 (f k v : Int) : xT f k v = okR f k v := by
 unfold xT okR loI hiI okI
 cases h : (qp k v).2.2 <;> simp
theorem Jkh (k : Int) : (VT k tableKV).Perm (qt k) := by
 by_cases h1 : k = 1
 ·subst h1; decide
 by_cases h2 : k = 2
 ·subst h2; decide
 by_cases h3 : k = 3
 ·subst h3; decide
 by_cases h4 : k = 4
 ·subst h4; decide
 by_cases h5 : k = 5
 ·subst h5; decide
 have e1 : qt k = [] := by simp [qt, h1, h2, h3, h4, h5]
 have e2 : VT k tableKV = [] := by
  have a1 : (1 == k) = false := by simpa using Ne.symm h1
  have a2 : (2 == k) = false := by simpa using Ne.symm h2
  have a3 : (3 == k) = false := by simpa using Ne.symm h3
  have a4 : (4 == k) = false := by simpa using Ne.symm h4
  have a5 : (5 == k) = false := by simpa using Ne.symm h5
  have hp : ∀ a b, Jw1 (Ky a b) = a := fun _ _ => rfl
  simp [VT, tableKV, hp, Ne.symm h1, Ne.symm h2, Ne.symm h3, Ne.symm h4, Ne.symm h5]
 rw [e1, e2]
theorem Jc1 (k : Int) : (qt k).Pairwise (fun x y => x < y) := by
 unfold qt
 split
 ·decide
 split
 ·decide
 split
 ·decide
 split
 ·decide
 split
 ·decide
 exact List.Pairwise.nil
theorem Jpq (f k : Int) : Wl f k = vl f k := by
 have h1 : (fun v => xT f k v) = okR f k := funext (Je7 f k)
 unfold Wl vl
 rw [show xT f k = okR f k from h1]; rw [show XR ((VT k tableKV).filter (okR f k)) = XR ((qt k).filter (okR f k)) from ZK ((Jkh k).filter _)]
 unfold XR
 exact List.mergeSort_of_pairwise (((Jc1 k).filter _).imp fun h => by simpa using Int.le_of_lt h)
def Jh8 (l : List Int) : Int := l.getD (l.length - 1) 0
def Jh9 (l : List Int) : Int := if l = [] then 10 else 0
def Jw3 (l : List Int) : Value := .tuple #[.int .i64 (Jh8 l), .int .i64 (Jh9 l)]
theorem Jt3 (l : List Int) : Jpp l = Jw3 l := by
 unfold Jpp Jw3 Jh8 Jh9
 by_cases h : l = [] <;> simp [h]
theorem Ju5 (f k : Int) : Pure Tryz.prog 21 [.int .i64 f, .int .i64 k].toArray (Jw3 (vl f k)) := by
 have := wn f k
 rwa [Jpq, Jt3] at this
theorem Jw4 {f k v : Int} (h : okI k v = true) : okR f k v = (decide (loI k v ≤ f) && decide (f ≤ hiI k v)) := by
 rw [← Je7]; unfold xT; rw [h]; simp
theorem Jw5 {f k v : Int} (h : okI k v = false) : okR f k v = false := by
 rw [← Je7]; unfold xT; rw [h]; simp
theorem xH {f k v : Int} : okR f k v = true ↔ okI k v = true ∧ loI k v ≤ f ∧ f ≤ hiI k v := by
 cases h : okI k v with
 | true => rw [Jw4 h]; simp
 | false => rw [Jw5 h]; simp
theorem grow {a b c k v : Int} (h1 : a ≤ b) (h2 : b ≤ c) (ha : okR a k v = true) (hc : okR c k v = true) : okR b k v = true := by
 obtain ⟨a1, a2, a3⟩ := xH.1 ha
 obtain ⟨c1, c2, c3⟩ := xH.1 hc
 exact xH.2 ⟨a1, by omega, by omega⟩
def sV (s : List UInt8) : Value := .string (bs s)
def pV (p : List (List UInt8)) : Value := .agg (p.map sV).toArray
theorem Jc2 {p : List (List UInt8)} {j : Nat} (h : j < p.length) : (p.map sV)[j]? = some (.string (bs (p.getD j []))) := by
 simp [h, sV, List.getD_eq_getElem?_getD]
def yO (p : List (List UInt8)) : Bool := p.all fun x => decide (x.length = 32)
def yP (v : Int) : List UInt8 := YI [v.toNat, 0, 0, 0] 32
def Jc3 (v : Int) (n : Nat) : List UInt8 := if v = 1 then ZO n 8 else []
def VC (v : Int) (p : List (List UInt8)) (n : Nat) : List UInt8 × Int :=
 if v ≠ 0 ∧ v ≠ 1 then ([], 9) else if yO p = false ∨ (v = 0 ∧ n ≠ 0) then ([], 2) else (yP v ++ p.flatten ++ Jc3 v n, 0)
theorem Jw6 {v : Int} {p : List (List UInt8)} {n : Nat} (h0 : ¬ v = 0) (h1 : ¬ v = 1) : VC v p n = ([], 9) := by unfold VC; rw [if_pos ⟨h0, h1⟩]
theorem Jt4 {v : Int} {p : List (List UInt8)} {n i : Nat} (h : v = 0 ∨ v = 1) (hi : i < p.length) (hl : ¬ (p.getD i []).length = 32) : VC v p n = ([], 2) := by
 have ha : yO p = false := by
  rw [Bool.eq_false_iff]; intro h2
  have := List.all_eq_true.1 h2 (p.getD i []) (by simp [List.getD_eq_getElem?_getD, hi])
  exact hl (of_decide_eq_true this)
 unfold VC; rw [if_neg (by omega), if_pos (.inl ha)]
theorem Jt5 {v : Int} {p : List (List UInt8)} {n : Nat} (h : v = 0) (hn : ¬ n = 0) : VC v p n = ([], 2) := by
 unfold VC; rw [if_neg (by omega), if_pos (.inr ⟨h, hn⟩)]
theorem Jpr {p : List (List UInt8)} (h : ∀ j, j < p.length → (p.getD j []).length = 32) : yO p = true := by
 refine List.all_eq_true.2 fun x hx => ?_
 obtain ⟨j, hj, rfl⟩ := List.getElem_of_mem hx
 have := h j hj
 rw [List.getD_eq_getElem?_getD, List.getElem?_eq_getElem hj] at this; exact decide_eq_true this
theorem Jia {v : Int} {p : List (List UInt8)} {n : Nat} (h : v = 0 ∨ v = 1) (ha : ∀ j, j < p.length → (p.getD j []).length = 32) (hn : v = 0 → n = 0) : VC v p n = (yP v ++ p.flatten ++ Jc3 v n, 0) := by
 unfold VC; rw [if_neg (by omega), if_neg (by rw [Jpr ha]; rintro (h2 | ⟨h2, h3⟩); cases h2; exact h3 (hn h2))]
theorem Zb {p : List (List UInt8)} : ∀ i, i ≤ p.length → (∀ j, j < i → (p.getD j []).length = 32) → (p.take i).flatten.length = 32 * i
 | 0, _, _ => by simp
 | i + 1, hi, h => by
  rw [List.take_succ, List.getElem?_eq_getElem (by omega), List.flatten_append, List.length_append, Zb i (by omega) fun j hj => h j (by omega)]
  have := h i (by omega)
  rw [List.getD_eq_getElem?_getD, List.getElem?_eq_getElem (by omega)] at this; simp at this ⊢; omega
theorem Jki {p : List (List UInt8)} {i : Nat} (hi : i < p.length) : (p.take (i + 1)).flatten = (p.take i).flatten ++ p.getD i [] := by
 rw [List.take_succ, List.getElem?_eq_getElem hi, List.flatten_append, List.getD_eq_getElem?_getD, List.getElem?_eq_getElem hi]; simp
theorem Jz6 {n : Nat} (hn : n < 18446744073709551616) : wC n 8 = (ZO n 8, 0) := by
 unfold wC; rw [if_neg (by have := Jso hn; omega)]; rfl
theorem yQ (v : Int) : (yP v).length = 32 := Vq _ _
theorem Jkj {p : List (List UInt8)} (hp : p.length = 3) {n : Nat} (hn : n < 18446744073709551616) (v : Int) : Pure Tryz.prog 49 [.int .i64 v, pV p, uV n].toArray (Wt (VC v p n)) := by
  refine Jk Tryz.func49 rfl rfl fun w => ?_; refine J9 ?_
  have hhl := yQ v
  refine Jq 2 rfl ?_; refine Kk (cs := (p.map sV).toArray) rfl rfl rfl rfl fun r1 => ?_; refine JF 10 rfl ?_
  refine JB 14 rfl (fun gb => ?_) (fun gb => ?_) <;> (try simp only [ZZ] at gb) <;> first | (refine QI rfl ?_) | (refine LK rfl ?_)
  all_goals (
   refine LW 2 [] rfl rfl (Jx 1 rfl (Zn 1 rfl ?_)); refine J0 rfl (fun g => ?_) (fun g => ?_)
   · try exact Bool.noConfusion g
     all_goals try simp only [ZZ] at g
     all_goals (
      refine Kn 8 rfl ?_; refine Jh rfl rfl (.cons (Jj rfl) (.cons (Jj rfl) .nil)) (fun w1 hs1 => ?_); refine ⟨?_, hs1.keep⟩; rw [Jw6 (by omega) (by omega)]; rfl
      skip)
   · try simp only [ZZ] at g
     refine JP 3 rfl ?_
     have hv01 : v = 0 ∨ v = 1 := by omega
     refine Jq 3 rfl ?_; refine Jw (show _ = uV v.toNat from congrArg (Value.int .u64) (by rw [wrap_u64 (by omega) (by omega)]; omega)) ?_; refine Jm rfl rfl rfl qg (V2 v.toNat) ?_; refine Jm rfl rfl rfl Jbr (Q8 (l := [v.toNat, 0, 0, 0]) (Jv3 (by omega))) ?_; refine Jw (show _ = Value.string (bs (yP v ++ (p.take 0).flatten)) from by simp [yP]) ?_; refine JN 10 rfl ?_; refine J2 (σ := Nat) (fun i => i ≤ p.length ∧ ∀ j, j < i → (p.getD j []).length = 32) (fun i => [(0, .int .i64 v), (2, uV n), (4, .pointer (some ⟨r1, 0, none⟩)), (8, .string (bs (yP v ++ (p.take i).flatten))), (22, .int .i64 (i : Int))]) (fun i => [(r1, .cells (p.map sV).toArray 56 (0, 0))]) (fun _ _ _ => True) (fun i => 3 - i) 0 ⟨Nat.zero_le _, fun j hj => by omega⟩ (lK rfl) (List.Sublist.refl _) (fun _ _ h => h) ?_; rintro i ⟨hi, hall⟩; refine JP 6 rfl ?_; refine cD (fun g => ?_) fun g => ?_
     refine JP 12 rfl ?_
     have hfl := Zb i (by omega) hall
     refine Jq 2 rfl ?_; refine LR rfl (JI (j := i) (m := 1) (off' := i) rfl rfl rfl rfl (by omega) (by omega) (by omega)) ?_; refine LR rfl (KE rfl (kn 0 rfl) rfl (Jc2 (by omega))) ?_; refine LR rfl (Qe rfl rfl) ?_; refine JN 3 rfl ?_; refine cD (fun g => ?_) fun g => ?_
     refine Kn 13 rfl ?_; refine Jh rfl rfl (.cons (Jj rfl) (.cons (Jj rfl) .nil)) (fun w1 hs1 => ?_); refine ⟨?_, hs1.keep⟩; rw [Jt4 (i := i) hv01 (by omega) (by omega)]; rfl
     refine Jq 5 rfl ?_; refine LR rfl (JI (j := i) (m := 1) (off' := i) rfl rfl rfl rfl (by omega) (by omega) (by omega)) ?_; refine LR rfl (KE rfl (kn 0 rfl) rfl (Jc2 (by omega))) ?_; refine LR rfl (Q0 rfl rfl (by simp only [List.length_append]; omega)) ?_; refine JF 6 rfl ?_; refine Jc (by omega) (by omega) ?_; refine Jx 2 rfl ?_; refine Jz ?_
     exact Jt (i + 1) ⟨by omega, fun j hj => by
       by_cases hji : j = i
       subst hji; omega
       exact hall j (by omega)⟩ (by omega) (.cons rfl (.cons rfl (.cons rfl (.cons (by rw [Jki (by omega), ← List.append_assoc]; rfl) (.cons rfl .nil))))) (List.Sublist.refl _) (fun _ _ h => h)
     · refine JP 7 rfl ?_
       have hi3 : i = p.length := by omega
       subst hi3
       have hfl := Zb p.length (Nat.le_refl _) hall
       rw [List.take_length] at hfl ⊢; rw [hp] at hfl; refine Jq 4 rfl ?_
       refine JB 38 rfl (fun gb => ?_) (fun gb => ?_) <;> (try simp only [ZZ] at gb) <;> first | (refine QI rfl ?_) | (refine LK rfl ?_)
       all_goals (
        refine LW 2 [] rfl rfl (Jx 1 rfl (Zn 1 rfl ?_)); refine J0 rfl (fun g => ?_) (fun g => ?_)
        · try exact Bool.noConfusion g
          all_goals try simp only [ZZ] at g
          all_goals (
           refine Kn 8 rfl ?_; refine Jh rfl rfl (.cons (Jj rfl) (.cons (Jj rfl) .nil)) (fun w1 hs1 => ?_); refine ⟨?_, hs1.keep⟩; rw [Jt5 (by omega) (by omega)]; rfl
           skip)
        try simp only [ZZ] at g
        refine JP 9 rfl ?_; refine cD (fun g => ?_) fun g => ?_
        refine Jq 3 rfl ?_; refine Jm rfl rfl rfl Jr4 (ji hn 8) ?_; refine Jw (congrArg Wt (Jz6 hn)) ?_; refine JF 10 rfl ?_; refine LR rfl (Q0 rfl rfl (by simp only [List.length_append, QZ]; omega)) ?_; refine Jx 11 rfl ?_; refine Jh rfl rfl (.cons (Jj rfl) (.cons (Jj rfl) .nil)) (fun w1 hs1 => ?_); refine ⟨?_, hs1.keep⟩
        rw [Jia hv01 hall (by omega)]; simp only [Jc3]; first | (rw [if_pos (by omega)]; rfl) | (rw [if_neg (by omega), List.append_nil]; rfl)
        refine Kn 10 rfl ?_; refine Jh rfl rfl (.cons (Jj rfl) (.cons (Jj rfl) .nil)) (fun w1 hs1 => ?_); refine ⟨?_, hs1.keep⟩
        rw [Jia hv01 hall (by omega)]; simp only [Jc3]; first | (rw [if_pos (by omega)]; rfl) | (rw [if_neg (by omega), List.append_nil]; rfl)
        skip)
   skip)
def VU (v : Int) (p : List (List UInt8)) (n : Nat) : List UInt8 × Int := if (VC v p n).2 = 0 then (Wn (VC v p n).1, 0) else ([], (VC v p n).2)
theorem Jps {v : Int} {p : List (List UInt8)} (hp : p.length = 3) (n : Nat) : (VC v p n).1.length ≤ 136 := by
 unfold VC
 split
 ·simp
 ·split
  ·simp
  ·rename_i h1 h2
   have ha : ∀ j, j < p.length → (p.getD j []).length = 32 := fun j hj => by
    have h3 : yO p = true := by
     cases h : yO p with
     | true => rfl
     | false => exact absurd (.inl h) h2
    exact of_decide_eq_true (List.all_eq_true.1 h3 (p.getD j []) (by simp [List.getD_eq_getElem?_getD, hj]))
   have hf := Zb p.length (Nat.le_refl _) ha
   rw [List.take_length] at hf; simp only [List.length_append, yQ, hf, hp, Jc3]
   split <;> simp [QZ]
theorem QW {p : List (List UInt8)} (hp : p.length = 3) {n : Nat} (hn : n < 18446744073709551616) (v : Int) : Pure Tryz.prog 22 [.int .i64 v, pV p, uV n].toArray (Wt (VU v p n)) := by
 refine Jk Tryz.func22 rfl rfl fun w => ?_; refine J9 ?_
 have hpl := Jps (v := v) hp n
 refine Jq 2 rfl ?_; refine Kk (cs := (p.map sV).toArray) rfl rfl rfl rfl fun r1 => ?_; refine JF 7 rfl ?_; refine LR rfl (Jf (xs := p.map sV) (n := 3) rfl (kn 0 rfl) rfl rfl (by rw [List.length_map, hp])) ?_; refine QI rfl (Jm rfl rfl rfl (enters_of Tryz.func49 (by kernel_rfl) rfl) (Jkj hp hn v) (JN 14 rfl ?_)); refine cD (fun g => ?_) fun g => ?_
 refine Kn 9 rfl ?_; refine Jh rfl rfl (.cons (Jj rfl) (.cons (Jj rfl) .nil)) (fun w1 hs1 => ?_); refine ⟨?_, hs1.keep⟩; rw [show VU v p n = ([], (VC v p n).2) from by unfold VU; rw [if_neg (by assumption)]]; rfl
 ·refine Jq 5 rfl ?_; refine Jm rfl rfl rfl Jej (vO (by omega)) ?_; refine Jx 5 rfl ?_; refine Jh rfl rfl (.cons (Jj rfl) (.cons (Jj rfl) .nil)) (fun w1 hs1 => ?_); refine ⟨?_, hs1.keep⟩; rw [show VU v p n = (Wn (VC v p n).1, 0) from by unfold VU; rw [if_pos (by assumption)]]; rfl
def jq : List Nat → Bool
 | x :: y :: l => decide (x ≤ y) && jq (y :: l)
 | _ => true
theorem Jib : ∀ {l : List Nat} {i x y : Nat}, l[i]? = some x → l[i + 1]? = some y → y < x → jq l = false
 | [], i, x, y, h, _, _ => by simp at h
 | [a], i, x, y, _, h, _ => by simp at h
 | a :: b :: l, 0, x, y, h1, h2, h => by
  simp only [List.getElem?_cons_zero, List.getElem?_cons_succ, Nat.zero_add, Option.some.injEq] at h1 h2; subst h1 h2
  unfold jq
  rw [decide_eq_false (by omega)]; rfl
 | a :: b :: l, i + 1, x, y, h1, h2, h => by
  rw [List.getElem?_cons_succ] at h1 h2
  unfold jq
  rw [Jib h1 h2 h, Bool.and_false]
theorem Jc4 : ∀ {l : List Nat}, (∀ i x y, l[i]? = some x → l[i + 1]? = some y → x ≤ y) → jq l = true
 | [], _ => rfl
 | [a], _ => rfl
 | a :: b :: l, h => by
  unfold jq
  rw [decide_eq_true (h 0 a b rfl rfl), Jc4 fun i x y h1 h2 => h (i + 1) x y (by rw [List.getElem?_cons_succ]; exact h1) (by rw [List.getElem?_cons_succ]; exact h2)]; rfl
theorem xI : ∀ {l : List Nat}, jq l = true → ∀ {i j x y : Nat}, i ≤ j → l[i]? = some x → l[j]? = some y → x ≤ y
 | [], _, i, j, x, y, _, h, _ => by simp at h
 | [a], _, i, j, x, y, hij, h1, h2 => by
  cases i with
  | zero => cases j with
   | zero => rw [h1] at h2; cases h2; exact Nat.le_refl _
   | succ j => simp at h2
  | succ i => simp at h1
 | a :: b :: l, h, i, j, x, y, hij, h1, h2 => by
  unfold jq at h
  obtain ⟨ha, hr⟩ := Bool.and_eq_true_iff.1 h
  have ha := of_decide_eq_true ha
  cases j with
  | zero =>
   obtain rfl : i = 0 := by omega
   rw [h1] at h2; cases h2; exact Nat.le_refl _
  | succ j =>
   rw [List.getElem?_cons_succ] at h2
   cases i with
   | zero =>
    simp only [List.getElem?_cons_zero, Option.some.injEq] at h1; subst h1; exact Nat.le_trans ha (xI hr (Nat.zero_le _) (i := 0) rfl h2)
   | succ i => rw [List.getElem?_cons_succ] at h1; exact xI hr (by omega) h1 h2
def jr (t : Nat) : List Nat → Nat
 | x :: l => if x ≤ t then jr t l + 1 else 0
 | [] => 0
theorem xJ (t : Nat) : ∀ l : List Nat, jr t l ≤ l.length
 | [] => Nat.le_refl _
 | x :: l => by
  have := xJ t l
  unfold jr
  split <;> simp only [List.length_cons] <;> omega
theorem Jic {t : Nat} : ∀ {l : List Nat} {i x : Nat}, i < jr t l → l[i]? = some x → x ≤ t
 | [], i, x, h, _ => by unfold jr at h; omega
 | a :: l, i, x, h, hx => by
  unfold jr at h
  split at h
  ·cases i with
   | zero => simp only [List.getElem?_cons_zero, Option.some.injEq] at hx; subst hx; assumption
   | succ i => rw [List.getElem?_cons_succ] at hx; exact Jic (by omega) hx
  ·omega
theorem Jid {t : Nat} : ∀ {l : List Nat} {x : Nat}, l[jr t l]? = some x → t < x
 | [], x, h => by simp at h
 | a :: l, x, h => by
  unfold jr at h
  split at h
  ·rw [List.getElem?_cons_succ] at h; exact Jid h
  ·simp only [List.getElem?_cons_zero, Option.some.injEq] at h; subst h; omega
theorem Jpt {t : Nat} {l : List Nat} (hr : jq l = true) {i x : Nat} (hx : l[i]? = some x) : decide (t < x) = decide (jr t l ≤ i) := by
 by_cases h : jr t l ≤ i
 ·have hl := (List.getElem?_eq_some_iff.1 hx).1
  obtain ⟨y, hy⟩ : ∃ y, l[jr t l]? = some y := ⟨_, List.getElem?_eq_getElem (by omega)⟩
  have h1 := Jid hy
  have h2 := xI hr h hy hx
  rw [decide_eq_true h, decide_eq_true (by omega)]
 ·have := Jic (t := t) (l := l) (i := i) (by omega) hx
  rw [decide_eq_false h, decide_eq_false (by omega)]
def Je8 (ts : List Nat) : Int := if ts.length < 1 ∨ ts.length > 6 then 2 else if jq ts = false then 11 else 0
def QH (ts : List Nat) (t : Nat) : Int × Int := if Je8 ts ≠ 0 then (0, Je8 ts) else if jr t ts = 0 then (0, 10) else ((jr t ts : Int) - 1, 0)
def Jyz (n : Nat) (p : Pl) : Value := .agg #[KG n p]
abbrev unC (ts : List Nat) : List Value := ts.map uV
theorem xK {ts : List Nat} {i x : Nat} (h : ts[i]? = some x) : (unC ts)[i]? = some (uV x) := by rw [List.getElem?_map, h]; rfl
theorem Jw7 {ts : List Nat} {i : Nat} (h : i < ts.length) : ∃ x, ts[i]? = some x ∧ x ∈ ts := ⟨ts[i], List.getElem?_eq_getElem h, List.getElem_mem h⟩
theorem Jpu (a : Nat) : Pure Tryz.prog 318 [uV a].toArray (.bool false) := by
 refine Jk Tryz.func318 rfl rfl fun w => ?_; refine J9 ?_; refine Kn 14 rfl ?_; refine pT rfl rfl rfl fun w1 hs1 => ?_; refine ⟨?_, hs1.keep⟩
 simp [J8]
theorem Jt6 (a b : Nat) : Pure Tryz.prog 247 [uV a, uV b].toArray (.bool (decide (a < b))) := by
 refine Jk Tryz.func247 rfl rfl fun w => ?_; refine J9 ?_; refine Jq 8 rfl ?_; refine Jm rfl rfl rfl (enters_of Tryz.func318 (by kernel_rfl) rfl) (Jpu _) ?_; refine Jx 14 rfl ?_; refine pT rfl rfl rfl fun w1 hs1 => ?_; refine ⟨?_, hs1.keep⟩
 simp_all [J8]
theorem Je9 {R : Ji} {ts : List Nat} {p : Pl} (hl : ts.length ≤ 9223372036854775807) (h1 : 1 ≤ ts.length) (hs : Seg R ts.length (unC ts) p) : PureR Tryz.prog 193 [KG ts.length p].toArray (.bool (jq ts)) R := by
 refine Ja Tryz.func193 rfl rfl fun w => ?_; refine J9 ?_; refine Jq 9 rfl ?_; refine LR rfl (J5 rfl hs rfl) ?_; refine Wm rfl (Jc (by omega) (by omega) ?_); refine Jw (show _ = Value.int .i64 ((ts.length - 1 : Nat) : Int) from by rw [Int.ofNat_sub h1]; rfl) ?_; refine JN 4 rfl ?_; refine J2 (σ := Nat) (fun j => j < ts.length ∧ ∀ i x y, j ≤ i → ts[i]? = some x → ts[i + 1]? = some y → x ≤ y) (fun j => [(0, KG ts.length p), (3, .int .i64 (j : Int))]) (fun _ => []) (fun _ _ _ => True) (fun j => j) (ts.length - 1) ⟨by omega, fun i x y hi _ hy => absurd (List.getElem?_eq_some_iff.1 hy).1 (by omega)⟩ (lK rfl) (List.nil_sublist _) (fun _ _ h => h) ?_; rintro j ⟨hj1, hinv⟩; refine JP 7 rfl ?_; refine cD (fun g => ?_) fun g => ?_
 refine JP 5 rfl ?_
 obtain ⟨i, rfl⟩ : ∃ i, j = i + 1 := ⟨j - 1, by omega⟩
 obtain ⟨x, hx, hmx⟩ := Jw7 (show i < ts.length by omega)
 obtain ⟨y, hy, hmy⟩ := Jw7 (show i + 1 < ts.length by omega)
 refine JK 10 (by kernel_rfl) (by kernel_rfl) ?_; refine Jb rfl rfl rfl (Jg rfl) ?_; refine Jb rfl rfl rfl (Jg rfl) ?_
 refine Jb rfl rfl rfl (Js (j := (i + 1)) rfl hs rfl rfl rfl (by first | rfl | omega) (by omega)) ?_; refine Jb rfl rfl rfl (VM oR rfl hs (by omega) rfl (xK hy)) ?_; refine Jb rfl rfl rfl (Jg rfl) ?_; refine Jb rfl rfl rfl (Jg rfl) ?_; refine Jb rfl rfl rfl (Jy rfl rfl rfl) ?_; refine Vv (by omega) (by omega) ?_
 refine Jb rfl rfl rfl (Js (j := i) rfl hs rfl rfl rfl (by first | rfl | omega) (by omega)) ?_; refine Jb rfl rfl rfl (VM oR rfl hs (by omega) rfl (xK hx)) ?_; refine Ku rfl rfl rfl (enters_of Tryz.func247 (by kernel_rfl) rfl) (Jt6 _ _) ?_; refine JY ?_; refine JN 2 rfl ?_; refine cD (fun g => ?_) fun g => ?_
 refine Kn 11 rfl ?_; refine pT rfl rfl rfl fun w1 hs1 => ?_; refine ⟨?_, hs1.keep⟩; rw [Jib hx hy (by simp_all)]; rfl
 refine Jq 6 rfl ?_; refine Jc (by omega) (by omega) ?_; refine Jw (show _ = Value.int .i64 (i : Int) from by congr 1; omega) ?_; refine Jx 2 rfl ?_; refine Jz ?_
 exact Jt i ⟨by omega, fun q u v hq hu hv => by
  rcases Nat.eq_or_lt_of_le hq with rfl | hq
  rw [hx] at hu; rw [hy] at hv; cases hu; cases hv; simp_all
  exact hinv q u v (by omega) hu hv⟩ (by omega) (lK rfl) (List.nil_sublist _) (fun _ _ h => h)
 ·refine Kn 11 rfl ?_; refine pT rfl rfl rfl fun w1 hs1 => ?_; refine ⟨?_, hs1.keep⟩; rw [Jc4 fun i x y hx hy => hinv i x y (by omega) hx hy]; rfl
theorem Jkk {R : Ji} {ts : List Nat} {p : Pl} (hl : ts.length ≤ 9223372036854775807) (hs : Seg R ts.length (unC ts) p) : PureR Tryz.prog 120 [Jyz ts.length p].toArray (.int .i64 (Je8 ts)) R := by
  have hE : Je8 ts = if decide ((ts.length : Int) < 1) = true ∨ (ts.length : Int) > 6 then 2 else if jq ts = false then 11 else 0 := by
    unfold Je8
    exact ite_congr (propext (by rw [decide_eq_true_eq]; omega)) (fun _ => rfl) (fun _ => rfl)
  refine Ja Tryz.func120 rfl rfl fun w => ?_; refine J9 ?_; refine Jq 2 rfl ?_; refine LN rfl fun r1 => ?_; refine XV 9 [0] rfl rfl ?_; refine LR rfl (J5 rfl hs rfl) ?_; refine LS 2 [] rfl rfl ?_
  refine JB 8 rfl (fun gb => ?_) (fun gb => ?_) <;> (try simp only [ZZ] at gb) <;> first | (refine LR rfl (JG rfl rfl rfl) ?_) | (refine LK rfl ?_)
  all_goals refine LW 1 [0] rfl rfl ?_
  all_goals first | refine LR rfl (J5 rfl hs rfl) ?_ | refine LK rfl ?_
  all_goals (
   refine LW 3 [] rfl rfl (Jx 1 rfl (Zn 1 rfl ?_)); refine J0 rfl (fun g => ?_) (fun g => ?_)
   try simp only [ZZ] at g
   refine Kn 8 rfl ?_; refine pT rfl rfl rfl fun w1 hs1 => ?_; refine ⟨?_, hs1.keep⟩; rw [hE]; simp only [J8]
   simp_all
   · try exact Bool.noConfusion g
     all_goals try simp only [ZZ] at g
     all_goals (
      refine X6 4 [0] rfl rfl ?_; refine Je rfl rfl rfl (enters_of Tryz.func193 (by kernel_rfl) rfl) (Je9 hl (by omega) hs) oR ?_; refine JN 4 rfl ?_; refine cD (fun g => ?_) fun g => ?_
      refine Kn 8 rfl ?_; refine pT rfl rfl rfl fun w1 hs1 => ?_; refine ⟨?_, hs1.keep⟩; rw [hE]; simp only [J8]
      simp_all
      refine Kn 9 rfl ?_; refine pT rfl rfl rfl fun w1 hs1 => ?_; refine ⟨?_, hs1.keep⟩; rw [hE]; simp only [J8]
      simp_all
      skip)
   skip)
theorem Jpv {R : Ji} {n k : Nat} (hn : n ≤ 1000) (hk : k ≤ n) {g : FuncId} {caps : List Value} (eg : Enters Tryz.prog g) (hg : ∀ i, i < n → PureR Tryz.prog g (.int .i64 (i : Int) :: caps).toArray (.bool (decide (k ≤ i))) R) :
  PureR Tryz.prog 121 [.int .i64 (n : Int), .func (.func g) #[] caps.toArray].toArray (.int .i64 (k : Int)) R := by
 refine Ja Tryz.func121 rfl rfl fun w => ?_; refine J9 ?_; refine JP 14 rfl ?_; refine J2 (σ := Nat × Nat) (fun s => s.1 ≤ k ∧ k ≤ s.2 ∧ s.2 ≤ n) (fun s => [(1, .func (.func g) #[] caps.toArray), (5, .int .i64 (s.1 : Int)), (6, .int .i64 (s.2 : Int))]) (fun _ => []) (fun _ _ _ => True) (fun s => s.2 - s.1) (0, n) ⟨Nat.zero_le _, hk, Nat.le_refl _⟩ (lK rfl) (List.nil_sublist _) (fun _ _ h => h) ?_; rintro ⟨i, j⟩ ⟨hi0, hj0, hj1⟩; simp only at hi0 hj0 hj1; change HC _ _ [(1, _), (5, .int .i64 (i : Int)), (6, .int .i64 (j : Int))] _ _ _ _; refine JP 8 rfl ?_; refine cD (fun h6 => ?_) fun h6 => ?_
 refine Jq 8 rfl ?_; refine Jc (by omega) (by omega) ?_; refine Wm rfl (Wa (by omega) (by omega) (Jw (show _ = Value.int .u64 ((i + j : Nat) : Int) from by rw [Int.natCast_add]) ?_)); refine LR rfl (vg (n := 1) (b := (((i + j) / 2 : Nat) : Int)) rfl rfl rfl (by decide) (by omega) (by omega)) ?_; refine Wm rfl (Jc (by omega) (by omega) (JF 7 rfl ?_)); refine Je rfl rfl rfl eg (hg ((i + j) / 2) (by omega)) oR ?_; refine JN 3 rfl ?_; refine cD (fun h9 => ?_) fun h9 => ?_
 refine Jq 3 rfl ?_; refine Jc (by omega) (by omega) ?_; refine Jx 3 rfl ?_; refine Jz ?_; exact Jt ((i + j) / 2 + 1, j) ⟨by simp only; simp at *; omega, hj0, hj1⟩ (by simp only; omega) (lK rfl) (List.nil_sublist _) (fun _ _ h => h)
 refine Kn 5 rfl ?_; refine Jz ?_; exact Jt (i, (i + j) / 2) ⟨hi0, by simp only; simp at *; omega, by simp only; omega⟩ (by simp only; omega) (lK rfl) (List.nil_sublist _) (fun _ _ h => h)
 ·refine Kn 12 rfl ?_; refine pT rfl rfl rfl fun w1 hs1 => ?_; refine ⟨?_, hs1.keep⟩; rw [show i = k by omega]; rfl
theorem Jw8 {R : Ji} {ts : List Nat} {p : Pl} (hs : Seg R ts.length (unC ts) p) {rs rt es et : Nat} {t : Nat} (h1 : (rs, Obj.cells #[KG ts.length p] es (0, 0)) ∈ R) (h2 : (rt, Obj.cells #[uV t] et (0, 0)) ∈ R) (hr : jq ts = true) {i : Nat} (hi : i < ts.length) :
  PureR Tryz.prog 122 [.int .i64 (i : Int), .pointer (some ⟨rs, 0, none⟩), .pointer (some ⟨rt, 0, none⟩)].toArray (.bool (decide (jr t ts ≤ i))) R := by
 obtain ⟨x, hx, hmx⟩ := Jw7 hi
 refine Ja Tryz.func122 rfl rfl fun w => ?_; refine J9 ?_; refine JP 6 rfl ?_; refine JK 8 (by kernel_rfl) (by kernel_rfl) ?_
 refine Jb rfl rfl rfl (JG rfl rfl rfl) ?_; refine Jb rfl rfl rfl (Jd rfl (Or.inr h1) rfl rfl) ?_; refine Jb rfl rfl rfl (Jg rfl) ?_
 refine Jb rfl rfl rfl (Js (j := i) rfl hs rfl rfl rfl (by first | rfl | omega) (by omega)) ?_; refine Jb rfl rfl rfl (VM oR rfl hs (by omega) rfl (xK hx)) ?_; refine Jb rfl rfl rfl (Jd rfl (Or.inr h2) rfl rfl) ?_; refine Jb rfl rfl rfl (Jy rfl rfl rfl) ?_; refine Jb rfl rfl rfl (J7 rfl) ?_; refine JY ?_; refine Jx 3 rfl ?_; refine pT rfl rfl rfl fun w1 hs1 => ?_; refine ⟨?_, hs1.keep⟩; rw [← Jpt hr hx]
 simp [J8]
theorem Jpw {R : Ji} {ts : List Nat} {p : Pl} (hl : ts.length ≤ 9223372036854775807) (hs : Seg R ts.length (unC ts) p) (t : Nat) : PureR Tryz.prog 71 [Jyz ts.length p, uV t].toArray (.tuple #[.int .i64 (QH ts t).1, .int .i64 (QH ts t).2]) R := by
 refine Ja Tryz.func71 rfl rfl fun w => ?_; refine J9 ?_; refine Jq 2 rfl ?_; refine LN rfl fun r1 => ?_; refine LN rfl fun r2 => ?_; refine JF 7 rfl ?_; refine LR rfl (Jp (vs := [_]) rfl (kn 1 rfl) rfl rfl rfl rfl) ?_; refine Je rfl rfl rfl (enters_of Tryz.func120 (by kernel_rfl) rfl) (Jkk hl hs) oR ?_; refine JN 9 rfl ?_; refine cD (fun g => ?_) fun g => ?_
 refine Kn 9 rfl ?_; refine Jh rfl rfl (.cons (Jj rfl) (.cons (Jj rfl) .nil)) (fun w1 hs1 => ?_); refine ⟨?_, hs1.keep⟩; simp only [J8, QH]
 simp_all
 ·refine JP 3 rfl ?_
  have hz : Je8 ts = 0 := by assumption
  have h6 : 1 ≤ ts.length ∧ ts.length ≤ 6 ∧ jq ts = true := by
   unfold Je8 at hz
   split at hz
   cases hz
   split at hz
   cases hz
   refine ⟨by omega, by omega, ?_⟩; simp_all
  refine X6 3 [1] rfl rfl ?_; refine LR rfl (J5 rfl hs rfl) ?_; refine LR rfl (JA rfl rfl) ?_; refine Je (Rl := (r1, Obj.cells #[KG ts.length p] 24 (0, 0)) :: (r2, Obj.cells #[uV t] 25 (0, 0)) :: R) rfl rfl rfl (enters_of Tryz.func121 (by kernel_rfl) rfl) (Jpv (caps := [.pointer (some ⟨r1, 0, none⟩), .pointer (some ⟨r2, 0, none⟩)]) (by omega) (xJ t ts) (enters_of Tryz.func122 (by kernel_rfl) rfl) (fun i hi => Jw8 (hs.mono fun q hq => List.mem_cons_of_mem _ (List.mem_cons_of_mem _ hq)) List.mem_cons_self (List.mem_cons_of_mem _ List.mem_cons_self) h6.2.2 hi)) (fun q hq => (List.mem_cons.1 hq).elim (fun h => Or.inl (by rw [h]; simp)) fun hq => (List.mem_cons.1 hq).elim (fun h => Or.inl (by rw [h]; simp)) Or.inr) ?_; refine JN 10 rfl ?_; refine cD (fun g => ?_) fun g => ?_
  refine Kn 8 rfl ?_; refine Jh rfl rfl (.cons (Jj rfl) (.cons (Jj rfl) .nil)) (fun w1 hs1 => ?_); refine ⟨?_, hs1.keep⟩; simp only [J8, QH]
  simp_all
  ·refine JP 3 rfl ?_
   have hc6 := xJ t ts
   refine Jq 3 rfl ?_; refine Jc (by omega) (by omega) ?_; refine Jx 5 rfl ?_; refine Jh rfl rfl (.cons (Jj rfl) (.cons (Jj rfl) .nil)) (fun w1 hs1 => ?_); refine ⟨?_, hs1.keep⟩; simp only [J8, QH]
   simp_all
structure GenL : Type where
  ts : List Nat
  tp : Pl
  time : Nat
  rc : Rec
  accts : List AcL
  ap : Pl
def GenL.cells (g : GenL) : List Value := [KG g.ts.length g.tp, uV g.time, uV g.rc.number, uV g.rc.time, uV g.rc.base.a, uV g.rc.base.b, uV g.rc.base.c, uV g.rc.base.d, uV g.rc.blob.a, uV g.rc.blob.b, uV g.rc.blob.c, uV g.rc.blob.d, uV g.rc.overhead.a, uV g.rc.overhead.b, uV g.rc.overhead.c, uV g.rc.overhead.d, uV g.rc.scalar, uV g.rc.extra, uV g.rc.operator, KG g.accts.length g.ap]
def GenL.val (g : GenL) : Value := .agg g.cells.toArray
theorem GenL.cells_eq (g : GenL) : g.cells = [KG g.ts.length g.tp, uV g.time] ++ g.rc.cells ++ [KG g.accts.length g.ap] := rfl
def GenL.st (g : GenL) : StL := ⟨g.accts, g.ap⟩
def GenL.ac (g : GenL) : List AcE := g.accts.map AcL.er
structure GenL.In (R : Ji) (g : GenL) : Prop where
  tlen : g.ts.length ≤ Yw
  tseg : Seg R g.ts.length (unC g.ts) g.tp
  tu : ∀ x ∈ g.ts, VF x
  time : VF g.time
  rc : g.rc.ok
  st : g.st.In R
theorem GenL.In.mono {R R' : Ji} {g : GenL} (h : g.In R) (hs : ∀ q ∈ R, q ∈ R') : g.In R' := ⟨h.tlen, h.tseg.mono hs, h.tu, h.time, h.rc, h.st.mono hs⟩
def Wz (t : Nat) (root : BS) : BS := Wn ((wC t 8).1 ++ root)
theorem Jt7 (t : Nat) : (wC t 8).1.length ≤ 8 := by
 unfold wC
 split
 ·exact Nat.zero_le _
 ·show (ZO t 8).length ≤ 8
  simp [ZO]
theorem xM {t : Nat} (ht : VF t) {root : BS} (hr : root.length ≤ 1000) : Pure Tryz.prog 35 [uV t, J6 root].toArray (J6 (Wz t root)) := by
 have h8 := Jt7 t
 refine Jk Tryz.func35 rfl rfl fun w => ?_; refine J9 ?_; refine Jq 8 rfl ?_; refine Jm rfl rfl rfl Jr4 (ji ht 8) ?_; refine JF 11 rfl ?_
 refine LR rfl (Q0 rfl rfl (by first | omega | (simp only [List.length_append]; omega))) ?_; refine Jm rfl rfl rfl Jej (vO (by rw [List.length_append]; omega)) ?_; refine Jx 4 rfl ?_; refine pT rfl rfl rfl fun w1 hs1 => ?_; exact ⟨rfl, hs1.keep⟩
def Jpx (g : GenL) : Bool := Zt g.ac && decide (g.ts.length ≤ 100)
theorem Jw9 {R : Ji} {g : GenL} (hg : g.In R) : PureR Tryz.prog 10 [g.val].toArray (.bool (Jpx g)) R := by
 have hts := hg.tseg
 have hF := Jtx hg.st
 have hfe : Zt g.ac = Zt g.st.er := rfl
 refine Ja Tryz.func10 rfl rfl fun w => ?_; refine J9 ?_; refine Jq 2 rfl ?_; refine Kk (cs := g.cells.toArray) rfl rfl rfl rfl fun r1 => ?_; refine XV 7 [0] rfl rfl ?_; refine LR rfl (Jr (r := [_]) rfl rfl) ?_; refine Je rfl rfl rfl (enters_of Tryz.func29 (by kernel_rfl) rfl) hF oR ?_; refine QI rfl ?_
 refine JB 7 rfl (fun gb => ?_) (fun gb => ?_) <;> (try simp only [ZZ] at gb) <;> first | (refine LR rfl (JG rfl rfl rfl) ?_) | (refine LK rfl ?_)
 all_goals first | refine LR rfl (JG rfl rfl rfl) ?_ | refine LK rfl ?_
 all_goals refine LW 1 [0] rfl rfl ?_
 all_goals first | refine LR rfl (J5 rfl hts rfl) ?_ | refine LK rfl ?_
 all_goals (
  refine LW 3 [] rfl rfl (Jx 1 rfl (ZM 2 rfl ?_)); refine pT rfl rfl rfl fun w1 hs1 => ?_; refine ⟨?_, hs1.keep⟩; simp only [J8, Jpx, hfe]
  simp_all
  all_goals first | done | omega
  skip)
theorem Jt8 (a b : AcL) : Pure Tryz.prog 77 [vA a, vA b].toArray (.bool (decide (a.addr = b.addr))) := by
 refine Jk Tryz.func77 rfl rfl fun w => ?_; refine J9 ?_; refine Jq 2 rfl ?_; refine LN rfl fun r1 => ?_; refine LN rfl fun r2 => ?_; refine XV 9 [1, 0] rfl rfl ?_; refine LR rfl (W7 rfl rfl) ?_; refine Jx 4 rfl ?_; refine pT rfl rfl rfl fun w1 hs1 => ?_; exact ⟨rfl, hs1.keep⟩
theorem Jt9 (W : Nat) : PureE (α := Nat × Nat) Tryz.prog 30 [Qf W 0].toArray (fun p => .slice (some ⟨p.2, 0, none⟩) 3 3) (fun p => [(p.2, .cells #[.func (.func 70) #[] #[Qf p.1 0], .func (.func 72) #[] #[Qf p.1 0], .func (.func 80) #[] #[Qf p.1 0]] 73 (0, 0)), (p.1, .cells #[Qf W 0] 68 (0, 0))]) := by
 refine JW Tryz.func30 rfl rfl fun w => ?_; refine J9 ?_; refine Jq 2 rfl ?_; refine LN rfl fun r1 => ?_; refine JF 5 rfl ?_; refine LR rfl (JA rfl rfl) ?_; refine LR rfl (JA rfl rfl) ?_; refine LR rfl (JA rfl rfl) ?_; refine JH (vs := [_, _, _]) (zs := [_, _, _]) (r := [_, _, _]) rfl rfl rfl rfl rfl rfl rfl rfl rfl (by show (madeCells #[_] _).toList = _; rw [QM]; exact rfl) rfl fun r2 => ?_; refine Jx 4 rfl ?_; refine pT rfl rfl rfl fun w1 hs1 => ?_; exact ⟨(r1, r2), rfl, hs1⟩
end Go.Proofs.YtfaagelglpgpkaaGreatDoor
