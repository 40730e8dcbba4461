import Derived.Test.YteceenlfegnigaaGreatDoorZtSetse
set_option maxRecDepth 100000
namespace Go.Proofs.YteceenlfegnigaaGreatDoor
set_option linter.all false
open Go.SL Go.RowKit Go.Shelf
theorem Jn0 {R : Jr} {xs : List AcL} {p : Pl} (hl : xs.length ≤ 1000) (hs : Seg R xs.length (xs.flatMap AcL.cells) p) :
    PureT (α := { row : Vw // rowOk 8 xs.length (xs.flatMap AcL.cells) row }) Tryz.prog 71 [KU xs.length p].toArray (fun x => JE xs.length x.1) [] (fun x => JX 34 (xs.flatMap AcL.cells) x.1) R := by
  cases p with
  | none =>
    have h0 : xs = [] := List.length_eq_zero_iff.1 hs
    subst h0; refine JI Tryz.func71 rfl rfl fun w => ?_; refine sR fun _ hK1 => Jj rfl (nK hK1 ?_); refine sQ fun _ hK2 => sR fun _ hK3 => ?_; refine LS 2 [] rfl rfl (nK hK3 ?_); refine Jd rfl (fun h4 => ?_) (fun h4 => ?_)
    try simp only [ZZ] at h4
    refine sR fun _ hK5 => Jj rfl (nK hK5 ?_); refine Jc (Jf ?_); refine pT rfl rfl rfl fun w1 hs1 => ?_; exact ⟨⟨none, rfl, rfl⟩, rfl, hs1⟩
    try exact Bool.noConfusion h4
  | some q =>
    refine JI Tryz.func71 rfl rfl fun w => ?_; refine sR fun _ hK1 => Jj rfl (nK hK1 ?_); refine sQ fun _ hK2 => sR fun _ hK3 => ?_; refine LS 2 [] rfl rfl (nK hK3 ?_); refine Jd rfl (fun h4 => ?_) (fun h4 => ?_)
    try exact Bool.noConfusion h4
    · try simp only [ZZ] at h4
      refine Jg (hK2 ?_); refine sR fun _ hK6 => ?_; refine Xp rfl rfl rfl rfl fun r1 => ?_; refine Jj rfl (wg (k := 0) (b := 96) (sz := 8) rfl rfl rfl rfl rfl rfl hs (fun q hq => Or.inr hq) rfl rfl rfl rfl rfl (by decide) (KY AcL.len xs) (Yz AcL.one xs) (by omega) (by omega) fun row hrow => (Jj rfl ?_)); refine nK hK6 (Jc ?_); refine pT rfl rfl rfl fun w1 hs1 => ?_; exact ⟨⟨row, hrow⟩, rfl, hs1.weakL (List.sublist_append_left _ _)⟩
theorem Ji7 {R : Jr} {xs : List AcL} {row : Vw} (hl : xs.length ≤ 1000) (hrow : rowOk 8 xs.length (xs.flatMap AcL.cells) row) {i : Nat} (hi : i ≤ xs.length) {y : AcL} {rv : Nat} (hv : (rv, Obj.cells (AcL.cells y).toArray 34 (0, 0)) ∈ R) :
    PureT (α := { row' : Vw // rowOk 8 (xs.length + 1) ((xs.take i ++ y :: xs.drop i).flatMap AcL.cells) row' }) Tryz.prog 72 [JE xs.length row, .int .i64 (i : Int), .slice (some ⟨rv, 0, none⟩) 1 1].toArray (fun x => JE (xs.length + 1) x.1) (JX 34 (xs.flatMap AcL.cells) row) (fun x => JX 34 ((xs.take i ++ y :: xs.drop i).flatMap AcL.cells) x.1) R := by
  obtain ⟨A, hA⟩ : ∃ A, A = (xs.take i).flatMap AcL.cells := ⟨_, rfl⟩
  obtain ⟨B, hB⟩ : ∃ B, B = (xs.drop i).flatMap AcL.cells := ⟨_, rfl⟩
  obtain ⟨n, hn⟩ : ∃ n, n = xs.length := ⟨_, rfl⟩
  have e1 : xs.flatMap AcL.cells = A ++ B := by rw [hA, hB, ← List.flatMap_append, List.take_append_drop]
  have e2 : (xs.take i ++ y :: xs.drop i).flatMap AcL.cells = A ++ (AcL.cells y ++ B) := by rw [List.flatMap_append, List.flatMap_cons, hA, hB]
  have lA : A.length = i * 8 := by rw [hA, KY AcL.len, List.length_take, Nat.min_eq_left hi]
  have lB : B.length = (n - i) * 8 := by rw [hB, KY AcL.len, List.length_drop, hn]
  have lF : (AcL.cells y).length = 8 := AcL.len y
  have oF : (AcL.cells y).all QQ = true := AcL.one y
  have oA : A.all QQ = true := by rw [hA]; exact Yz AcL.one _
  have oB : B.all QQ = true := by rw [hB]; exact Yz AcL.one _
  rw [e1] at hrow; rw [e1, e2]; rw [← hn] at hl hi hrow ⊢; clear hA hB e1 e2 hn
  cases row with
  | none =>
    obtain ⟨rfl, hAB⟩ := hrow
    obtain rfl : i = 0 := by omega
    obtain ⟨rfl, rfl⟩ := List.append_eq_nil_iff.1 hAB
    refine JI Tryz.func72 rfl rfl fun w => ?_; refine sR fun _ hK1 => Jj rfl (nK hK1 ?_); refine sR fun _ hK2 => LS 3 [] rfl rfl (nK hK2 ?_); refine sR fun _ hK3 => Jj rfl (LR rfl (KK rfl rfl) (Jj rfl ?_)); refine nK hK3 (sQ fun _ hK4 => ?_); refine sR fun _ hK5 => LS 2 [] rfl rfl (nK hK5 ?_); refine Jd rfl (fun h6 => ?_) (fun h6 => ?_)
    try exact Bool.noConfusion h6
    try simp only [ZZ] at h6
    refine Jg (hK4 ?_); refine sR fun _ hK8 => Jj rfl (LR rfl (KK rfl rfl) (Jj rfl ?_)); refine nK hK8 (sQ fun _ hK9 => ?_); refine sR fun _ hK10 => LS 3 [] rfl rfl (nK hK10 ?_); refine Jd rfl (fun h11 => ?_) (fun h11 => ?_)
    try simp only [ZZ] at h11
    refine sR fun _ hK12 => LS 2 [] rfl rfl ?_; refine Wm (n := 0) (m := 1) (b := 96) (sz := 8) (news := AcL.cells y) (xs := []) (L0 := []) rfl rfl rfl rfl (Or.inr hv) rfl rfl rfl rfl rfl (by decide) rfl rfl oF (by decide) SlOwn.nil (by decide) (by decide) fun r1 cap1 sp1 hsp1 => ?_; refine Jj rfl (nK hK12 ?_); refine Jc (Jf ?_); refine pT rfl rfl rfl fun w1 hs1 => ?_; exact ⟨⟨some (r1, cap1, sp1), by simp [lF], hsp1⟩, rfl, by simpa [JX] using hs1⟩
    try exact Bool.noConfusion h11
  | some q =>
    obtain ⟨r, cap, sp⟩ := q
    obtain ⟨hr1, hr2⟩ := hrow
    have hcap : n ≤ cap := by omega
    refine JI Tryz.func72 rfl rfl fun w => ?_; change HC _ _ _ [(r, .cells ((A ++ B) ++ sp).toArray 34 (0, 0))] _ _ _; refine sR fun _ hK1 => Jj rfl (nK hK1 ?_); refine sR fun _ hK2 => LS 2 [] rfl rfl ?_; refine LR rfl (JT (m := i) (kl := some i) (kh := none) (km := none) (q := n) (z := cap) rfl rfl rfl ⟨_, rfl⟩ trivial trivial rfl rfl rfl (by omega) (by omega) (by omega) (fun _ => rfl) rfl) ?_; refine nK hK2 (sR fun _ hK3 => ?_); refine Jj rfl (LR rfl (KK rfl rfl) (Jj rfl ?_)); refine nK hK3 (sQ fun _ hK4 => ?_); refine sR fun _ hK5 => LS 2 [] rfl rfl (nK hK5 ?_); refine Jd rfl (fun h6 => ?_) (fun h6 => ?_)
    try exact Bool.noConfusion h6
    · try simp only [ZZ] at h6
      refine Jg (hK4 ?_); refine sR fun _ hK8 => Jj rfl (LR rfl (KK rfl rfl) (Jj rfl ?_)); refine nK hK8 (sQ fun _ hK9 => ?_); refine sR fun _ hK10 => LS 3 [] rfl rfl (nK hK10 ?_); refine Jd rfl (fun h11 => ?_) (fun h11 => ?_)
      try simp only [ZZ] at h11
      refine sR fun _ hK12 => LS 2 [] rfl rfl ?_
      obtain rfl : B = [] := List.length_eq_zero_iff.1 (by omega)
      refine Wm (n := n) (m := 1) (b := 96) (sz := 8) (news := AcL.cells y) (xs := A ++ []) (L0 := []) rfl rfl rfl rfl (Or.inr hv) rfl rfl rfl rfl rfl (by decide) rfl lF oF (by decide) (SlOwn.own (k := 0) rfl (by simp only [List.toList_toArray]; rw [List.take_left' hr1]) hr1 (by rw [List.size_toArray, List.length_append, hr1]; omega) rfl) (by omega) (by omega) fun r1 cap1 sp1 hsp1 => ?_; refine Jj rfl (nK hK12 ?_); refine Jc (Jf ?_); refine pT rfl rfl rfl fun w1 hs1 => ?_; exact ⟨⟨some (r1, cap1, sp1), by simp only [List.length_append, List.length_nil, lF]; omega, hsp1⟩, rfl, by simpa [JX] using hs1⟩
      · try simp only [ZZ] at h11
        refine Jg (hK9 ?_); refine sQ fun _ hK13 => sR fun _ hK14 => ?_; refine LS 3 [] rfl rfl ?_; refine Jy (by omega) (by omega) ?_; refine Jj rfl (LR rfl (Jga rfl rfl) (JZ rfl ?_)); refine nK hK14 ?_; refine Jd rfl (fun h15 => ?_) (fun h15 => ?_)
        · try simp only [ZZ] at h15
          refine sR fun _ hK16 => LS 2 [] rfl rfl ?_
          refine LR rfl (JT (sz := 8) (q := i) (kl := none) (kh := some (i)) (km := none) (m := 0) (z := cap) (off' := 0) rfl rfl rfl trivial ⟨_, rfl⟩ trivial rfl rfl rfl (by omega) (by omega) (by omega) (fun h => by cases h) (by split <;> omega)) ?_; refine LS 3 [] rfl rfl ?_; refine Jy (by omega) (by omega) ?_; refine Jj rfl ?_
          refine JZ rfl ?_; refine J1 (show _ = Value.int .i64 ((n + 1 - i : Nat) : Int) from by rw [wrap_i64 (by omega) (by omega)]; congr 1 <;> omega) ?_; refine vY (r := r) (off := 0) (n := i) (cap := cap) (m := n + 1 - i) (sz := 8) (b := 96) (xs := A) rfl rfl rfl rfl (Ja (k := 0) rfl) rfl rfl rfl rfl rfl rfl (by decide) (by simp only [List.toList_toArray, List.drop_zero]; rw [List.append_assoc, List.take_left' lA]) lA (by omega) (by omega) (by omega) (by omega) (by omega) fun r2 cap2 Z sp2 hZ hsp2 => ?_; rw [show i + (n + 1 - i) = n + 1 by omega] at hsp2 ⊢
          obtain ⟨Z1, Z2, rfl, lZ1⟩ := cut (l := Z) (a := 8) (by omega)
          have lZ2 : Z2.length = (n - i) * 8 := by rw [List.length_append, lZ1] at hZ; omega
          rw [show A ++ (Z1 ++ Z2) ++ sp2 = A ++ (Z1 ++ (Z2 ++ sp2)) by simp only [List.append_assoc]]; refine Jj rfl (nK hK16 ?_); refine sR fun _ hK17 => LS 2 [] rfl rfl ?_; refine LR rfl (JT (sz := 8) (m := i) (kl := some (i)) (kh := none) (km := none) (q := n + 1) (z := cap2) (off' := i * 8) rfl rfl rfl ⟨_, rfl⟩ trivial trivial rfl rfl rfl (by omega) (by omega) (by omega) (fun _ => rfl) (by rw [if_neg (by omega)]; omega)) ?_; refine Jj rfl ?_
          refine XE (k := 0) (n := 1) (sz := 8) (vs := AcL.cells y) (cs' := A ++ (AcL.cells y ++ (Z2 ++ sp2))) rfl rfl rfl rfl rfl (Or.inr hv) rfl rfl (by simp only [Nat.min_def]; split <;> omega) rfl lF oF (by simp only [List.size_toArray, List.length_append]; omega) (Xq lA (by rw [lZ1])) rfl ?_; refine nK hK17 (sQ fun _ hK18 => ?_); refine Kc 8 (by kernel_rfl) (by kernel_rfl) ?_; refine Jl rfl rfl rfl (Jo rfl) ?_; refine Jl rfl rfl rfl (Jo rfl) ?_; refine Jl rfl rfl rfl (Jo rfl) ?_
          refine Jl rfl rfl rfl (JC rfl rfl rfl) ?_; refine Qh (show _ = Value.int .i64 ((i + 1 : Nat) : Int) from by rw [wrap_i64 (by omega) (by omega)]; congr 1 <;> omega) ?_; refine Jl rfl rfl rfl (JT (sz := 8) (m := i + 1) (kl := some (i + 1)) (kh := none) (km := none) (q := n + 1) (z := cap2) (off' := (i + 1) * 8) rfl rfl rfl ⟨_, rfl⟩ trivial trivial rfl rfl rfl (by omega) (by omega) (by omega) (fun _ => rfl) (by rw [if_neg (by omega)]; omega)) ?_; refine Jl rfl rfl rfl (Jo rfl) ?_; refine Jl rfl rfl rfl (Jo rfl) ?_; refine Jl rfl rfl rfl (JT (sz := 8) (m := i) (kl := some (i)) (kh := none) (km := none) (q := n) (z := cap) (off' := i * 8) rfl rfl rfl ⟨_, rfl⟩ trivial trivial rfl rfl rfl (by omega) (by omega) (by omega) (fun _ => rfl) (by rw [if_neg (by omega)]; omega)) ?_; refine Kw ?_; rw [show A ++ (AcL.cells y ++ (Z2 ++ sp2)) = (A ++ AcL.cells y) ++ (Z2 ++ sp2) by simp only [List.append_assoc]]
          refine XE (k := 0) (n := n - i) (sz := 8) (vs := B) (cs' := (A ++ AcL.cells y) ++ (B ++ sp2)) rfl rfl rfl rfl rfl (Ja (k := 1) rfl) rfl rfl (by simp only [Nat.min_def]; split <;> omega) (by simp only [List.toList_toArray]; rw [List.append_assoc, List.drop_left' lA, List.take_left' lB]) lB oB (by simp only [List.size_toArray, List.length_append]; omega) (Xq (by rw [List.length_append, lA, lF]; omega) lZ2) rfl ?_; refine nK hK18 (sR fun _ hK19 => ?_); refine LS 2 [] rfl rfl (nK hK19 ?_); refine Jc (Jf ?_); refine pT rfl rfl rfl fun w1 hs1 => ?_; exact ⟨⟨some (r2, cap2, sp2), by simp only [List.length_append]; omega, hsp2⟩, rfl, hs1.weakL (by simp [JX])⟩
        · try simp only [ZZ] at h15
          refine Jg (hK13 ?_); refine sR fun _ hK20 => LS 3 [] rfl rfl ?_
          refine JZ rfl ?_; refine J1 (show _ = Value.int .i64 ((n + 1 : Nat) : Int) from by rw [wrap_i64 (by omega) (by omega)]; congr 1 <;> omega) ?_
          refine LR rfl (JT (sz := 8) (q := n + 1) (kl := none) (kh := some (n + 1)) (km := none) (m := 0) (z := cap) (off' := 0) rfl rfl rfl trivial ⟨_, rfl⟩ trivial rfl rfl rfl (by omega) (by omega) (by omega) (fun h => by cases h) (by split <;> omega)) ?_; refine Jj rfl (nK hK20 ?_); refine sQ fun _ hK21 => sR fun _ hK22 => ?_; refine LS 4 [] rfl rfl ?_
          refine JZ rfl ?_; refine J1 (show _ = Value.int .i64 ((i + 1 : Nat) : Int) from by rw [wrap_i64 (by omega) (by omega)]; congr 1 <;> omega) ?_; refine LR rfl (JT (sz := 8) (m := i + 1) (kl := some (i + 1)) (kh := none) (km := none) (q := n + 1) (z := cap) (off' := (i + 1) * 8) rfl rfl rfl ⟨_, rfl⟩ trivial trivial rfl rfl rfl (by omega) (by omega) (by omega) (fun _ => rfl) (by rw [if_neg (by omega)]; omega)) ?_; refine LR rfl (q6 (k := 0) rfl rfl rfl hv rfl rfl rfl (by simp only [List.size_toArray, List.length_append]; omega) Tryz.func107 rfl rfl rfl rfl) ?_; refine JZ rfl (nK hK22 ?_); refine Jd rfl (fun h23 => ?_) (fun h23 => ?_)
          · try simp only [ZZ] at h23
            refine sQ fun _ hK24 => ?_; refine Kc 8 (by kernel_rfl) (by kernel_rfl) ?_; refine Jl rfl rfl rfl (Jo rfl) ?_; refine Jl rfl rfl rfl (Jo rfl) ?_; refine Jl rfl rfl rfl (Jo rfl) ?_
            refine Jl rfl rfl rfl (JC rfl rfl rfl) ?_; refine Qh (show _ = Value.int .i64 ((i + 1 : Nat) : Int) from by rw [wrap_i64 (by omega) (by omega)]; congr 1 <;> omega) ?_; refine Jl rfl rfl rfl (JT (sz := 8) (m := i + 1) (kl := some (i + 1)) (kh := none) (km := none) (q := n + 1) (z := cap) (off' := (i + 1) * 8) rfl rfl rfl ⟨_, rfl⟩ trivial trivial rfl rfl rfl (by omega) (by omega) (by omega) (fun _ => rfl) (by rw [if_neg (by omega)]; omega)) ?_; refine Jl rfl rfl rfl (Jo rfl) ?_; refine Jl rfl rfl rfl (Jo rfl) ?_; refine Jl rfl rfl rfl (JT (sz := 8) (m := i) (kl := some (i)) (kh := none) (km := none) (q := n + 1) (z := cap) (off' := i * 8) rfl rfl rfl ⟨_, rfl⟩ trivial trivial rfl rfl rfl (by omega) (by omega) (by omega) (fun _ => rfl) (by rw [if_neg (by omega)]; omega)) ?_; refine Kw ?_
            obtain ⟨X1, X2, hX, lX1⟩ := cut (l := B ++ sp) (a := 8) (by rw [List.length_append]; omega)
            obtain ⟨X3, X4, rfl, lX3⟩ := cut (l := X2) (a := (n - i) * 8) (by have := congrArg List.length hX; simp only [List.length_append] at this; omega)
            rw [show (A ++ B) ++ sp = (A ++ X1) ++ (X3 ++ X4) by rw [List.append_assoc, hX]; simp only [List.append_assoc]]
            refine XE (k := 0) (n := n - i) (sz := 8) (vs := B) (cs' := (A ++ X1) ++ (B ++ X4)) rfl rfl rfl rfl rfl (Ja (k := 0) rfl) rfl rfl (by simp only [Nat.min_def]; split <;> omega) (by simp only [List.toList_toArray]; rw [List.append_assoc, List.drop_left' lA, ← hX, List.take_left' lB]) lB oB (by have := congrArg List.length hX; simp only [List.size_toArray, List.length_append] at this ⊢; omega) (Xq (by rw [List.length_append, lA, lX1]; omega) lX3) rfl ?_; refine nK hK24 (sR fun _ hK25 => ?_); refine LS 2 [] rfl rfl ?_; refine LR rfl (JT (sz := 8) (m := i) (kl := some (i)) (kh := none) (km := none) (q := n + 1) (z := cap) (off' := i * 8) rfl rfl rfl ⟨_, rfl⟩ trivial trivial rfl rfl rfl (by omega) (by omega) (by omega) (fun _ => rfl) (by rw [if_neg (by omega)]; omega)) ?_; refine Jj rfl ?_; rw [show (A ++ X1) ++ (B ++ X4) = A ++ (X1 ++ (B ++ X4)) by simp only [List.append_assoc]]
            refine XE (k := 0) (n := 1) (sz := 8) (vs := AcL.cells y) (cs' := A ++ (AcL.cells y ++ (B ++ X4))) rfl rfl rfl rfl rfl (Or.inr hv) rfl rfl (by simp only [Nat.min_def]; split <;> omega) rfl lF oF (by simp only [List.size_toArray, List.length_append]; omega) (Xq lA (by rw [lX1])) rfl ?_; refine nK hK25 (sR fun _ hK26 => ?_); refine LS 2 [] rfl rfl (nK hK26 ?_); refine Jc (Jf ?_); refine pT rfl rfl rfl fun w1 hs1 => ?_; exact ⟨⟨some (r, cap, X4), by simp only [List.length_append]; omega, by have := congrArg List.length hX; simp only [List.length_append] at this; omega⟩, rfl, by simpa [JX] using hs1⟩
          · try exact Bool.noConfusion h23
theorem Jn1 {R : Jr} {xs : List (BS × BS)} {p : Pl} (hl : xs.length ≤ 1000) (hs : Seg R xs.length (xs.flatMap QS) p) :
    PureT (α := { row : Vw // rowOk 2 xs.length (xs.flatMap QS) row }) Tryz.prog 74 [KU xs.length p].toArray (fun x => JE xs.length x.1) [] (fun x => JX 59 (xs.flatMap QS) x.1) R := by
  cases p with
  | none =>
    have h0 : xs = [] := List.length_eq_zero_iff.1 hs
    subst h0; refine JI Tryz.func74 rfl rfl fun w => ?_; refine sR fun _ hK1 => Jj rfl (nK hK1 ?_); refine sQ fun _ hK2 => sR fun _ hK3 => ?_; refine LS 2 [] rfl rfl (nK hK3 ?_); refine Jd rfl (fun h4 => ?_) (fun h4 => ?_)
    try simp only [ZZ] at h4
    refine sR fun _ hK5 => Jj rfl (nK hK5 ?_); refine Jc (Jf ?_); refine pT rfl rfl rfl fun w1 hs1 => ?_; exact ⟨⟨none, rfl, rfl⟩, rfl, hs1⟩
    try exact Bool.noConfusion h4
  | some q =>
    refine JI Tryz.func74 rfl rfl fun w => ?_; refine sR fun _ hK1 => Jj rfl (nK hK1 ?_); refine sQ fun _ hK2 => sR fun _ hK3 => ?_; refine LS 2 [] rfl rfl (nK hK3 ?_); refine Jd rfl (fun h4 => ?_) (fun h4 => ?_)
    try exact Bool.noConfusion h4
    · try simp only [ZZ] at h4
      refine Jg (hK2 ?_); refine sR fun _ hK6 => ?_; refine Xp rfl rfl rfl rfl fun r1 => ?_; refine Jj rfl (wg (k := 0) (b := 32) (sz := 2) rfl rfl rfl rfl rfl rfl hs (fun q hq => Or.inr hq) rfl rfl rfl rfl rfl (by decide) (KY Kn xs) (Yz jq xs) (by omega) (by omega) fun row hrow => (Jj rfl ?_)); refine nK hK6 (Jc ?_); refine pT rfl rfl rfl fun w1 hs1 => ?_; exact ⟨⟨row, hrow⟩, rfl, hs1.weakL (List.sublist_append_left _ _)⟩
theorem Ji8 {R : Jr} {xs : List (BS × BS)} {row : Vw} (hl : xs.length ≤ 1000) (hrow : rowOk 2 xs.length (xs.flatMap QS) row) {i : Nat} (hi : i ≤ xs.length) {y : (BS × BS)} {rv : Nat} (hv : (rv, Obj.cells (QS y).toArray 59 (0, 0)) ∈ R) :
    PureT (α := { row' : Vw // rowOk 2 (xs.length + 1) ((xs.take i ++ y :: xs.drop i).flatMap QS) row' }) Tryz.prog 75 [JE xs.length row, .int .i64 (i : Int), .slice (some ⟨rv, 0, none⟩) 1 1].toArray (fun x => JE (xs.length + 1) x.1) (JX 59 (xs.flatMap QS) row) (fun x => JX 59 ((xs.take i ++ y :: xs.drop i).flatMap QS) x.1) R := by
  obtain ⟨A, hA⟩ : ∃ A, A = (xs.take i).flatMap QS := ⟨_, rfl⟩
  obtain ⟨B, hB⟩ : ∃ B, B = (xs.drop i).flatMap QS := ⟨_, rfl⟩
  obtain ⟨n, hn⟩ : ∃ n, n = xs.length := ⟨_, rfl⟩
  have e1 : xs.flatMap QS = A ++ B := by rw [hA, hB, ← List.flatMap_append, List.take_append_drop]
  have e2 : (xs.take i ++ y :: xs.drop i).flatMap QS = A ++ (QS y ++ B) := by rw [List.flatMap_append, List.flatMap_cons, hA, hB]
  have lA : A.length = i * 2 := by rw [hA, KY Kn, List.length_take, Nat.min_eq_left hi]
  have lB : B.length = (n - i) * 2 := by rw [hB, KY Kn, List.length_drop, hn]
  have lF : (QS y).length = 2 := Kn y
  have oF : (QS y).all QQ = true := jq y
  have oA : A.all QQ = true := by rw [hA]; exact Yz jq _
  have oB : B.all QQ = true := by rw [hB]; exact Yz jq _
  rw [e1] at hrow; rw [e1, e2]; rw [← hn] at hl hi hrow ⊢; clear hA hB e1 e2 hn
  cases row with
  | none =>
    obtain ⟨rfl, hAB⟩ := hrow
    obtain rfl : i = 0 := by omega
    obtain ⟨rfl, rfl⟩ := List.append_eq_nil_iff.1 hAB
    refine JI Tryz.func75 rfl rfl fun w => ?_; refine sR fun _ hK1 => Jj rfl (nK hK1 ?_); refine sR fun _ hK2 => LS 3 [] rfl rfl (nK hK2 ?_); refine sR fun _ hK3 => Jj rfl (LR rfl (KK rfl rfl) (Jj rfl ?_)); refine nK hK3 (sQ fun _ hK4 => ?_); refine sR fun _ hK5 => LS 2 [] rfl rfl (nK hK5 ?_); refine Jd rfl (fun h6 => ?_) (fun h6 => ?_)
    try exact Bool.noConfusion h6
    try simp only [ZZ] at h6
    refine Jg (hK4 ?_); refine sR fun _ hK8 => Jj rfl (LR rfl (KK rfl rfl) (Jj rfl ?_)); refine nK hK8 (sQ fun _ hK9 => ?_); refine sR fun _ hK10 => LS 3 [] rfl rfl (nK hK10 ?_); refine Jd rfl (fun h11 => ?_) (fun h11 => ?_)
    try simp only [ZZ] at h11
    refine sR fun _ hK12 => LS 2 [] rfl rfl ?_; refine Wm (n := 0) (m := 1) (b := 32) (sz := 2) (news := QS y) (xs := []) (L0 := []) rfl rfl rfl rfl (Or.inr hv) rfl rfl rfl rfl rfl (by decide) rfl rfl oF (by decide) SlOwn.nil (by decide) (by decide) fun r1 cap1 sp1 hsp1 => ?_; refine Jj rfl (nK hK12 ?_); refine Jc (Jf ?_); refine pT rfl rfl rfl fun w1 hs1 => ?_; exact ⟨⟨some (r1, cap1, sp1), by simp [lF], hsp1⟩, rfl, by simpa [JX] using hs1⟩
    try exact Bool.noConfusion h11
  | some q =>
    obtain ⟨r, cap, sp⟩ := q
    obtain ⟨hr1, hr2⟩ := hrow
    have hcap : n ≤ cap := by omega
    refine JI Tryz.func75 rfl rfl fun w => ?_; change HC _ _ _ [(r, .cells ((A ++ B) ++ sp).toArray 59 (0, 0))] _ _ _; refine sR fun _ hK1 => Jj rfl (nK hK1 ?_); refine sR fun _ hK2 => LS 2 [] rfl rfl ?_; refine LR rfl (JT (m := i) (kl := some i) (kh := none) (km := none) (q := n) (z := cap) rfl rfl rfl ⟨_, rfl⟩ trivial trivial rfl rfl rfl (by omega) (by omega) (by omega) (fun _ => rfl) rfl) ?_; refine nK hK2 (sR fun _ hK3 => ?_); refine Jj rfl (LR rfl (KK rfl rfl) (Jj rfl ?_)); refine nK hK3 (sQ fun _ hK4 => ?_); refine sR fun _ hK5 => LS 2 [] rfl rfl (nK hK5 ?_); refine Jd rfl (fun h6 => ?_) (fun h6 => ?_)
    try exact Bool.noConfusion h6
    · try simp only [ZZ] at h6
      refine Jg (hK4 ?_); refine sR fun _ hK8 => Jj rfl (LR rfl (KK rfl rfl) (Jj rfl ?_)); refine nK hK8 (sQ fun _ hK9 => ?_); refine sR fun _ hK10 => LS 3 [] rfl rfl (nK hK10 ?_); refine Jd rfl (fun h11 => ?_) (fun h11 => ?_)
      try simp only [ZZ] at h11
      refine sR fun _ hK12 => LS 2 [] rfl rfl ?_
      obtain rfl : B = [] := List.length_eq_zero_iff.1 (by omega)
      refine Wm (n := n) (m := 1) (b := 32) (sz := 2) (news := QS y) (xs := A ++ []) (L0 := []) rfl rfl rfl rfl (Or.inr hv) rfl rfl rfl rfl rfl (by decide) rfl lF oF (by decide) (SlOwn.own (k := 0) rfl (by simp only [List.toList_toArray]; rw [List.take_left' hr1]) hr1 (by rw [List.size_toArray, List.length_append, hr1]; omega) rfl) (by omega) (by omega) fun r1 cap1 sp1 hsp1 => ?_; refine Jj rfl (nK hK12 ?_); refine Jc (Jf ?_); refine pT rfl rfl rfl fun w1 hs1 => ?_; exact ⟨⟨some (r1, cap1, sp1), by simp only [List.length_append, List.length_nil, lF]; omega, hsp1⟩, rfl, by simpa [JX] using hs1⟩
      · try simp only [ZZ] at h11
        refine Jg (hK9 ?_); refine sQ fun _ hK13 => sR fun _ hK14 => ?_; refine LS 3 [] rfl rfl ?_; refine Jy (by omega) (by omega) ?_; refine Jj rfl (LR rfl (Jga rfl rfl) (JZ rfl ?_)); refine nK hK14 ?_; refine Jd rfl (fun h15 => ?_) (fun h15 => ?_)
        · try simp only [ZZ] at h15
          refine sR fun _ hK16 => LS 2 [] rfl rfl ?_
          refine LR rfl (JT (sz := 2) (q := i) (kl := none) (kh := some (i)) (km := none) (m := 0) (z := cap) (off' := 0) rfl rfl rfl trivial ⟨_, rfl⟩ trivial rfl rfl rfl (by omega) (by omega) (by omega) (fun h => by cases h) (by split <;> omega)) ?_; refine LS 3 [] rfl rfl ?_; refine Jy (by omega) (by omega) ?_; refine Jj rfl ?_
          refine JZ rfl ?_; refine J1 (show _ = Value.int .i64 ((n + 1 - i : Nat) : Int) from by rw [wrap_i64 (by omega) (by omega)]; congr 1 <;> omega) ?_; refine vY (r := r) (off := 0) (n := i) (cap := cap) (m := n + 1 - i) (sz := 2) (b := 32) (xs := A) rfl rfl rfl rfl (Ja (k := 0) rfl) rfl rfl rfl rfl rfl rfl (by decide) (by simp only [List.toList_toArray, List.drop_zero]; rw [List.append_assoc, List.take_left' lA]) lA (by omega) (by omega) (by omega) (by omega) (by omega) fun r2 cap2 Z sp2 hZ hsp2 => ?_; rw [show i + (n + 1 - i) = n + 1 by omega] at hsp2 ⊢
          obtain ⟨Z1, Z2, rfl, lZ1⟩ := cut (l := Z) (a := 2) (by omega)
          have lZ2 : Z2.length = (n - i) * 2 := by rw [List.length_append, lZ1] at hZ; omega
          rw [show A ++ (Z1 ++ Z2) ++ sp2 = A ++ (Z1 ++ (Z2 ++ sp2)) by simp only [List.append_assoc]]; refine Jj rfl (nK hK16 ?_); refine sR fun _ hK17 => LS 2 [] rfl rfl ?_; refine LR rfl (JT (sz := 2) (m := i) (kl := some (i)) (kh := none) (km := none) (q := n + 1) (z := cap2) (off' := i * 2) rfl rfl rfl ⟨_, rfl⟩ trivial trivial rfl rfl rfl (by omega) (by omega) (by omega) (fun _ => rfl) (by rw [if_neg (by omega)]; omega)) ?_; refine Jj rfl ?_
          refine XE (k := 0) (n := 1) (sz := 2) (vs := QS y) (cs' := A ++ (QS y ++ (Z2 ++ sp2))) rfl rfl rfl rfl rfl (Or.inr hv) rfl rfl (by simp only [Nat.min_def]; split <;> omega) rfl lF oF (by simp only [List.size_toArray, List.length_append]; omega) (Xq lA (by rw [lZ1])) rfl ?_; refine nK hK17 (sQ fun _ hK18 => ?_); refine Kc 8 (by kernel_rfl) (by kernel_rfl) ?_; refine Jl rfl rfl rfl (Jo rfl) ?_; refine Jl rfl rfl rfl (Jo rfl) ?_; refine Jl rfl rfl rfl (Jo rfl) ?_
          refine Jl rfl rfl rfl (JC rfl rfl rfl) ?_; refine Qh (show _ = Value.int .i64 ((i + 1 : Nat) : Int) from by rw [wrap_i64 (by omega) (by omega)]; congr 1 <;> omega) ?_; refine Jl rfl rfl rfl (JT (sz := 2) (m := i + 1) (kl := some (i + 1)) (kh := none) (km := none) (q := n + 1) (z := cap2) (off' := (i + 1) * 2) rfl rfl rfl ⟨_, rfl⟩ trivial trivial rfl rfl rfl (by omega) (by omega) (by omega) (fun _ => rfl) (by rw [if_neg (by omega)]; omega)) ?_; refine Jl rfl rfl rfl (Jo rfl) ?_; refine Jl rfl rfl rfl (Jo rfl) ?_; refine Jl rfl rfl rfl (JT (sz := 2) (m := i) (kl := some (i)) (kh := none) (km := none) (q := n) (z := cap) (off' := i * 2) rfl rfl rfl ⟨_, rfl⟩ trivial trivial rfl rfl rfl (by omega) (by omega) (by omega) (fun _ => rfl) (by rw [if_neg (by omega)]; omega)) ?_; refine Kw ?_; rw [show A ++ (QS y ++ (Z2 ++ sp2)) = (A ++ QS y) ++ (Z2 ++ sp2) by simp only [List.append_assoc]]
          refine XE (k := 0) (n := n - i) (sz := 2) (vs := B) (cs' := (A ++ QS y) ++ (B ++ sp2)) rfl rfl rfl rfl rfl (Ja (k := 1) rfl) rfl rfl (by simp only [Nat.min_def]; split <;> omega) (by simp only [List.toList_toArray]; rw [List.append_assoc, List.drop_left' lA, List.take_left' lB]) lB oB (by simp only [List.size_toArray, List.length_append]; omega) (Xq (by rw [List.length_append, lA, lF]; omega) lZ2) rfl ?_; refine nK hK18 (sR fun _ hK19 => ?_); refine LS 2 [] rfl rfl (nK hK19 ?_); refine Jc (Jf ?_); refine pT rfl rfl rfl fun w1 hs1 => ?_; exact ⟨⟨some (r2, cap2, sp2), by simp only [List.length_append]; omega, hsp2⟩, rfl, hs1.weakL (by simp [JX])⟩
        · try simp only [ZZ] at h15
          refine Jg (hK13 ?_); refine sR fun _ hK20 => LS 3 [] rfl rfl ?_
          refine JZ rfl ?_; refine J1 (show _ = Value.int .i64 ((n + 1 : Nat) : Int) from by rw [wrap_i64 (by omega) (by omega)]; congr 1 <;> omega) ?_
          refine LR rfl (JT (sz := 2) (q := n + 1) (kl := none) (kh := some (n + 1)) (km := none) (m := 0) (z := cap) (off' := 0) rfl rfl rfl trivial ⟨_, rfl⟩ trivial rfl rfl rfl (by omega) (by omega) (by omega) (fun h => by cases h) (by split <;> omega)) ?_; refine Jj rfl (nK hK20 ?_); refine sQ fun _ hK21 => sR fun _ hK22 => ?_; refine LS 4 [] rfl rfl ?_
          refine JZ rfl ?_; refine J1 (show _ = Value.int .i64 ((i + 1 : Nat) : Int) from by rw [wrap_i64 (by omega) (by omega)]; congr 1 <;> omega) ?_; refine LR rfl (JT (sz := 2) (m := i + 1) (kl := some (i + 1)) (kh := none) (km := none) (q := n + 1) (z := cap) (off' := (i + 1) * 2) rfl rfl rfl ⟨_, rfl⟩ trivial trivial rfl rfl rfl (by omega) (by omega) (by omega) (fun _ => rfl) (by rw [if_neg (by omega)]; omega)) ?_; refine LR rfl (q6 (k := 0) rfl rfl rfl hv rfl rfl rfl (by simp only [List.size_toArray, List.length_append]; omega) Tryz.func111 rfl rfl rfl rfl) ?_; refine JZ rfl (nK hK22 ?_); refine Jd rfl (fun h23 => ?_) (fun h23 => ?_)
          · try simp only [ZZ] at h23
            refine sQ fun _ hK24 => ?_; refine Kc 8 (by kernel_rfl) (by kernel_rfl) ?_; refine Jl rfl rfl rfl (Jo rfl) ?_; refine Jl rfl rfl rfl (Jo rfl) ?_; refine Jl rfl rfl rfl (Jo rfl) ?_
            refine Jl rfl rfl rfl (JC rfl rfl rfl) ?_; refine Qh (show _ = Value.int .i64 ((i + 1 : Nat) : Int) from by rw [wrap_i64 (by omega) (by omega)]; congr 1 <;> omega) ?_; refine Jl rfl rfl rfl (JT (sz := 2) (m := i + 1) (kl := some (i + 1)) (kh := none) (km := none) (q := n + 1) (z := cap) (off' := (i + 1) * 2) rfl rfl rfl ⟨_, rfl⟩ trivial trivial rfl rfl rfl (by omega) (by omega) (by omega) (fun _ => rfl) (by rw [if_neg (by omega)]; omega)) ?_; refine Jl rfl rfl rfl (Jo rfl) ?_; refine Jl rfl rfl rfl (Jo rfl) ?_; refine Jl rfl rfl rfl (JT (sz := 2) (m := i) (kl := some (i)) (kh := none) (km := none) (q := n + 1) (z := cap) (off' := i * 2) rfl rfl rfl ⟨_, rfl⟩ trivial trivial rfl rfl rfl (by omega) (by omega) (by omega) (fun _ => rfl) (by rw [if_neg (by omega)]; omega)) ?_; refine Kw ?_
            obtain ⟨X1, X2, hX, lX1⟩ := cut (l := B ++ sp) (a := 2) (by rw [List.length_append]; omega)
            obtain ⟨X3, X4, rfl, lX3⟩ := cut (l := X2) (a := (n - i) * 2) (by have := congrArg List.length hX; simp only [List.length_append] at this; omega)
            rw [show (A ++ B) ++ sp = (A ++ X1) ++ (X3 ++ X4) by rw [List.append_assoc, hX]; simp only [List.append_assoc]]
            refine XE (k := 0) (n := n - i) (sz := 2) (vs := B) (cs' := (A ++ X1) ++ (B ++ X4)) rfl rfl rfl rfl rfl (Ja (k := 0) rfl) rfl rfl (by simp only [Nat.min_def]; split <;> omega) (by simp only [List.toList_toArray]; rw [List.append_assoc, List.drop_left' lA, ← hX, List.take_left' lB]) lB oB (by have := congrArg List.length hX; simp only [List.size_toArray, List.length_append] at this ⊢; omega) (Xq (by rw [List.length_append, lA, lX1]; omega) lX3) rfl ?_; refine nK hK24 (sR fun _ hK25 => ?_); refine LS 2 [] rfl rfl ?_; refine LR rfl (JT (sz := 2) (m := i) (kl := some (i)) (kh := none) (km := none) (q := n + 1) (z := cap) (off' := i * 2) rfl rfl rfl ⟨_, rfl⟩ trivial trivial rfl rfl rfl (by omega) (by omega) (by omega) (fun _ => rfl) (by rw [if_neg (by omega)]; omega)) ?_; refine Jj rfl ?_; rw [show (A ++ X1) ++ (B ++ X4) = A ++ (X1 ++ (B ++ X4)) by simp only [List.append_assoc]]
            refine XE (k := 0) (n := 1) (sz := 2) (vs := QS y) (cs' := A ++ (QS y ++ (B ++ X4))) rfl rfl rfl rfl rfl (Or.inr hv) rfl rfl (by simp only [Nat.min_def]; split <;> omega) rfl lF oF (by simp only [List.size_toArray, List.length_append]; omega) (Xq lA (by rw [lX1])) rfl ?_; refine nK hK25 (sR fun _ hK26 => ?_); refine LS 2 [] rfl rfl (nK hK26 ?_); refine Jc (Jf ?_); refine pT rfl rfl rfl fun w1 hs1 => ?_; exact ⟨⟨some (r, cap, X4), by simp only [List.length_append]; omega, by have := congrArg List.length hX; simp only [List.length_append] at this; omega⟩, rfl, by simpa [JX] using hs1⟩
          · try exact Bool.noConfusion h23
theorem Jrb {R : Jr} {xs : List AcL} {p : Pl} (hl : xs.length ≤ 1000) (hs : Seg R xs.length (xs.flatMap AcL.cells) p) (hso : KE AcL.addr xs) (y : AcL) :
    PureT (α := { row : Vw // rowOk 8 (QA AcL.addr y xs).length ((QA AcL.addr y xs).flatMap AcL.cells) row }) Tryz.prog 46 [KU xs.length p, vA y, fV 39].toArray (fun x => JE (QA AcL.addr y xs).length x.1) [] (fun x => JX 34 ((QA AcL.addr y xs).flatMap AcL.cells) x.1) R := by
  have hins := Jlp (x := y) hso
  obtain ⟨j, hj⟩ : ∃ j, j = ZO AcL.addr (AcL.addr y) xs := ⟨_, rfl⟩
  have hjl : j ≤ xs.length := hj ▸ Jln _ _
  have hpl := Jny (k := AcL.addr y) hl hs hso
  have hlt : VN AcL.addr (AcL.addr y) xs = true → j < xs.length := fun h => hj ▸ Jb8 h
  rw [← hj] at hins hpl
  obtain ⟨b, hb⟩ : ∃ b, b = VN AcL.addr (AcL.addr y) xs := ⟨_, rfl⟩
  rw [← hb] at hins hpl hlt; clear hj hb; refine JI Tryz.func46 rfl rfl fun w => ?_; refine sR fun K1 hK1 => ?_; refine Jp (cs := #[_, _, _, _, _, _, _, _]) rfl rfl rfl rfl fun r1 => ?_; refine Jj rfl (nK hK1 ?_); clear hK1 K1; refine sR fun K2 hK2 => LS 3 [0] rfl rfl ?_; refine JF rfl rfl rfl (enters_of Tryz.func39 (by kernel_rfl) rfl) (Jad y) ?_; refine Jj rfl (Ji rfl rfl rfl (enters_of Tryz.func70 (by kernel_rfl) rfl) hpl (fun q hq => Or.inr hq) (LS 5 [] rfl rfl ?_)); refine nK hK2 ?_; clear hK2 K2; refine sR fun K3 hK3 => Jj rfl (Qn rfl rfl rfl (enters_of Tryz.func71 (by kernel_rfl) rfl) (Jn0 hl hs) (fun q hq => Or.inr hq) fun x => ?_)
  obtain ⟨row, hrow⟩ := x
  change HL _ _ ((20, JE xs.length row) :: _) (JX 34 (xs.flatMap AcL.cells) row ++ [(r1, _)]) _ _ _ _; refine Jj rfl (nK hK3 ?_); clear hK3 K3; refine sQ fun K4 hK4 => sR fun K5 hK5 => ?_; refine Jj rfl (nK hK5 ?_); clear hK5 K5; refine Jd rfl (fun h6 => ?_) (fun h6 => ?_)
  try simp only [ZZ] at h6
  refine sQ fun K7 hK7 => ?_
  have hltb := hlt (by assumption)
  obtain ⟨r2, cap2, sp2, rfl⟩ := row_some hrow (by omega)
  change HC _ _ _ [(r2, .cells (xs.flatMap AcL.cells ++ sp2).toArray 34 (0, 0)), (r1, _)] _ _ _; refine Jb (LS 2 [] rfl rfl (LR rfl (J0 (vs := AcL.cells y) rfl (Ja (k := 1) rfl) rfl rfl rfl rfl) ?_)); refine LR rfl (Ki (j := j) (m := 8) rfl rfl rfl rfl rfl (by omega) rfl) ?_; refine QT (k := 0) (n := 8) (vs := (AcL.cells y).toArray) (cs' := ((xs.set j y).flatMap AcL.cells ++ sp2).toArray) rfl rfl rfl rfl rfl rfl (AcL.one y) (by have := hrow.1; simp only [List.size_toArray, List.length_append, KY AcL.len]; omega) (by apply Array.toList_inj.1; simp only [List.toList_toArray, Nat.zero_add]; exact Jgd AcL.len hltb y sp2) rfl ?_; refine nK hK7 ?_; clear hK7 K7; refine sR fun K8 hK8 => LS 2 [] rfl rfl (nK hK8 ?_); clear hK8 K8; refine Jc (Jf ?_); clear hK4 K4; refine pT rfl rfl rfl fun w1 hs1 => ?_
  (rw [if_pos (by assumption)] at hins
   rw [hins, List.length_set]
   exact ⟨⟨some (r2, cap2, sp2), hrow.same (by rw [KY AcL.len, KY AcL.len, List.length_set])⟩, rfl, hs1.weakL (by simp [JX])⟩)
  · try simp only [ZZ] at h6
    refine Jg (hK4 ?_); clear hK4 K4; refine sR fun K9 hK9 => LS 2 [] rfl rfl ?_; refine LR rfl (J0 (vs := AcL.cells y) rfl (Or.inl (List.mem_append_right _ List.mem_cons_self)) rfl rfl rfl rfl) ?_; refine Ka (n := 1) (sz := 8) (vs := [_]) (zs := [_, _, _, _, _, _, _, _]) (r := AcL.cells y) rfl rfl rfl rfl rfl rfl rfl rfl rfl (by rw [Ku]; exact rfl) rfl fun rv => ?_; refine Vh (T := JX 34 (xs.flatMap AcL.cells) row) (L0 := [(rv, _), (r1, _)]) (Rl := [(rv, Obj.cells (AcL.cells y).toArray 34 (0, 0))]) (by exact List.perm_middle.symm) rfl rfl rfl (enters_of Tryz.func72 (by kernel_rfl) rfl) (Ji7 (i := j) (y := y) hl hrow hjl List.mem_cons_self) (fun q hq => Or.inl (by rw [List.mem_singleton.1 hq]; exact List.mem_cons_self)) fun x => ?_
    obtain ⟨row2, hrow2⟩ := x
    refine Jj rfl (nK hK9 ?_); clear hK9 K9; refine Jc (pT rfl rfl rfl fun w1 hs1 => ?_)
    (rw [if_neg (by simp_all)] at hins
     have hln : (xs.take j ++ y :: xs.drop j).length = xs.length + 1 := by simp only [List.length_append, List.length_take, List.length_cons, List.length_drop]; omega
     rw [hins, hln]
     exact ⟨⟨row2, hrow2⟩, rfl, hs1.weakL (List.sublist_append_left _ _)⟩)
theorem Jrc {R : Jr} {xs : List (BS × BS)} {p : Pl} (hl : xs.length ≤ 1000) (hs : Seg R xs.length (xs.flatMap QS) p) (hso : KE Prod.fst xs) (y : (BS × BS)) :
    PureT (α := { row : Vw // rowOk 2 (QA Prod.fst y xs).length ((QA Prod.fst y xs).flatMap QS) row }) Tryz.prog 47 [KU xs.length p, vS y, fV 48].toArray (fun x => JE (QA Prod.fst y xs).length x.1) [] (fun x => JX 59 ((QA Prod.fst y xs).flatMap QS) x.1) R := by
  have hins := Jlp (x := y) hso
  obtain ⟨j, hj⟩ : ∃ j, j = ZO Prod.fst (Prod.fst y) xs := ⟨_, rfl⟩
  have hjl : j ≤ xs.length := hj ▸ Jln _ _
  have hpl := Jnz (k := Prod.fst y) hl hs hso
  have hlt : VN Prod.fst (Prod.fst y) xs = true → j < xs.length := fun h => hj ▸ Jb8 h
  rw [← hj] at hins hpl
  obtain ⟨b, hb⟩ : ∃ b, b = VN Prod.fst (Prod.fst y) xs := ⟨_, rfl⟩
  rw [← hb] at hins hpl hlt; clear hj hb; refine JI Tryz.func47 rfl rfl fun w => ?_; refine sR fun K1 hK1 => ?_; refine Jp (cs := #[_, _]) rfl rfl rfl rfl fun r1 => ?_; refine Jj rfl (nK hK1 ?_); clear hK1 K1; refine sR fun K2 hK2 => LS 3 [0] rfl rfl ?_; refine JF rfl rfl rfl (enters_of Tryz.func48 (by kernel_rfl) rfl) (Jae y) ?_; refine Jj rfl (Ji rfl rfl rfl (enters_of Tryz.func73 (by kernel_rfl) rfl) hpl (fun q hq => Or.inr hq) (LS 5 [] rfl rfl ?_)); refine nK hK2 ?_; clear hK2 K2; refine sR fun K3 hK3 => Jj rfl (Qn rfl rfl rfl (enters_of Tryz.func74 (by kernel_rfl) rfl) (Jn1 hl hs) (fun q hq => Or.inr hq) fun x => ?_)
  obtain ⟨row, hrow⟩ := x
  change HL _ _ ((20, JE xs.length row) :: _) (JX 59 (xs.flatMap QS) row ++ [(r1, _)]) _ _ _ _; refine Jj rfl (nK hK3 ?_); clear hK3 K3; refine sQ fun K4 hK4 => sR fun K5 hK5 => ?_; refine Jj rfl (nK hK5 ?_); clear hK5 K5; refine Jd rfl (fun h6 => ?_) (fun h6 => ?_)
  try simp only [ZZ] at h6
  refine sQ fun K7 hK7 => ?_
  have hltb := hlt (by assumption)
  obtain ⟨r2, cap2, sp2, rfl⟩ := row_some hrow (by omega)
  change HC _ _ _ [(r2, .cells (xs.flatMap QS ++ sp2).toArray 59 (0, 0)), (r1, _)] _ _ _; refine Jb (LS 2 [] rfl rfl (LR rfl (J0 (vs := QS y) rfl (Ja (k := 1) rfl) rfl rfl rfl rfl) ?_)); refine LR rfl (Ki (j := j) (m := 2) rfl rfl rfl rfl rfl (by omega) rfl) ?_; refine QT (k := 0) (n := 2) (vs := (QS y).toArray) (cs' := ((xs.set j y).flatMap QS ++ sp2).toArray) rfl rfl rfl rfl rfl rfl (jq y) (by have := hrow.1; simp only [List.size_toArray, List.length_append, KY Kn]; omega) (by apply Array.toList_inj.1; simp only [List.toList_toArray, Nat.zero_add]; exact Jgd Kn hltb y sp2) rfl ?_; refine nK hK7 ?_; clear hK7 K7; refine sR fun K8 hK8 => LS 2 [] rfl rfl (nK hK8 ?_); clear hK8 K8; refine Jc (Jf ?_); clear hK4 K4; refine pT rfl rfl rfl fun w1 hs1 => ?_
  (rw [if_pos (by assumption)] at hins
   rw [hins, List.length_set]
   exact ⟨⟨some (r2, cap2, sp2), hrow.same (by rw [KY Kn, KY Kn, List.length_set])⟩, rfl, hs1.weakL (by simp [JX])⟩)
  · try simp only [ZZ] at h6
    refine Jg (hK4 ?_); clear hK4 K4; refine sR fun K9 hK9 => LS 2 [] rfl rfl ?_; refine LR rfl (J0 (vs := QS y) rfl (Or.inl (List.mem_append_right _ List.mem_cons_self)) rfl rfl rfl rfl) ?_; refine Ka (n := 1) (sz := 2) (vs := [_]) (zs := [_, _]) (r := QS y) rfl rfl rfl rfl rfl rfl rfl rfl rfl (by rw [Ku]; exact rfl) rfl fun rv => ?_; refine Vh (T := JX 59 (xs.flatMap QS) row) (L0 := [(rv, _), (r1, _)]) (Rl := [(rv, Obj.cells (QS y).toArray 59 (0, 0))]) (by exact List.perm_middle.symm) rfl rfl rfl (enters_of Tryz.func75 (by kernel_rfl) rfl) (Ji8 (i := j) (y := y) hl hrow hjl List.mem_cons_self) (fun q hq => Or.inl (by rw [List.mem_singleton.1 hq]; exact List.mem_cons_self)) fun x => ?_
    obtain ⟨row2, hrow2⟩ := x
    refine Jj rfl (nK hK9 ?_); clear hK9 K9; refine Jc (pT rfl rfl rfl fun w1 hs1 => ?_)
    (rw [if_neg (by simp_all)] at hins
     have hln : (xs.take j ++ y :: xs.drop j).length = xs.length + 1 := by simp only [List.length_append, List.length_take, List.length_cons, List.length_drop]; omega
     rw [hins, hln]
     exact ⟨⟨row2, hrow2⟩, rfl, hs1.weakL (List.sublist_append_left _ _)⟩)
theorem Jrd (x : BS × BS) : qK x = (((x.1.length : Int) != 32) || ((x.2.length : Int) != 32)) := by
  have key : ∀ n : Nat, decide (n ≠ 32) = ((n : Int) != 32) := fun n => by
    by_cases h : n = 32
    · subst h; rfl
    · have h2 : ¬ (n : Int) = 32 := by omega
      simp [h, h2]
  unfold qK
  rw [key, key]
theorem Jv2 (x : BS × BS) : Pure Tryz.prog 65 [vS x].toArray (.bool (qK x)) := by
  refine JG Tryz.func65 rfl rfl fun w => ?_; refine sR fun K1 hK1 => ?_; refine Jp (cs := #[_, _]) rfl rfl rfl rfl fun r1 => ?_; refine Jj rfl (nK hK1 ?_); clear hK1 K1; refine sR fun K2 hK2 => ?_
  refine LS 2 [0] rfl rfl ?_; refine LR rfl (JY rfl rfl) ?_; refine LS 2 [] rfl rfl ?_
  refine JH 7 rfl (fun hb3 => ?_) (fun hb3 => ?_) <;> (try simp only [ZZ] at hb3) <;> first | (refine LR rfl (JP rfl rfl rfl) ?_) | (refine LK rfl ?_)
  all_goals refine LW 1 [0] rfl rfl ?_
  all_goals first
    | (refine LR rfl (JY rfl rfl) ?_)
    | (refine LK rfl ?_)
  all_goals refine LW 3 [] rfl rfl ?_
  all_goals refine Jh ?_
  all_goals (
   refine hK2 ?_; clear hK2 K2; refine Jc (pT rfl rfl rfl fun w1 hs1 => ?_); refine ⟨?_, hs1.keep⟩; rw [Jrd]
   simp_all [JS]
   skip)
theorem Jre (x : BS × BS) : Pure Tryz.prog 66 [vS x].toArray (.bool (XO x)) := by
  refine JG Tryz.func66 rfl rfl fun w => ?_; refine sR fun _ hK1 => ?_; refine Jp (cs := #[_, _]) rfl rfl rfl rfl fun r1 => ?_; refine Jj rfl (nK hK1 ?_); refine sQ fun _ hK2 => ?_; refine Kc 5 (by kernel_rfl) (by kernel_rfl) ?_
  refine Jl rfl rfl rfl (JP rfl rfl rfl) ?_; refine Jl rfl rfl rfl (Jm rfl (Ja (k := 0) rfl) rfl rfl) ?_; refine Qx rfl rfl rfl (enters_of Tryz.func42 (by kernel_rfl) rfl) Je5 ?_; refine Jl rfl rfl rfl (Vq rfl rfl) ?_; refine Jl rfl rfl rfl (JQ rfl) ?_; refine Kw ?_; refine nK hK2 (Jc ?_); refine pT rfl rfl rfl fun w1 hs1 => ?_; exact ⟨rfl, hs1.keep⟩
theorem qD {R : Jr} {xs : List (BS × BS)} {p : Pl} (hl : xs.length ≤ 9223372036854775807) (hs : Seg R xs.length (xs.flatMap QS) p) {g : FuncId} {caps : List Value} {pr : BS × BS → Bool} (eg : Enters Tryz.prog g) (hg : ∀ x ∈ xs, PureR Tryz.prog g (vS x :: caps).toArray (.bool (pr x)) R) :
    PureR Tryz.prog 67 [KU xs.length p, .func (.func g) #[] caps.toArray].toArray (.bool (xs.any pr)) R := by
  have h := wT hl hs eg hg
  refine Je Tryz.func67 rfl rfl fun w => ?_; refine sR fun _ hK1 => Jj rfl (nK hK1 ?_); refine sR fun _ hK2 => LS 2 [] rfl rfl ?_; refine Ji rfl rfl rfl (enters_of Tryz.func40 (by kernel_rfl) rfl) h (fun q hq => Or.inr hq) ?_; refine JZ rfl (J1 (congrArg Value.bool Jp5) (Jj rfl ?_)); refine nK hK2 (Jc ?_); refine pT rfl rfl rfl fun w1 hs1 => ?_; exact ⟨rfl, hs1.keep⟩
theorem Je6 {R : Jr} {a : AcL} (ha : a.In R) : PureR Tryz.prog 37 [a.val].toArray (.int .i64 (XS a.er)) R := by
  have h1 := qD (g := 65) (caps := []) ha.len ha.seg (enters_of Tryz.func65 (by kernel_rfl) rfl) (fun x _ => (Jv2 x).toR)
  have h2 := qD (g := 66) (caps := []) ha.len ha.seg (enters_of Tryz.func66 (by kernel_rfl) rfl) (fun x _ => (Jre x).toR)
  have h3 := Jnw ha.len ha.seg
  have hl := ha.len
  have hseg := ha.seg
  have hE : XS a.er = if ¬ ((a.addr.length : Int) = 20) ∨ a.slots.any qK = true then 2 else if Vg Prod.fst a.slots = false then 11 else if (512 < (a.code.length : Int)) ∨ (16 < (a.slots.length : Int)) then 5 else if a.slots.any XO = true then 8 else 0 := by
    exact ite_congr (propext (or_congr (by show ¬ a.addr.length = 20 ↔ _; omega) Iff.rfl)) (fun _ => rfl) (fun _ => ite_congr rfl (fun _ => rfl) (fun _ => ite_congr (propext (or_congr (by show a.code.length > 512 ↔ _; omega) (by show a.slots.length > 16 ↔ _; omega))) (fun _ => rfl) (fun _ => rfl)))
  rw [hE]; clear hE
  generalize a.slots.any qK = oB at h1 ⊢
  generalize a.slots.any XO = sBo at h2 ⊢
  generalize Vg Prod.fst a.slots = rB at h3 ⊢
  refine Je Tryz.func37 rfl rfl fun w => ?_; refine sR fun K1 hK1 => ?_; refine Jp (cs := #[_, _, _, _, _, _, _, _]) rfl rfl rfl rfl fun r1 => ?_; refine Jj rfl (nK hK1 ?_); clear hK1 K1; refine sR fun K2 hK2 => Jj rfl (nK hK2 ?_); clear hK2 K2; refine sR fun K3 hK3 => Jj rfl (nK hK3 ?_); clear hK3 K3; refine sB fun K4 hK4 => sR fun K5 hK5 => ?_
  refine LS 2 [0] rfl rfl ?_; refine LR rfl (JY rfl rfl) ?_; refine LS 2 [] rfl rfl ?_
  refine JH 10 rfl (fun hb6 => ?_) (fun hb6 => ?_) <;> (try simp only [ZZ] at hb6) <;> first | (refine LR rfl (JP rfl rfl rfl) ?_) | (refine LK rfl ?_)
  all_goals refine LW 2 [0] rfl rfl ?_
  all_goals first
    | (refine Ji rfl rfl rfl (enters_of Tryz.func67 (by kernel_rfl) rfl) h1 (fun q hq => Or.inr hq) ?_)
    | (refine LK rfl ?_)
  all_goals refine LW 2 [] rfl rfl ?_
  all_goals refine Jh ?_
  all_goals (
   refine hK5 ?_; clear hK5 K5; refine Jd rfl (fun h10 => ?_) (fun h10 => ?_)
   try simp only [ZZ] at h10
   refine sR fun K11 hK11 => Jj rfl (nK hK11 ?_); clear hK11 K11; refine Jc (Jq (Jf ?_)); clear hK4 K4; refine pT rfl rfl rfl fun w1 hs1 => ?_; refine ⟨?_, hs1.keep⟩; simp only [JS]
   simp_all
   · try exact Bool.noConfusion h10
     all_goals try simp only [ZZ] at h10
     all_goals (
      refine sR fun K12 hK12 => ?_
      refine LS 2 [0] rfl rfl ?_; refine Ji rfl rfl rfl (enters_of Tryz.func68 (by kernel_rfl) rfl) h3 (fun q hq => Or.inr hq) ?_; refine LS 2 [] rfl rfl (nK hK12 ?_); clear hK12 K12; refine Jd rfl (fun h13 => ?_) (fun h13 => ?_)
      try simp only [ZZ] at h13
      refine sR fun K14 hK14 => Jj rfl (nK hK14 ?_); clear hK14 K14; refine Jc (Jq (Jf ?_)); clear hK4 K4; refine pT rfl rfl rfl fun w1 hs1 => ?_; refine ⟨?_, hs1.keep⟩; simp only [JS]
      simp_all
      · try simp only [ZZ] at h13
        refine sR fun K15 hK15 => ?_
        refine LS 2 [0] rfl rfl ?_; refine LR rfl (JY rfl rfl) ?_; refine LS 2 [] rfl rfl ?_
        refine JH 26 rfl (fun hb16 => ?_) (fun hb16 => ?_) <;> (try simp only [ZZ] at hb16) <;> first | (refine LR rfl (JP rfl rfl rfl) ?_) | (refine LK rfl ?_)
        all_goals refine LW 1 [0] rfl rfl ?_
        all_goals first
          | (refine LR rfl (J7 rfl hseg rfl) ?_)
          | (refine LK rfl ?_)
        all_goals refine LW 3 [] rfl rfl ?_
        all_goals refine Jh ?_
        all_goals (
         refine hK15 ?_; clear hK15 K15; refine Jd rfl (fun h20 => ?_) (fun h20 => ?_)
         try simp only [ZZ] at h20
         refine sR fun K21 hK21 => Jj rfl (nK hK21 ?_); clear hK21 K21; refine Jc (Jq (Jf ?_)); clear hK4 K4; refine pT rfl rfl rfl fun w1 hs1 => ?_; refine ⟨?_, hs1.keep⟩; simp only [JS]
         simp_all
         · try exact Bool.noConfusion h20
           all_goals try simp only [ZZ] at h20
           all_goals (
            refine sR fun K22 hK22 => ?_
            refine LS 3 [0] rfl rfl ?_; refine Ji rfl rfl rfl (enters_of Tryz.func67 (by kernel_rfl) rfl) h2 (fun q hq => Or.inr hq) ?_; refine Jj rfl (nK hK22 ?_); clear hK22 K22; refine Jd rfl (fun h23 => ?_) (fun h23 => ?_)
            try simp only [ZZ] at h23
            refine sR fun K24 hK24 => Jj rfl (nK hK24 ?_); clear hK24 K24; refine Jc (Jq (Jf ?_)); clear hK4 K4; refine pT rfl rfl rfl fun w1 hs1 => ?_; refine ⟨?_, hs1.keep⟩; simp only [JS]
            simp_all
            try simp only [ZZ] at h23
            refine Jg (Jk (hK4 ?_)); clear hK4 K4; refine sR fun K25 hK25 => Jj rfl (nK hK25 ?_); clear hK25 K25; refine Jc (pT rfl rfl rfl fun w1 hs1 => ?_); refine ⟨?_, hs1.keep⟩; simp only [JS]
            simp_all
            skip)
         skip)
      skip)
   skip)
theorem Jrf {R : Jr} {rb e : Nat} {k : BS} (hb : (rb, Obj.cells #[J5 k] e (0, 0)) ∈ R) (a : AcL) : PureR Tryz.prog 35 [vA a, .pointer (some ⟨rb, 0, none⟩)].toArray (.bool (decide (a.addr = k))) R := by
  refine Je Tryz.func35 rfl rfl fun w => ?_; refine sR fun _ hK1 => ?_; refine Jp (cs := #[_, _, _, _, _, _, _, _]) rfl rfl rfl rfl fun r1 => ?_; refine Jj rfl (nK hK1 ?_); refine sR fun _ hK2 => ?_
  refine LS 2 [0] rfl rfl ?_; refine LR rfl (Jm rfl (Or.inr hb) rfl rfl) ?_; refine LR rfl (Vq rfl rfl) ?_; refine Jj rfl (nK hK2 ?_); refine Jc (pT rfl rfl rfl fun w1 hs1 => ?_); exact ⟨rfl, hs1.keep⟩
theorem Jrg {R : Jr} {rb e : Nat} {k : BS} (hb : (rb, Obj.cells #[J5 k] e (0, 0)) ∈ R) (x : BS × BS) : PureR Tryz.prog 41 [vS x, .pointer (some ⟨rb, 0, none⟩)].toArray (.bool (decide (x.1 = k))) R := by
  refine Je Tryz.func41 rfl rfl fun w => ?_; refine sR fun _ hK1 => ?_; refine Jp (cs := #[_, _]) rfl rfl rfl rfl fun r1 => ?_; refine Jj rfl (nK hK1 ?_); refine sR fun _ hK2 => ?_
  refine LS 2 [0] rfl rfl ?_; refine LR rfl (Jm rfl (Or.inr hb) rfl rfl) ?_; refine LR rfl (Vq rfl rfl) ?_; refine Jj rfl (nK hK2 ?_); refine Jc (pT rfl rfl rfl fun w1 hs1 => ?_); exact ⟨rfl, hs1.keep⟩
theorem Juc {R : Jr} {rb e : Nat} {k : BS} (hb : (rb, Obj.cells #[J5 k] e (0, 0)) ∈ R) (x : BS × BS) : PureR Tryz.prog 50 [vS x, .pointer (some ⟨rb, 0, none⟩)].toArray (.bool (decide (x.1 = k))) R := by
  refine Je Tryz.func50 rfl rfl fun w => ?_; refine sR fun _ hK1 => ?_; refine Jp (cs := #[_, _]) rfl rfl rfl rfl fun r1 => ?_; refine Jj rfl (nK hK1 ?_); refine sR fun _ hK2 => ?_
  refine LS 2 [0] rfl rfl ?_; refine LR rfl (Jm rfl (Or.inr hb) rfl rfl) ?_; refine LR rfl (Vq rfl rfl) ?_; refine Jj rfl (nK hK2 ?_); refine Jc (pT rfl rfl rfl fun w1 hs1 => ?_); exact ⟨rfl, hs1.keep⟩
theorem Jud {R : Jr} {s : StL} (hs : s.In R) (k : BS) : PureR Tryz.prog 14 [s.val, J5 k].toArray (.tuple #[(Wb s k).val, .bool (WO s k)]) R := by
  have hl := hs.len
  have hseg := hs.seg
  refine Je Tryz.func14 rfl rfl fun w => ?_; refine sR fun _ hK1 => ?_; refine Jp (cs := #[_]) rfl rfl rfl rfl fun r1 => ?_; refine Jp (cs := #[_]) rfl rfl rfl rfl fun r2 => ?_; refine Js (cs := #[_, _, _, _, _, _, _, _]) rfl rfl rfl rfl fun r3 => ?_; refine Jj rfl (nK hK1 ?_); refine sR fun _ hK2 => ?_
  refine LS 2 [2] rfl rfl ?_; refine LR rfl (Kv rfl rfl) ?_; refine Ji (Rl := (r2, Obj.cells #[J5 k] 9 (0, 0)) :: R) rfl rfl rfl (enters_of Tryz.func34 (by kernel_rfl) rfl) (Jnu (caps := [.pointer (some ⟨r2, 0, none⟩)]) (pr := fun a => decide (a.addr = k)) hl (hseg.mono fun q hq => List.mem_cons_of_mem _ hq) (enters_of Tryz.func35 (by kernel_rfl) rfl) (fun a _ => Jrf List.mem_cons_self a)) (fun q hq => (List.mem_cons.1 hq).elim (fun h => Or.inl (by rw [h]; simp)) Or.inr) ?_; refine Jj rfl (nK hK2 ?_); refine sQ fun _ hK3 => sR fun _ hK4 => ?_; refine LS 2 [] rfl rfl (nK hK4 ?_); refine Jd rfl (fun h5 => ?_) (fun h5 => ?_)
  try simp only [ZZ] at h5
  refine sQ fun _ hK6 => ?_
  have hf := wi (by assumption)
  refine Jb (LR rfl (JJ (r := [_, _, _, _, _, _, _, _]) rfl rfl) ?_)
  refine LT 0 rfl rfl (Jj rfl ?_); refine nK hK6 (Jc (Jf ?_)); refine Jx rfl rfl (.cons (JA (vs := [_, _, _, _, _, _, _, _]) rfl (Ja (k := 0) rfl) rfl rfl) (.cons (J4 rfl) .nil)) (fun w1 hs1 => ?_); refine ⟨?_, hs1.keep⟩; rw [(yN hf).1, (yN hf).2]; rfl
  · try simp only [ZZ] at h5
    refine Jg (hK3 ?_); refine sQ fun _ hK7 => ?_
    obtain ⟨i, a, hidx, ha, hf⟩ := Jgb (by assumption)
    refine Jb (LS 3 [2] rfl rfl ?_)
    refine LR rfl (Jw (j := i) rfl hseg rfl rfl rfl (by first | rfl | omega) (by have := (List.getElem?_eq_some_iff.1 ha).1; omega)) ?_; refine LR rfl (KS AcL.len (fun q hq => Or.inr hq) rfl hseg ha rfl rfl) ?_
    refine LT 0 rfl rfl (Jj rfl ?_); refine nK hK7 (Jc ?_); refine Jx rfl rfl (.cons (JA (vs := [_, _, _, _, _, _, _, _]) rfl (Ja (k := 0) rfl) rfl rfl) (.cons (J4 rfl) .nil)) (fun w1 hs1 => ?_); refine ⟨?_, hs1.keep⟩; rw [(Jca hf).1, (Jca hf).2]; rfl
theorem Wx {R : Jr} {s : StL} (hs : s.In R) : PureR Tryz.prog 19 [s.val].toArray (.int .i64 (Qm s.er)) R := by
  have hl : s.accts.length ≤ 9223372036854775807 := hs.len
  have hseg := hs.seg
  obtain ⟨hc5, hcg⟩ := Jqc s
  refine Je Tryz.func19 rfl rfl fun w => ?_; refine sR fun K1 hK1 => ?_; refine Jp (cs := #[_]) rfl rfl rfl rfl fun r1 => ?_; refine Jj rfl (nK hK1 ?_); clear hK1 K1; refine sQ fun K2 hK2 => sR fun K3 hK3 => ?_
  refine LS 2 [0] rfl rfl ?_; refine LR rfl (J7 rfl hseg rfl) ?_; refine JZ rfl (nK hK3 ?_); clear hK3 K3; refine Jd rfl (fun h4 => ?_) (fun h4 => ?_)
  try simp only [ZZ] at h4
  refine sR fun K5 hK5 => Jj rfl (nK hK5 ?_); clear hK5 K5; refine Jc (Jf ?_); clear hK2 K2; refine pT rfl rfl rfl fun w1 hs1 => ?_; refine ⟨?_, hs1.keep⟩; rw [hc5 (by assumption)]; rfl
  · try simp only [ZZ] at h4
    refine Jg (hK2 ?_); clear hK2 K2; refine sQ fun K6 hK6 => sR fun K7 hK7 => ?_
    refine LS 2 [0] rfl rfl ?_; refine LR rfl (J7 rfl hseg rfl) ?_; refine Jj rfl (nK hK7 ?_); clear hK7 K7; refine Jv (JN (σ := Nat) (fun i => i ≤ s.accts.length ∧ goS (Yd s.er i) (s.er.drop i) = goS none s.er) (fun i => [(1, .pointer (some ⟨r1, 0, none⟩)), (11, KU s.accts.length s.p), (12, .int .i64 (s.accts.length : Int)), (13, .int .i64 (i : Int))]) (fun _ => [(r1, .cells s.cells.toArray 24 (0, 0))]) (fun _ _ _ => True) (fun i => s.accts.length - i) 0 ⟨Nat.zero_le _, rfl⟩ (.cons rfl (.cons rfl (.cons rfl (.cons rfl .nil)))) (List.Sublist.refl _) (fun _ _ h => h) ?_); rintro i ⟨hi1, hinv⟩; refine sR fun K8 hK8 => JZ rfl (nK hK8 ?_); clear hK8 K8; refine sQ fun K9 hK9 => ?_; refine Jd rfl (fun h10 => ?_) (fun h10 => ?_)
    · try simp only [ZZ] at h10
      refine Jg (hK9 ?_); clear hK9 K9; refine sB fun K11 hK11 => sQ fun K12 hK12 => ?_
      obtain ⟨a, ha, hma⟩ := Vo (show i < s.accts.length by omega)
      rw [Jp8 (qa ha)] at hinv; refine Jb (Jj rfl ?_)
      refine LR rfl (Jw (j := i) rfl hseg rfl rfl rfl (by first | rfl | omega) (by omega)) ?_; refine LR rfl (KS AcL.len (fun q hq => Or.inr hq) rfl hseg ha rfl rfl) ?_; refine Js (cs := #[_, _, _, _, _, _, _, _]) rfl rfl rfl rfl fun r2 => ?_; refine Jj rfl (J2 (k := 0) (n := 8) (ys := a.cells) rfl rfl rfl rfl rfl a.len rfl a.one rfl ?_); refine nK hK12 ?_; clear hK12 K12; refine sR fun K13 hK13 => ?_; refine LR rfl (Ju (xs := a.cells) (n := 8) rfl (Ja (k := 0) rfl) rfl rfl a.len) ?_; refine Ji rfl rfl rfl (enters_of Tryz.func37 (by kernel_rfl) rfl) (Je6 (hs.accts a hma)) (fun q hq => Or.inr hq) ?_; refine Jj rfl (nK hK13 ?_); clear hK13 K13; refine sQ fun K14 hK14 => sR fun K15 hK15 => ?_; refine LS 3 [] rfl rfl ?_
      refine JH 22 rfl (fun hb16 => ?_) (fun hb16 => ?_) <;> (try simp only [ZZ] at hb16) <;> first | (refine Jj rfl ?_) | (refine LK rfl ?_)
      all_goals refine LW 3 [] rfl rfl ?_
      all_goals first
        | (refine LK rfl ?_)
        | (refine JH 26 rfl (fun hb18 => ?_) (fun hb18 => ?_) <;> (try simp only [ZZ] at hb18) <;> first | (refine LR rfl (JP rfl rfl rfl) ?_) | (refine LK rfl ?_))
      all_goals refine LW 2 [1] rfl rfl ?_
      all_goals first
        | (refine JZ rfl ?_; refine Jy (by omega) (by omega) ?_)
        | (refine LK rfl ?_)
      all_goals refine LW 1 [] rfl rfl ?_
      all_goals first
        | (refine JZ rfl ?_; refine Jy (by omega) (by omega) ?_)
        | (refine LK rfl ?_)
      all_goals first
        | (obtain ⟨x, hx, hmx⟩ := Vo (show i - 1 < s.accts.length by omega); refine LR rfl (Jh9 (sz := 8) (a := i - 1) (b := i + 1) (m := 2) rfl hseg rfl rfl (by omega) (by omega) rfl rfl (by omega) (by omega) (by omega)) ?_; have hlast := Jqb hx (show i - 1 + 1 = i by omega))
        | (refine LK rfl ?_)
      all_goals first
        | (refine Ji rfl rfl rfl (enters_of Tryz.func38 (by kernel_rfl) rfl) (Jnv (xs := [x, a]) (show 2 ≤ 9223372036854775807 by decide) (hseg.two AcL.len hx ha (by omega))) (fun q hq => Or.inr hq) ?_; refine J1 (congrArg Value.bool (Jer x a)) ?_)
        | (refine LK rfl ?_)
      all_goals refine LW 2 [] rfl rfl ?_
      all_goals refine Jh ?_
      all_goals (
       refine hK15 ?_; clear hK15 K15; refine Jd rfl (fun h27 => ?_) (fun h27 => ?_)
       · try exact Bool.noConfusion h27
         all_goals try simp only [ZZ] at h27
         all_goals (
          refine Jb (Jj rfl ?_); refine nK hK14 ?_; clear hK14 K14; refine sQ fun K28 hK28 => ?_
          have hst : VS (Yd s.er i) a.er = 11 ∨ VS (Yd s.er i) a.er = XS a.er := by unfold VS; split <;> simp
          have hst : VS (Yd s.er i) a.er = 11 := Jp9 (by assumption) hlast (by assumption)
          rw [hst] at hinv; refine Jb (LS 2 [] rfl rfl ?_); refine nK hK28 ?_; clear hK28 K28; refine Jd rfl (fun h29 => ?_) (fun h29 => ?_)
          try simp only [ZZ] at h29
          refine sR fun K30 hK30 => LS 2 [] rfl rfl (nK hK30 ?_); clear hK30 K30; refine Jc (Jq (Jf ?_)); clear hK11 K11; refine Jf (Jq (Jf ?_)); clear hK6 K6; refine pT rfl rfl rfl fun w1 hs1 => ?_; refine ⟨?_, hs1.keep⟩; rw [hcg (by omega), ← hinv, if_pos (by simp_all)]; rfl
          try exact Bool.noConfusion h29
          skip)
       · try simp only [ZZ] at h27
         refine Jg (hK14 ?_); clear hK14 K14; refine sQ fun K31 hK31 => ?_
         have hst : VS (Yd s.er i) a.er = 11 ∨ VS (Yd s.er i) a.er = XS a.er := by unfold VS; split <;> simp
         have hst : VS (Yd s.er i) a.er = XS a.er := Jqa (by first | exact Or.inl (by assumption) | exact Or.inr (Or.inl (by rw [show i = 0 by omega]; rfl)) | exact Or.inr (Or.inr ⟨_, hlast, by assumption⟩))
         rw [hst] at hinv; refine Jb (LS 2 [] rfl rfl ?_); refine nK hK31 ?_; clear hK31 K31; refine Jd rfl (fun h32 => ?_) (fun h32 => ?_)
         try simp only [ZZ] at h32
         refine sR fun K33 hK33 => LS 2 [] rfl rfl (nK hK33 ?_); clear hK33 K33; refine Jc (Jq (Jf ?_)); clear hK11 K11; refine Jf (Jq (Jf ?_)); clear hK6 K6; refine pT rfl rfl rfl fun w1 hs1 => ?_; refine ⟨?_, hs1.keep⟩; rw [hcg (by omega), ← hinv, if_pos (by simp_all)]; rfl
         try simp only [ZZ] at h32
         refine Jg (Jk (hK11 ?_)); clear hK11 K11; refine Jb (JZ rfl (Jy (by omega) (by omega) ?_)); refine Jj rfl (Jh (JB ?_)); exact J6 (i + 1) ⟨by omega, by rw [if_neg (by simp_all)] at hinv; exact hinv⟩ (by omega) (.cons rfl (.cons rfl (.cons rfl (.cons rfl .nil)))) (List.sublist_cons_self _ _) (fun _ _ h => h)
       skip)
    · try simp only [ZZ] at h10
      refine JL (Jn ?_); clear hK9 K9; refine Jn (J3 (hK6 ?_)); clear hK6 K6; refine sR fun K34 hK34 => Jj rfl (nK hK34 ?_); clear hK34 K34; refine Jc (pT rfl rfl rfl fun w1 hs1 => ?_); refine ⟨?_, hs1.keep⟩; rw [hcg (by omega), ← hinv, List.drop_of_length_le (by rw [s.er_len]; omega)]; rfl
theorem wU {R : Jr} {a : AcL} (ha : a.In R) (k : BS) : PureR Tryz.prog 20 [a.val, J5 k].toArray (J5 (KB a.er k)) R := by
  have hl : a.slots.length ≤ 9223372036854775807 := ha.len
  have hseg := ha.seg
  refine Je Tryz.func20 rfl rfl fun w => ?_; refine sR fun _ hK1 => ?_; refine Jp (cs := #[_, _, _, _, _, _, _, _]) rfl rfl rfl rfl fun r1 => ?_; refine Jp (cs := #[_]) rfl rfl rfl rfl fun r2 => ?_; refine Jj rfl (nK hK1 ?_); refine sR fun _ hK2 => ?_
  refine LS 2 [1] rfl rfl ?_; refine LR rfl (Kv rfl rfl) ?_; refine Ji (Rl := (r2, Obj.cells #[J5 k] 9 (0, 0)) :: R) rfl rfl rfl (enters_of Tryz.func40 (by kernel_rfl) rfl) (wT (caps := [.pointer (some ⟨r2, 0, none⟩)]) (pr := fun x => decide (x.1 = k)) hl (hseg.mono fun q hq => List.mem_cons_of_mem _ hq) (enters_of Tryz.func41 (by kernel_rfl) rfl) (fun x _ => Jrg List.mem_cons_self x)) (fun q hq => (List.mem_cons.1 hq).elim (fun h => Or.inl (by rw [h]; simp)) Or.inr) ?_; refine Jj rfl (nK hK2 ?_); refine sQ fun _ hK3 => sR fun _ hK4 => ?_; refine LS 2 [] rfl rfl (nK hK4 ?_); refine Jd rfl (fun h5 => ?_) (fun h5 => ?_)
  try simp only [ZZ] at h5
  refine sQ fun _ hK6 => ?_
  have hf := wi (by assumption)
  refine Jb (JF rfl rfl rfl (enters_of Tryz.func42 (by kernel_rfl) rfl) Je5 (Jj rfl ?_)); refine nK hK6 (Jc (Jf ?_)); refine pT rfl rfl rfl fun w1 hs1 => ?_; refine ⟨?_, hs1.keep⟩; rw [Jib (a := a.er) hf]; rfl
  · try simp only [ZZ] at h5
    refine Jg (hK3 ?_); refine sQ fun _ hK7 => ?_
    obtain ⟨i, x, hidx, hx, hf⟩ := Jgb (by assumption)
    refine Jb (LS 3 [1] rfl rfl ?_)
    refine LR rfl (Jw (j := i) rfl hseg rfl rfl rfl (by first | rfl | omega) (by have := (List.getElem?_eq_some_iff.1 hx).1; omega)) ?_; refine LR rfl (KG (off' := wZ a.p + (i * 2 + 1)) rfl rfl (by show wZ a.p + i * 2 + 1 = _; omega)) ?_; refine LR rfl (wb Kn (k := 1) (v := J5 x.2) (fun q hq => Or.inr hq) rfl hseg hx rfl rfl) ?_; refine Jj rfl (nK hK7 ?_); refine Jc (pT rfl rfl rfl fun w1 hs1 => ?_); refine ⟨?_, hs1.keep⟩; rw [Jlr (a := a.er) hf]; rfl
theorem Jn2 {R : Jr} {xs : List (BS × BS)} {row : Vw} (hl : xs.length ≤ 1000) (hrow : rowOk 2 xs.length (xs.flatMap QS) row) {g : FuncId} {caps : List Value} {pr : BS × BS → Bool} (eg : Enters Tryz.prog g) (hg : ∀ x ∈ xs, PureR Tryz.prog g (vS x :: caps).toArray (.bool (pr x)) R) :
    PureT (α := { row' : Vw // rowOk 2 (xs.filter fun x => !pr x).length ((xs.filter fun x => !pr x).flatMap QS) row' }) Tryz.prog 49 [JE xs.length row, .func (.func g) #[] caps.toArray].toArray (fun x => JE (xs.filter fun x => !pr x).length x.1) (JX 59 (xs.flatMap QS) row) (fun x => JX 59 ((xs.filter fun x => !pr x).flatMap QS) x.1) R := by
  have hseg := Qj (e := 59) hrow (by decide)
  have hV := Wc xs.length row (fun h => by subst h; exact hrow.1)
  have hidx := wT (R := JX 59 (xs.flatMap QS) row ++ R) (by omega) (hseg.mono fun q hq => List.mem_append_left _ hq) eg (fun x hx => (hg x hx).mono fun q hq => List.mem_append_right _ hq)
  rw [hV] at hidx
  obtain ⟨m, hm⟩ : ∃ m, m = Yy pr xs := ⟨_, rfl⟩
  rw [← hm] at hidx; refine JI Tryz.func49 rfl rfl fun w => ?_; refine sR fun K1 hK1 => Jj rfl (nK hK1 ?_); clear hK1 K1; refine sR fun K2 hK2 => LS 2 [] rfl rfl ?_; refine Ji (Rl := JX 59 (xs.flatMap QS) row ++ R) rfl rfl rfl (enters_of Tryz.func40 (by kernel_rfl) rfl) hidx (fun q hq => (List.mem_append.1 hq).elim Or.inl Or.inr) ?_; refine Jj rfl (nK hK2 ?_); clear hK2 K2; refine sQ fun K3 hK3 => sR fun K4 hK4 => ?_; refine LS 2 [] rfl rfl (nK hK4 ?_); clear hK4 K4; refine Jd rfl (fun h5 => ?_) (fun h5 => ?_)
  try simp only [ZZ] at h5
  refine sR fun K6 hK6 => LS 2 [] rfl rfl (nK hK6 ?_); clear hK6 K6; refine Jc (Jf ?_); clear hK3 K3; refine pT rfl rfl rfl fun w1 hs1 => ?_
  (have hall := Jqe (pr := pr) (xs := xs) (by omega)
   rw [hall]
   exact ⟨⟨row, hrow⟩, rfl, hs1⟩)
  · try simp only [ZZ] at h5
    refine Jg (hK3 ?_); clear hK3 K3; refine sQ fun K7 hK7 => sQ fun K8 hK8 => ?_
    obtain ⟨i, e0⟩ : ∃ i : Nat, m = (i : Int) := by
      rcases wh (pr := pr) (xs := xs) with ⟨h, _⟩ | ⟨i, _, h, _⟩
      · unfold Yy at hm h; split at hm <;> split at h <;> first | omega | simp_all
      exact ⟨i, hm.trans h⟩
    subst e0
    obtain ⟨hil, hif⟩ := Jqd hm.symm
    obtain ⟨r, cap, sp, rfl⟩ := row_some hrow (by omega)
    obtain ⟨hr1, hr2⟩ := hrow
    obtain ⟨x0, hx0, _⟩ := Vo hil
    have hsplit : xs.flatMap QS ++ sp = ((xs.take (i + 1)).filter fun x => !pr x).flatMap QS ++ (QS x0 ++ ((xs.drop (i + 1)).flatMap QS ++ sp)) := by
      rw [hif, ← List.append_assoc (QS x0), ← Jcb hx0, ← List.append_assoc, ← List.flatMap_append, List.take_append_drop]
    change HC _ _ _ [(r, .cells (xs.flatMap QS ++ sp).toArray 59 (0, 0))] _ _ _; rw [hsplit]
    have hcap : xs.length ≤ cap := by omega
    have hi1 : ((xs.take (i + 1)).filter fun x => !pr x).length = i := by rw [hif, List.length_take]; omega
    refine Jb (LS 2 [] rfl rfl (Jy (by omega) (by omega) ?_)); refine Jj rfl (nK hK8 ?_); clear hK8 K8; refine Jv ?_; refine JN (σ := Nat × List Value) (fun s => s.1 ≤ xs.length ∧ ((xs.take s.1).filter fun x => !pr x).length < s.1 ∧ s.2.length + ((xs.take s.1).filter fun x => !pr x).length * 2 = s.1 * 2) (fun s => [(0, .slice (some ⟨r, 0, none⟩) xs.length cap), (1, .func (.func g) #[] caps.toArray), (5, .int .i64 (((xs.take s.1).filter fun x => !pr x).length : Nat)), (6, .int .i64 (s.1 : Int))]) (fun s => [(r, .cells (((xs.take s.1).filter fun x => !pr x).flatMap QS ++ (s.2 ++ ((xs.drop s.1).flatMap QS ++ sp))).toArray 59 (0, 0))]) (fun _ _ _ => True) (fun s => xs.length - s.1) (i + 1, QS x0) ⟨by simp only; omega, by simp only; omega, by simp only [Kn]; omega⟩ (.cons rfl (.cons rfl (.cons (by rw [hi1]; rfl) (.cons rfl .nil)))) (List.Sublist.refl _) (fun _ _ h => h) ?_; rintro ⟨j, G⟩ ⟨hj1, hj2, hG⟩; simp only at hj1 hj2 hG; change HC _ _ [(0, _), (1, _), (5, .int .i64 (((xs.take j).filter fun x => !pr x).length : Nat)), (6, .int .i64 (j : Int))] [(r, .cells (((xs.take j).filter fun x => !pr x).flatMap QS ++ (G ++ ((xs.drop j).flatMap QS ++ sp))).toArray 59 (0, 0))] _ _ _; refine sQ fun K9 hK9 => sR fun K10 hK10 => ?_; refine LS 2 [] rfl rfl ?_; refine LR rfl (KK rfl rfl) ?_; refine JZ rfl (nK hK10 ?_); clear hK10 K10; refine Jd rfl (fun h11 => ?_) (fun h11 => ?_)
    try simp only [ZZ] at h11
    refine Jg (hK9 ?_); clear hK9 K9; refine sB fun K12 hK12 => sQ fun K13 hK13 => ?_
    obtain ⟨x, hx, hmx⟩ := Vo (show j < xs.length by omega)
    rw [Jcb hx, List.append_assoc (QS x)]; refine Jb (LS 2 [] rfl rfl (LR rfl (Ki (j := j) (m := 2) rfl rfl rfl rfl rfl (by omega) rfl) ?_)); refine LR rfl (J0 (n := 2) (vs := QS x) rfl (Ja (k := 0) rfl) rfl rfl (by simp only [List.toList_toArray]; rw [← List.append_assoc, List.drop_left' (by rw [List.length_append, KY Kn]; omega), List.take_left' (Kn x)]) rfl) ?_; refine Js (cs := #[_, _]) rfl rfl rfl rfl fun r1 => ?_; refine J2 (k := 0) (n := 2) (ys := QS x) rfl rfl rfl rfl rfl rfl rfl rfl rfl ?_; refine nK hK13 ?_; clear hK13 K13; refine sR fun K14 hK14 => ?_; refine Jj rfl (LR rfl (Ju (xs := QS x) (n := 2) rfl (Ja (k := 0) rfl) rfl rfl rfl) (Ji rfl rfl rfl eg (hg x hmx) (fun q hq => Or.inr hq) ?_)); refine JZ rfl (nK hK14 ?_); clear hK14 K14; refine Jd rfl (fun h15 => ?_) (fun h15 => ?_)
    try simp only [ZZ] at h15
    refine sQ fun K16 hK16 => ?_
    obtain ⟨M, G2, hcut, lM⟩ := cut (l := G ++ QS x) (a := 2) (by rw [List.length_append, Kn]; omega)
    have lG2 : G2.length = G.length := by have := congrArg List.length hcut; simp only [List.length_append, Kn] at this; omega
    have hkeep := Ye (pr := fun x => !pr x) hx
    rw [if_pos (by simp_all)] at hkeep; refine Jb (LS 2 [] rfl rfl (LR rfl (Ju (xs := QS x) (n := 2) rfl (Ja (k := 0) rfl) rfl rfl rfl) ?_)); refine LR rfl (Ki (j := ((xs.take j).filter fun x => !pr x).length) (m := 2) rfl rfl rfl rfl rfl (by omega) rfl) ?_; refine QT (k := 1) (n := 2) (vs := (QS x).toArray) (cs' := (((xs.take j).filter fun x => !pr x).flatMap QS ++ (QS x ++ (G2 ++ ((xs.drop (j + 1)).flatMap QS ++ sp)))).toArray) rfl rfl rfl rfl rfl rfl rfl (by simp only [List.size_toArray, List.length_append, KY Kn]; omega) (by apply Array.toList_inj.1; simp only [List.toList_toArray, Nat.zero_add]; rw [show G ++ (QS x ++ ((xs.drop (j + 1)).flatMap QS ++ sp)) = M ++ (G2 ++ ((xs.drop (j + 1)).flatMap QS ++ sp)) by rw [← List.append_assoc, hcut, List.append_assoc]]; exact Xq (KY Kn _) lM) rfl ?_; refine nK hK16 ?_; clear hK16 K16; refine Jb (LS 2 [] rfl rfl (Jy (by omega) (by omega) ?_)); refine Jj rfl (Jh ?_); refine Jk (hK12 ?_); clear hK12 K12; refine Jb (LS 2 [] rfl rfl (Jy (by omega) (by omega) ?_)); refine Jj rfl (Jh (JB ?_)); exact J6 (j + 1, G2) ⟨by simp only; omega, by simp only; rw [hkeep, List.length_append, List.length_singleton]; omega, by simp only; rw [hkeep, List.length_append, List.length_singleton]; omega⟩ (by simp only; omega) (.cons rfl (.cons rfl (.cons (by simp only [Vn]; rw [hkeep, List.length_append, List.length_singleton]; rfl) (.cons rfl .nil)))) (by simp only [hkeep, List.flatMap_append, List.flatMap_singleton, List.append_assoc]; exact List.sublist_cons_self _ _) (fun _ _ h => h)
    try simp only [ZZ] at h15
    refine Jg (Jk (hK12 ?_)); clear hK12 K12; refine Jb (LS 2 [] rfl rfl (Jy (by omega) (by omega) ?_)); refine Jj rfl (Jh (JB ?_))
    (have hdel := Ye (pr := fun x => !pr x) hx
     rw [if_neg (by simp_all), List.append_nil] at hdel
     exact J6 (j + 1, G ++ QS x) ⟨by simp only; omega, by simp only; rw [hdel]; omega, by simp only [List.length_append, Kn]; rw [hdel]; omega⟩ (by simp only; omega) (.cons rfl (.cons rfl (.cons (by simp only [Vn]; rw [hdel]; try rfl) (.cons rfl .nil)))) (by simp only [hdel, List.append_assoc]; exact List.sublist_cons_self _ _) (fun _ _ h => h))
    · try simp only [ZZ] at h11
      refine JL (Jn ?_); clear hK9 K9; refine Jn (J3 (hK7 ?_)); clear hK7 K7; refine sQ fun K17 hK17 => ?_
      have hjn : j = xs.length := by omega
      have hdrop : (xs.drop j).flatMap QS = [] := by rw [List.drop_of_length_le (by omega)]; rfl
      rw [hdrop, List.nil_append]; refine Jb (LS 2 [] rfl rfl ?_); refine LR rfl (JT (sz := 2) (m := ((xs.take j).filter fun x => !pr x).length) (kl := some ((xs.take j).filter fun x => !pr x).length) (kh := none) (km := none) (q := xs.length) (z := cap) (off' := ((xs.take j).filter fun x => !pr x).length * 2) rfl rfl rfl ⟨_, rfl⟩ trivial trivial rfl rfl rfl (by omega) (by omega) (by omega) (fun _ => rfl) (by rw [if_neg (by omega)]; omega)) ?_; refine Jh4 (k := 0) (sz := 2) rfl rfl rfl rfl rfl rfl rfl (by decide) (by simp only [List.size_toArray, List.length_append, KY Kn, List.length_drop]; omega) (Xq (P := ((xs.take j).filter fun x => !pr x).flatMap QS) (M := G) (S := sp) (KY Kn _) (by omega)) rfl ?_; refine nK hK17 ?_; clear hK17 K17; refine sR fun K18 hK18 => LS 2 [] rfl rfl ?_
      refine LR rfl (JT (sz := 2) (q := ((xs.take j).filter fun x => !pr x).length) (kl := none) (kh := some ((xs.take j).filter fun x => !pr x).length) (km := none) (m := 0) (z := cap) (off' := 0) rfl rfl rfl trivial ⟨_, rfl⟩ trivial rfl rfl rfl (by omega) (by omega) (by omega) (fun h => by cases h) (by split <;> omega)) ?_; refine Jj rfl (nK hK18 ?_); clear hK18 K18; refine Jc (pT rfl rfl rfl fun w1 hs1 => ?_)
      (have hfull : (xs.take j).filter (fun x => !pr x) = xs.filter fun x => !pr x := by rw [hjn, List.take_length]
       rw [hfull] at hs1 ⊢; refine ⟨⟨some (r, cap, _), KY Kn _, ?_⟩, rfl, hs1.weakL (by simp only [JX]; exact List.Sublist.refl _)⟩
       have hz : ∀ n, (Builtin.zeroCells (Value.agg #[Value.string ⟨#[]⟩, Value.string ⟨#[]⟩]).cells n).toList.length = n * 2 := fun n => by rw [Array.length_toList, size_zeroCells]; rfl
       rw [List.length_append, hz]
       have := List.length_filter_le (fun x => !pr x) xs
       omega)
theorem Jn3 {R : Jr} {a : AcL} (ha : a.In R) (k v : BS) : PureT (α := AcRes R (Ws a.er k v)) Tryz.prog 25 [a.val, J5 k, J5 v].toArray (fun x => x.val) [] (fun x => x.L) R := by
  have hlk := Je6 ha
  have hl := ha.len
  have hseg := ha.seg
  have hset : Ws a.er k v = if XS a.er ≠ 0 then (a.er, XS a.er) else if k.length ≠ 32 ∨ v.length ≠ 32 then (a.er, 2) else if (KR a.slots k v).length > 16 then (a.er, 5) else (⟨a.addr, a.nonce, a.bal, a.code, KR a.slots k v⟩, 0) := rfl
  refine JI Tryz.func25 rfl rfl fun w => ?_; refine sR fun _ hK1 => ?_; refine Jp (cs := #[_, _, _, _, _, _, _, _]) rfl rfl rfl rfl fun r1 => ?_; refine Jp (cs := #[_]) rfl rfl rfl rfl fun r2 => ?_; refine Js (cs := #[_, _, _, _, _, _, _, _]) rfl rfl rfl rfl fun r3 => ?_; refine Jj rfl (nK hK1 ?_); refine sQ fun _ hK2 => sR fun _ hK3 => ?_; refine LR rfl (J0 (vs := [_, _, _, _, _, _, _, _]) rfl (Ja (k := 2) rfl) rfl rfl rfl rfl) ?_; refine Ji rfl rfl rfl (enters_of Tryz.func37 (by kernel_rfl) rfl) hlk (fun q hq => Or.inr hq) ?_; refine Jj rfl (nK hK3 ?_); refine sR fun _ hK4 => LS 2 [] rfl rfl (nK hK4 ?_); refine Jd rfl (fun h5 => ?_) (fun h5 => ?_)
  try simp only [ZZ] at h5
  refine sR fun _ hK6 => LS 2 [2] rfl rfl ?_
  refine LT 0 rfl rfl (Jj rfl ?_); refine nK hK6 (Jc (Jf ?_)); refine Jx rfl rfl (.cons (JA (vs := [_, _, _, _, _, _, _, _]) rfl (Ja (k := 0) rfl) rfl rfl) (.cons (J4 rfl) .nil)) (fun w1 hs1 => ?_); rw [hset, if_pos (by omega)]; exact ⟨⟨a, XS a.er, [], ha, rfl⟩, rfl, hs1.weakL (List.nil_sublist _)⟩
  · try simp only [ZZ] at h5
    refine Jg (hK2 ?_); refine sQ fun _ hK7 => sR fun _ hK8 => ?_; refine LR rfl (Jm rfl (Ja (k := 1) rfl) rfl rfl) ?_; refine LR rfl (JY rfl rfl) ?_; refine LS 2 [] rfl rfl ?_
    refine JH 19 rfl (fun hb9 => ?_) (fun hb9 => ?_) <;> (try simp only [ZZ] at hb9) <;> first | (refine Jj rfl ?_) | (refine LK rfl ?_)
    all_goals first
      | (refine LR rfl (JY rfl rfl) ?_)
      | (refine LK rfl ?_)
    all_goals refine LW 2 [] rfl rfl ?_
    all_goals refine Jh ?_
    all_goals (
     refine hK8 ?_; refine Jd rfl (fun h12 => ?_) (fun h12 => ?_)
     try simp only [ZZ] at h12
     refine sR fun _ hK13 => ?_; refine LR rfl (J0 (vs := [_, _, _, _, _, _, _, _]) rfl (Ja (k := 2) rfl) rfl rfl rfl rfl) ?_
     refine LT 0 rfl rfl (Jj rfl ?_); refine nK hK13 (Jc (Jf ?_)); refine Jx rfl rfl (.cons (JA (vs := [_, _, _, _, _, _, _, _]) rfl (Ja (k := 0) rfl) rfl rfl) (.cons (J4 rfl) .nil)) (fun w1 hs1 => ?_); rw [hset, if_neg (by omega), if_pos (by omega)]; exact ⟨⟨a, 2, [], ha, rfl⟩, rfl, hs1.weakL (List.nil_sublist _)⟩
     · try exact Bool.noConfusion h12
       all_goals try simp only [ZZ] at h12
       all_goals (
        refine Jg (hK7 ?_); refine sQ fun _ hK14 => ?_
        have hok : KE Prod.fst a.slots ∧ a.slots.length ≤ 16 := ⟨(W1 (a := a.er) (by omega)).2.2.1, (W1 (a := a.er) (by omega)).2.2.2.2⟩
        have hinl : (QA Prod.fst (k, v) a.slots).length ≤ 17 := by
          have := hok.2
          rw [xt hok.1]
          split <;> omega
        refine Jb ?_
        refine LS 4 [2, 1] rfl rfl ?_; refine LR rfl (JJ (r := [_, _]) rfl rfl) ?_; refine Qn rfl rfl rfl (enters_of Tryz.func47 (by kernel_rfl) rfl) (Jrc (by have := hok.2; omega) hseg hok.1 (k, v)) (fun q hq => Or.inr hq) fun x => ?_
        obtain ⟨row, hrow⟩ := x
        refine KH List.perm_append_comm ?_; change HL _ _ ((30, JE (QA Prod.fst (k, v) a.slots).length row) :: _) ((r3, _) :: (r2, _) :: (r1, _) :: JX _ _ row) _ _ _ _; refine Jj rfl (nK hK14 ?_); refine sQ fun _ hK15 => sR fun _ hK16 => ?_; refine Jj rfl (JF rfl rfl rfl (enters_of Tryz.func42 (by kernel_rfl) rfl) Je5 (LR rfl (Vq rfl rfl) ?_)); refine nK hK16 ?_; refine Jd rfl (fun h17 => ?_) (fun h17 => ?_)
        try simp only [ZZ] at h17
        have hdC := Jn2 (R := [(r2, Obj.cells #[J5 k] 9 (0, 0))]) (caps := [.pointer (some ⟨r2, 0, none⟩)]) (pr := fun x => decide (x.1 = k)) (by omega) hrow (enters_of Tryz.func50 (by kernel_rfl) rfl) (fun x _ => Juc List.mem_cons_self x)
        rw [Jes, show jX Prod.fst k a.slots = KR a.slots k v from by unfold KR; rw [if_pos (by assumption)]] at hdC; refine Jb (Jj rfl (LR rfl (Kv rfl rfl) ?_)); refine Vh (T := JX _ _ row) (L0 := [(r3, _), (r2, _), (r1, _)]) (Rl := [(r2, Obj.cells #[J5 k] 9 (0, 0))]) (List.perm_append_comm (l₁ := [_, _, _])) rfl rfl rfl (enters_of Tryz.func49 (by kernel_rfl) rfl) hdC (fun q hq => Or.inl (by rw [List.mem_singleton.1 hq]; exact List.mem_cons_of_mem _ List.mem_cons_self)) fun x => ?_
        obtain ⟨row2, hrow2⟩ := x
        refine KH List.perm_append_comm ?_; change HL _ _ ((36, JE (KR a.slots k v).length row2) :: _) ((r3, _) :: (r2, _) :: (r1, _) :: JX _ _ row2) _ _ _ _; refine Jj rfl (nK hK15 ?_); refine sQ fun _ hK18 => sQ fun _ hK19 => ?_
        try rw [show QA Prod.fst (k, v) a.slots = KR a.slots k v from by unfold KR; rw [if_neg (by assumption)]] at hrow ⊢
        refine Jb (Jj rfl (LR rfl (Xk rfl hrow2.zero rfl) ?_)); refine JZ rfl (nK hK19 ?_); refine Jd rfl (fun h20 => ?_) (fun h20 => ?_)
        try simp only [ZZ] at h20
        refine sR fun _ hK21 => ?_; refine LR rfl (J0 (vs := [_, _, _, _, _, _, _, _]) rfl (Ja (k := 2) rfl) rfl rfl rfl rfl) ?_
        refine LT 0 rfl rfl (Jj rfl ?_); refine nK hK21 (Jc (Jf ?_)); refine Jx rfl rfl (.cons (JA (vs := [_, _, _, _, _, _, _, _]) rfl (Ja (k := 0) rfl) rfl rfl) (.cons (J4 rfl) .nil)) (fun w1 hs1 => ?_); rw [hset, if_neg (by omega), if_neg (by omega), if_pos (by omega)]; exact ⟨⟨a, 5, [], ha, rfl⟩, rfl, hs1.weakL (List.nil_sublist _)⟩
        try simp only [ZZ] at h20
        refine Jg (hK18 ?_); refine sR fun _ hK22 => Jj rfl ?_
        refine LS 1 [] rfl rfl ?_; refine Kz (k := 2) (cs' := #[J5 a.addr, uV a.nonce, uV a.bal.a, uV a.bal.b, uV a.bal.c, uV a.bal.d, J5 a.code, JE (KR a.slots k v).length row2]) rfl rfl rfl rfl rfl (YN _ _) rfl rfl rfl rfl ?_; refine nK hK22 (sR fun _ hK23 => ?_); refine LR rfl (J0 (vs := [_, _, _, _, _, _, _, _]) rfl (Ja (k := 2) rfl) rfl rfl rfl rfl) ?_; refine QT (k := 0) (n := 8) (cs' := #[J5 a.addr, uV a.nonce, uV a.bal.a, uV a.bal.b, uV a.bal.c, uV a.bal.d, J5 a.code, JE (KR a.slots k v).length row2]) (vs := #[_, _, _, _, _, _, _, _]) rfl rfl rfl rfl rfl rfl (by show (QQ (JE _ _) && true) = true; rw [YN]; rfl) (by exact Nat.le_of_ble_eq_true rfl) rfl rfl ?_; refine Jj rfl (nK hK23 ?_); refine Jc ?_; refine Jx rfl rfl (.cons (JA (vs := [_, _, _, _, _, _, _, _]) rfl (Ja (k := 0) rfl) rfl rfl) (.cons (J4 rfl) .nil)) (fun w1 hs1 => ?_)
        (rw [hset, if_neg (by omega), if_neg (by omega), if_neg (by omega)]
         exact ⟨⟨⟨a.addr, a.nonce, a.bal, a.code, KR a.slots k v, Vi row2⟩, 0, JX 59 ((KR a.slots k v).flatMap QS) row2, wj ha (by omega) (by omega) (by omega) (Qj hrow2 (by decide)), rfl⟩, by show Ending.returned _ = Ending.returned (Value.tuple #[Value.agg #[J5 a.addr, uV a.nonce, uV a.bal.a, uV a.bal.b, uV a.bal.c, uV a.bal.d, J5 a.code, KU (KR a.slots k v).length (Vi row2)], .int .i64 0]); rw [Wc _ _ hrow2.zero]; rfl, hs1.weakL (List.sublist_append_right [_, _, _] _)⟩)
        try simp only [ZZ] at h17
        refine Jg (hK15 ?_); refine sQ fun _ hK24 => sQ fun _ hK25 => ?_
        try rw [show QA Prod.fst (k, v) a.slots = KR a.slots k v from by unfold KR; rw [if_neg (by assumption)]] at hrow ⊢
        refine Jb (Jj rfl (LR rfl (Xk rfl hrow.zero rfl) ?_)); refine JZ rfl (nK hK25 ?_); refine Jd rfl (fun h26 => ?_) (fun h26 => ?_)
        try simp only [ZZ] at h26
        refine sR fun _ hK27 => ?_; refine LR rfl (J0 (vs := [_, _, _, _, _, _, _, _]) rfl (Ja (k := 2) rfl) rfl rfl rfl rfl) ?_
        refine LT 0 rfl rfl (Jj rfl ?_); refine nK hK27 (Jc (Jf ?_)); refine Jx rfl rfl (.cons (JA (vs := [_, _, _, _, _, _, _, _]) rfl (Ja (k := 0) rfl) rfl rfl) (.cons (J4 rfl) .nil)) (fun w1 hs1 => ?_); rw [hset, if_neg (by omega), if_neg (by omega), if_pos (by omega)]; exact ⟨⟨a, 5, [], ha, rfl⟩, rfl, hs1.weakL (List.nil_sublist _)⟩
        try simp only [ZZ] at h26
        refine Jg (hK24 ?_); refine sR fun _ hK28 => Jj rfl ?_
        refine LS 1 [] rfl rfl ?_; refine Kz (k := 2) (cs' := #[J5 a.addr, uV a.nonce, uV a.bal.a, uV a.bal.b, uV a.bal.c, uV a.bal.d, J5 a.code, JE (KR a.slots k v).length row]) rfl rfl rfl rfl rfl (YN _ _) rfl rfl rfl rfl ?_; refine nK hK28 (sR fun _ hK29 => ?_); refine LR rfl (J0 (vs := [_, _, _, _, _, _, _, _]) rfl (Ja (k := 2) rfl) rfl rfl rfl rfl) ?_; refine QT (k := 0) (n := 8) (cs' := #[J5 a.addr, uV a.nonce, uV a.bal.a, uV a.bal.b, uV a.bal.c, uV a.bal.d, J5 a.code, JE (KR a.slots k v).length row]) (vs := #[_, _, _, _, _, _, _, _]) rfl rfl rfl rfl rfl rfl (by show (QQ (JE _ _) && true) = true; rw [YN]; rfl) (by exact Nat.le_of_ble_eq_true rfl) rfl rfl ?_; refine Jj rfl (nK hK29 ?_); refine Jc ?_; refine Jx rfl rfl (.cons (JA (vs := [_, _, _, _, _, _, _, _]) rfl (Ja (k := 0) rfl) rfl rfl) (.cons (J4 rfl) .nil)) (fun w1 hs1 => ?_)
        (rw [hset, if_neg (by omega), if_neg (by omega), if_neg (by omega)]
         exact ⟨⟨⟨a.addr, a.nonce, a.bal, a.code, KR a.slots k v, Vi row⟩, 0, JX 59 ((KR a.slots k v).flatMap QS) row, wj ha (by omega) (by omega) (by omega) (Qj hrow (by decide)), rfl⟩, by show Ending.returned _ = Ending.returned (Value.tuple #[Value.agg #[J5 a.addr, uV a.nonce, uV a.bal.a, uV a.bal.b, uV a.bal.c, uV a.bal.d, J5 a.code, KU (KR a.slots k v).length (Vi row)], .int .i64 0]); rw [Wc _ _ hrow.zero]; rfl, hs1.weakL (List.sublist_append_right [_, _, _] _)⟩)
        skip)
     skip)
theorem Jv3 {R : Jr} {s : StL} {a : AcL} (hs : s.In R) (ha : a.In R) : PureT (α := StRes R (Jpx s.er a.er)) Tryz.prog 23 [s.val, a.val].toArray (fun x => x.val) [] (fun x => x.L) R := by
  have hc := Wx hs
  have hlk := Je6 ha
  have hl := hs.len
  have hseg := hs.seg
  have hput : Jpx s.er a.er = if Qm s.er ≠ 0 then (s.er, Qm s.er) else if XS a.er ≠ 0 then (s.er, XS a.er) else if (QA AcE.addr a.er s.er).length > 32 then (s.er, 5) else (QA AcE.addr a.er s.er, 0) := rfl
  have hil : (QA AcE.addr a.er s.er).length = (QA AcL.addr a s.accts).length := by unfold StL.er; rw [← Jet, List.length_map]
  rw [hil] at hput; refine JI Tryz.func23 rfl rfl fun w => ?_; refine sR fun _ hK1 => ?_; refine Jp (cs := #[_]) rfl rfl rfl rfl fun r1 => ?_; refine Jp (cs := #[_, _, _, _, _, _, _, _]) rfl rfl rfl rfl fun r2 => ?_; refine Js (cs := #[_]) rfl rfl rfl rfl fun r3 => ?_; refine Jj rfl (nK hK1 ?_); refine sQ fun _ hK2 => sR fun _ hK3 => ?_; refine LR rfl (J0 (vs := [_]) rfl (Ja (k := 2) rfl) rfl rfl rfl rfl) ?_; refine Ji rfl rfl rfl (enters_of Tryz.func19 (by kernel_rfl) rfl) hc (fun q hq => Or.inr hq) ?_; refine Jj rfl (nK hK3 ?_); refine sR fun _ hK4 => LS 2 [] rfl rfl (nK hK4 ?_); refine Jd rfl (fun h5 => ?_) (fun h5 => ?_)
  try simp only [ZZ] at h5
  refine sR fun _ hK6 => LS 2 [2] rfl rfl ?_
  refine LT 0 rfl rfl (Jj rfl ?_); refine nK hK6 (Jc (Jf ?_)); refine Jx rfl rfl (.cons (JA (vs := [_]) rfl (Ja (k := 0) rfl) rfl rfl) (.cons (J4 rfl) .nil)) (fun w1 hs1 => ?_); rw [hput, if_pos (by omega)]; exact ⟨⟨s, Qm s.er, [], hs, rfl⟩, rfl, hs1.weakL (List.nil_sublist _)⟩
  · try simp only [ZZ] at h5
    refine Jg (hK2 ?_); refine sQ fun _ hK7 => sR fun _ hK8 => ?_; refine LR rfl (J0 (vs := [_, _, _, _, _, _, _, _]) rfl (Ja (k := 1) rfl) rfl rfl rfl rfl) ?_; refine Ji rfl rfl rfl (enters_of Tryz.func37 (by kernel_rfl) rfl) hlk (fun q hq => Or.inr hq) ?_; refine Jj rfl (nK hK8 ?_); refine sR fun _ hK9 => LS 2 [] rfl rfl (nK hK9 ?_); refine Jd rfl (fun h10 => ?_) (fun h10 => ?_)
    try simp only [ZZ] at h10
    refine sR fun _ hK11 => LS 2 [2] rfl rfl ?_
    refine LT 0 rfl rfl (Jj rfl ?_); refine nK hK11 (Jc (Jf ?_)); refine Jx rfl rfl (.cons (JA (vs := [_]) rfl (Ja (k := 0) rfl) rfl rfl) (.cons (J4 rfl) .nil)) (fun w1 hs1 => ?_); rw [hput, if_neg (by omega), if_pos (by omega)]; exact ⟨⟨s, XS a.er, [], hs, rfl⟩, rfl, hs1.weakL (List.nil_sublist _)⟩
    · try simp only [ZZ] at h10
      refine Jg (hK7 ?_); refine sQ fun _ hK12 => ?_
      have hok : s.accts.length ≤ 32 ∧ KE AcL.addr s.accts := by
        have h := xu.1 (show Qm s.er = 0 by omega)
        rw [s.er_len] at h; exact ⟨h.1, (Jic s).2 h.2.2⟩
      refine Jb ?_
      refine LS 3 [2, 1] rfl rfl ?_; refine Qn rfl rfl rfl (enters_of Tryz.func46 (by kernel_rfl) rfl) (Jrb (by omega) hseg hok.2 a) (fun q hq => Or.inr hq) fun x => ?_
      obtain ⟨row, hrow⟩ := x
      refine KH List.perm_append_comm ?_; change HL _ _ ((24, JE (QA AcL.addr a s.accts).length row) :: _) ((r3, _) :: (r2, _) :: (r1, _) :: JX _ _ row) _ _ _ _; refine Jj rfl (nK hK12 ?_); refine sQ fun _ hK13 => sR fun _ hK14 => ?_; refine Jj rfl (LR rfl (Xk rfl hrow.zero rfl) (JZ rfl ?_)); refine nK hK14 ?_; refine Jd rfl (fun h15 => ?_) (fun h15 => ?_)
      try simp only [ZZ] at h15
      refine sR fun _ hK16 => ?_; refine LR rfl (J0 (vs := [_]) rfl (Ja (k := 2) rfl) rfl rfl rfl rfl) ?_
      refine LT 0 rfl rfl (Jj rfl ?_); refine nK hK16 (Jc (Jf ?_)); refine Jx rfl rfl (.cons (JA (vs := [_]) rfl (Ja (k := 0) rfl) rfl rfl) (.cons (J4 rfl) .nil)) (fun w1 hs1 => ?_); rw [hput, if_neg (by omega), if_neg (by omega), if_pos (by omega)]; exact ⟨⟨s, 5, [], hs, rfl⟩, rfl, hs1.weakL (List.nil_sublist _)⟩
      · try simp only [ZZ] at h15
        refine Jg (hK13 ?_); refine sR fun _ hK17 => Jj rfl ?_
        refine LR rfl (JJ (r := [JE _ row]) rfl (by cases row <;> rfl)) ?_; refine QT (k := 0) (n := 1) (cs' := #[JE (QA AcL.addr a s.accts).length row]) (vs := #[_]) rfl rfl rfl rfl rfl rfl (by show (QQ (JE _ _) && true) = true; rw [YN]; rfl) (by exact Nat.le_of_ble_eq_true rfl) rfl rfl ?_; refine Jj rfl (nK hK17 ?_); refine Jc ?_; refine Jx rfl rfl (.cons (JA (vs := [_]) rfl (Ja (k := 0) rfl) rfl rfl) (.cons (J4 rfl) .nil)) (fun w1 hs1 => ?_)
        (rw [hput, if_neg (by omega), if_neg (by omega), if_neg (by omega)]
         exact ⟨⟨⟨QA AcL.addr a s.accts, Vi row⟩, 0, JX 34 ((QA AcL.addr a s.accts).flatMap AcL.cells) row, ⟨by show (QA AcL.addr a s.accts).length ≤ 9223372036854775807; omega, (Qj hrow (by decide)).mono fun q hq => List.mem_append_left _ hq, fun x hx => ((ve hx).elim (fun e => by rw [e]; exact ha) (hs.accts x)).mono fun q hq => List.mem_append_right _ hq⟩, by unfold StL.er; rw [Jet]⟩, by show Ending.returned _ = Ending.returned (Value.tuple #[Value.agg #[KU (QA AcL.addr a s.accts).length (Vi row)], .int .i64 0]); rw [Wc _ _ hrow.zero]; rfl, hs1.weakL (List.sublist_append_right [_, _, _] _)⟩)
theorem Jn4 {R : Jr} {xs ys : List (BS × BS)} {p q : Pl} (hl : xs.length ≤ 9223372036854775807) (hl2 : ys.length ≤ 9223372036854775807) (hs : Seg R xs.length (xs.flatMap QS) p) (hs' : Seg R ys.length (ys.flatMap QS) q) :
    PureR Tryz.prog 44 [KU xs.length p, KU ys.length q].toArray (.bool (decide (xs = ys))) R := by
  refine Je Tryz.func44 rfl rfl fun w => ?_; refine sR fun K1 hK1 => Jj rfl (nK hK1 ?_); clear hK1 K1; refine sQ fun K2 hK2 => sR fun K3 hK3 => ?_; refine Jj rfl (LR rfl (J7 rfl hs rfl) ?_); refine Jj rfl (LR rfl (J7 rfl hs' rfl) (JZ rfl ?_)); refine nK hK3 ?_; clear hK3 K3; refine Jd rfl (fun h4 => ?_) (fun h4 => ?_)
  try simp only [ZZ] at h4
  refine sR fun K5 hK5 => Jj rfl (nK hK5 ?_); clear hK5 K5; refine Jc (Jf ?_); clear hK2 K2; refine pT rfl rfl rfl fun w1 hs1 => ?_; refine ⟨?_, hs1.keep⟩; rw [decide_eq_false (show ¬ xs = ys from fun e => by have := congrArg List.length e; omega)]; rfl
  · try simp only [ZZ] at h4
    refine Jg (hK2 ?_); clear hK2 K2; refine sQ fun K6 hK6 => sR fun K7 hK7 => ?_; refine Jj rfl (LR rfl (J7 rfl hs rfl) (Jj rfl ?_)); refine nK hK7 ?_; clear hK7 K7; refine Jv ?_
    have hll : xs.length = ys.length := by omega
    refine JN (σ := Nat) (fun i => i ≤ xs.length ∧ ∀ j, j < i → xs[j]? = ys[j]?) (fun i => [(0, KU xs.length p), (1, KU ys.length q), (12, .int .i64 (xs.length : Int)), (13, .int .i64 (i : Int))]) (fun _ => []) (fun _ _ _ => True) (fun i => xs.length - i) 0 ⟨by omega, fun j hj => absurd hj (by omega)⟩ (.cons rfl (.cons rfl (.cons rfl (.cons rfl .nil)))) (List.nil_sublist _) (fun _ _ h => h) ?_; rintro i ⟨hi1, hinv⟩; refine sR fun K8 hK8 => JZ rfl (nK hK8 ?_); clear hK8 K8; refine sQ fun K9 hK9 => ?_; refine Jd rfl (fun h10 => ?_) (fun h10 => ?_)
    try simp only [ZZ] at h10
    refine Jg (hK9 ?_); clear hK9 K9; refine sB fun K11 hK11 => sR fun K12 hK12 => ?_; refine LS 2 [] rfl rfl (nK hK12 ?_); clear hK12 K12; refine sQ fun K13 hK13 => ?_
    obtain ⟨x, hx, hmx⟩ := Vo (show i < xs.length by omega)
    obtain ⟨y, hy, hmy⟩ := Vo (show i < ys.length by omega)
    refine Kc 9 (by kernel_rfl) (by kernel_rfl) ?_; refine Jl rfl rfl rfl (Jo rfl) ?_; refine Jl rfl rfl rfl (Jo rfl) ?_
    refine Jl rfl rfl rfl (Jw (j := i) rfl hs rfl rfl rfl (by first | rfl | omega) (by omega)) ?_; refine Jl rfl rfl rfl (KS Kn (fun q hq => Or.inr hq) rfl hs hx rfl rfl) ?_; refine Jl rfl rfl rfl (Jo rfl) ?_; refine Jl rfl rfl rfl (Jo rfl) ?_
    refine Jl rfl rfl rfl (Jw (j := i) rfl hs' rfl rfl rfl (by first | rfl | omega) (by omega)) ?_; refine Jl rfl rfl rfl (KS Kn (fun q hq => Or.inr hq) rfl hs' hy rfl rfl) ?_; refine Jl rfl rfl rfl (Jge rfl rfl rfl (by kernel_rfl) (by kernel_rfl) (.scal (by decide) rfl rfl rfl rfl rfl (.scal (by decide) rfl rfl rfl rfl rfl .nil))) ?_; refine Qh (congrArg (fun b => Value.bool (!b)) (Jgg x y)) ?_; refine Kw ?_; refine nK hK13 ?_; clear hK13 K13; refine Jd rfl (fun h14 => ?_) (fun h14 => ?_)
    try simp only [ZZ] at h14
    refine sR fun K15 hK15 => Jj rfl (nK hK15 ?_); clear hK15 K15; refine Jc (Jq (Jf ?_)); clear hK11 K11; refine Jf (Jq (Jf ?_)); clear hK6 K6; refine pT rfl rfl rfl fun w1 hs1 => ?_; refine ⟨?_, hs1.keep⟩; rw [decide_eq_false (Jlt hx hy (by simp_all))]; rfl
    try simp only [ZZ] at h14
    refine Jg (Jk (hK11 ?_)); clear hK11 K11; refine Jb (JZ rfl (Jy (by omega) (by omega) ?_)); refine Jj rfl (Jh (JB ?_))
    exact J6 (i + 1) ⟨by omega, fun j hj => by
      rcases Nat.lt_succ_iff_lt_or_eq.1 hj with hj | rfl
      exact hinv j hj
      rw [hx, hy]; simp_all⟩ (by omega) (.cons rfl (.cons rfl (.cons rfl (.cons rfl .nil)))) (List.nil_sublist _) (fun _ _ h => h)
    · try simp only [ZZ] at h10
      refine JL (Jn ?_); clear hK9 K9; refine Jn (J3 (hK6 ?_)); clear hK6 K6; refine sR fun K16 hK16 => Jj rfl (nK hK16 ?_); clear hK16 K16; refine Jc (pT rfl rfl rfl fun w1 hs1 => ?_); refine ⟨?_, hs1.keep⟩; rw [decide_eq_true (Jls hll (by omega) hinv)]; rfl
theorem Jrh (a b : AcL) : a.er = b.er ↔ a.addr = b.addr ∧ a.nonce = b.nonce ∧ a.bal = b.bal ∧ a.code = b.code ∧ a.slots = b.slots := by
  unfold AcL.er
  simp
theorem Jri {R : Jr} {a b : AcL} (ha : a.In R) (hb : b.In R) : PureR Tryz.prog 43 [vA a, vA b].toArray (.bool (decide (a.er = b.er))) R := by
  have heq := Jn4 ha.len hb.len ha.seg hb.seg
  have hE : decide (a.er = b.er) = (decide (a.addr = b.addr) && (decide (a.nonce = b.nonce) && (decide (a.bal = b.bal) && (decide (a.code = b.code) && decide (a.slots = b.slots))))) := by
    rw [Bool.eq_iff_iff]; simp only [decide_eq_true_eq, Bool.and_eq_true]; exact Jrh a b
  rw [hE]; refine Je Tryz.func43 rfl rfl fun w => ?_; refine sR fun K1 hK1 => ?_; refine Jp (cs := #[_, _, _, _, _, _, _, _]) rfl rfl rfl rfl fun r1 => ?_; refine Jp (cs := #[_, _, _, _, _, _, _, _]) rfl rfl rfl rfl fun r2 => ?_; refine Jj rfl (nK hK1 ?_); clear hK1 K1; refine sR fun K2 hK2 => LS 2 [1] rfl rfl ?_
  refine LS 2 [0] rfl rfl ?_; refine LR rfl (Vq rfl rfl) ?_; refine Jj rfl ?_
  refine JH 10 rfl (fun hb3 => ?_) (fun hb3 => ?_) <;> (try simp only [ZZ] at hb3) <;> first | (refine LR rfl (JP rfl rfl rfl) ?_) | (refine LK rfl ?_)
  all_goals refine LW 1 [1] rfl rfl ?_
  all_goals first
    | (refine LR rfl (JP rfl rfl rfl) ?_)
    | (refine LK rfl ?_)
  all_goals refine LW 2 [0] rfl rfl ?_
  all_goals first | (refine J1 (congrArg Value.bool (eqU a.nonce b.nonce)) ?_) | skip
  all_goals refine LW 2 [] rfl rfl ?_
  all_goals first
    | (refine LK rfl ?_)
    | (refine JH 17 rfl (fun hb8 => ?_) (fun hb8 => ?_) <;> (try simp only [ZZ] at hb8) <;> first | (refine LR rfl (JP rfl rfl rfl) ?_) | (refine LK rfl ?_))
  all_goals refine LW 1 [1] rfl rfl ?_
  all_goals first
    | (refine LR rfl (JP rfl rfl rfl) ?_)
    | (refine LK rfl ?_)
  all_goals refine LW 1 [0] rfl rfl ?_
  all_goals first
    | (refine LR rfl (qS rfl rfl rfl rfl rfl (by kernel_rfl) rfl rfl rfl rfl) ?_)
    | (refine LK rfl ?_)
  all_goals first | (refine J1 (congrArg Value.bool (eqW a.bal b.bal)) ?_) | skip
  all_goals refine LW 2 [] rfl rfl ?_
  all_goals first
    | (refine LK rfl ?_)
    | (refine JH 24 rfl (fun hb13 => ?_) (fun hb13 => ?_) <;> (try simp only [ZZ] at hb13) <;> first | (refine LR rfl (JP rfl rfl rfl) ?_) | (refine LK rfl ?_))
  all_goals refine LW 1 [1] rfl rfl ?_
  all_goals first
    | (refine LR rfl (JP rfl rfl rfl) ?_)
    | (refine LK rfl ?_)
  all_goals refine LW 1 [0] rfl rfl ?_
  all_goals first
    | (refine LR rfl (Vq rfl rfl) ?_)
    | (refine LK rfl ?_)
  all_goals refine LW 2 [] rfl rfl ?_
  all_goals first
    | (refine LK rfl ?_)
    | (refine JH 31 rfl (fun hb18 => ?_) (fun hb18 => ?_) <;> (try simp only [ZZ] at hb18) <;> first | (refine LR rfl (JP rfl rfl rfl) ?_) | (refine LK rfl ?_))
  all_goals refine LW 1 [1] rfl rfl ?_
  all_goals first
    | (refine LR rfl (JP rfl rfl rfl) ?_)
    | (refine LK rfl ?_)
  all_goals refine LW 1 [0] rfl rfl ?_
  all_goals first
    | (refine Ji rfl rfl rfl (enters_of Tryz.func44 (by kernel_rfl) rfl) heq (fun q hq => Or.inr hq) ?_)
    | (refine LK rfl ?_)
  all_goals refine LW 2 [] rfl rfl ?_
  all_goals refine Jh ?_
  all_goals (
   refine hK2 ?_; clear hK2 K2; refine Jc (pT rfl rfl rfl fun w1 hs1 => ?_); refine ⟨?_, hs1.keep⟩
   simp_all [JS]
   skip)
theorem qn {s t : StL} : s.er = t.er ↔ s.accts.length = t.accts.length ∧ ∀ (i : Nat) a b, s.accts[i]? = some a → t.accts[i]? = some b → a.er = b.er := by
  constructor
  · intro h
    refine ⟨by have := congrArg List.length h; rwa [s.er_len, t.er_len] at this, fun i a b ha hb => ?_⟩
    have h1 := qa ha
    have h2 := qa hb
    rw [h, h2] at h1; exact (Option.some.inj h1).symm
  · rintro ⟨h1, h2⟩
    apply List.ext_getElem?
    intro i
    by_cases hi : i < s.accts.length
    · obtain ⟨a, ha, _⟩ := Vo hi
      obtain ⟨b, hb, _⟩ := Vo (show i < t.accts.length by omega)
      rw [qa ha, qa hb, h2 i a b ha hb]
    · rw [List.getElem?_eq_none (by rw [s.er_len]; omega), List.getElem?_eq_none (by rw [t.er_len]; omega)]
theorem Jn5 {R : Jr} {s t : StL} (hs : s.In R) (ht : t.In R) :
    PureR Tryz.prog 45 [KU s.accts.length s.p, KU t.accts.length t.p, fV 43].toArray (.bool (decide (s.er = t.er))) R := by
  have hl : s.accts.length ≤ 9223372036854775807 := hs.len
  have hl2 : t.accts.length ≤ 9223372036854775807 := ht.len
  have h1 := hs.seg
  have h2 := ht.seg
  refine Je Tryz.func45 rfl rfl fun w => ?_; refine sR fun K1 hK1 => Jj rfl (nK hK1 ?_); clear hK1 K1; refine sQ fun K2 hK2 => sR fun K3 hK3 => ?_; refine Jj rfl (LR rfl (J7 rfl h1 rfl) ?_); refine Jj rfl (LR rfl (J7 rfl h2 rfl) (JZ rfl ?_)); refine nK hK3 ?_; clear hK3 K3; refine Jd rfl (fun h4 => ?_) (fun h4 => ?_)
  try simp only [ZZ] at h4
  refine sR fun K5 hK5 => Jj rfl (nK hK5 ?_); clear hK5 K5; refine Jc (Jf ?_); clear hK2 K2; refine pT rfl rfl rfl fun w1 hs1 => ?_; refine ⟨?_, hs1.keep⟩; rw [decide_eq_false (show ¬ s.er = t.er from fun e => by have := (qn.1 e).1; omega)]; rfl
  · try simp only [ZZ] at h4
    refine Jg (hK2 ?_); clear hK2 K2; refine sQ fun K6 hK6 => sR fun K7 hK7 => ?_; refine Jj rfl (LR rfl (J7 rfl h1 rfl) (Jj rfl ?_)); refine nK hK7 ?_; clear hK7 K7; refine Jv ?_
    have hll : s.accts.length = t.accts.length := by omega
    refine JN (σ := Nat) (fun i => i ≤ s.accts.length ∧ ∀ q, q < i → ∀ a b, s.accts[q]? = some a → t.accts[q]? = some b → a.er = b.er) (fun i => [(1, KU t.accts.length t.p), (2, fV 43), (15, KU s.accts.length s.p), (16, .int .i64 (s.accts.length : Int)), (17, .int .i64 (i : Int))]) (fun _ => []) (fun _ _ _ => True) (fun i => s.accts.length - i) 0 ⟨by omega, fun j hj => absurd hj (by omega)⟩ (.cons rfl (.cons rfl (.cons rfl (.cons rfl (.cons rfl .nil))))) (List.nil_sublist _) (fun _ _ h => h) ?_; rintro i ⟨hi1, hinv⟩; refine sR fun K8 hK8 => JZ rfl (nK hK8 ?_); clear hK8 K8; refine sQ fun K9 hK9 => ?_; refine Jd rfl (fun h10 => ?_) (fun h10 => ?_)
    try simp only [ZZ] at h10
    refine Jg (hK9 ?_); clear hK9 K9; refine sB fun K11 hK11 => sQ fun K12 hK12 => ?_
    obtain ⟨x, hx, hmx⟩ := Vo (show i < s.accts.length by omega)
    obtain ⟨y, hy, hmy⟩ := Vo (show i < t.accts.length by omega)
    refine Jb (Jj rfl ?_)
    refine LR rfl (Jw (j := i) rfl h1 rfl rfl rfl (by first | rfl | omega) (by omega)) ?_; refine LR rfl (KS AcL.len (fun q hq => Or.inr hq) rfl h1 hx rfl rfl) ?_; refine Js (cs := #[_, _, _, _, _, _, _, _]) rfl rfl rfl rfl fun r1 => ?_; refine Jj rfl (J2 (k := 0) (n := 8) (ys := x.cells) rfl rfl rfl rfl rfl x.len rfl x.one rfl ?_); refine nK hK12 ?_; clear hK12 K12; refine sR fun K13 hK13 => LS 2 [] rfl rfl ?_
    refine LR rfl (Jw (j := i) rfl h2 rfl rfl rfl (by first | rfl | omega) (by omega)) ?_; refine LR rfl (KS AcL.len (fun q hq => Or.inr hq) rfl h2 hy rfl rfl) ?_; refine Js (cs := #[_, _, _, _, _, _, _, _]) rfl rfl rfl rfl fun r2 => ?_; refine J2 (k := 0) (n := 8) (ys := y.cells) rfl rfl rfl rfl rfl y.len rfl y.one rfl ?_; refine nK hK13 ?_; clear hK13 K13; refine sR fun K14 hK14 => ?_; refine Jj rfl (LR rfl (Ju (xs := x.cells) (n := 8) rfl (Ja (k := 1) rfl) rfl rfl x.len) (LR rfl (Ju (xs := y.cells) (n := 8) rfl (Ja (k := 0) rfl) rfl rfl y.len) ?_)); refine Ji rfl rfl rfl (enters_of Tryz.func43 (by kernel_rfl) rfl) (Jri (hs.accts x hmx) (ht.accts y hmy)) (fun q hq => Or.inr hq) ?_; refine JZ rfl (nK hK14 ?_); clear hK14 K14; refine Jd rfl (fun h15 => ?_) (fun h15 => ?_)
    try simp only [ZZ] at h15
    refine sR fun K16 hK16 => Jj rfl (nK hK16 ?_); clear hK16 K16; refine Jc (Jq (Jf ?_)); clear hK11 K11; refine Jf (Jq (Jf ?_)); clear hK6 K6; refine pT rfl rfl rfl fun w1 hs1 => ?_; refine ⟨?_, hs1.keep⟩; rw [decide_eq_false (show ¬ s.er = t.er from fun e => by have := (qn.1 e).2 i x y hx hy; simp_all)]; rfl
    try simp only [ZZ] at h15
    refine Jg (Jk (hK11 ?_)); clear hK11 K11; refine Jb (JZ rfl (Jy (by omega) (by omega) ?_)); refine Jj rfl (Jh (JB ?_))
    exact J6 (i + 1) ⟨by omega, fun q hq u v hu hv => by
      rcases Nat.lt_succ_iff_lt_or_eq.1 hq with hq | rfl
      exact hinv q hq u v hu hv
      rw [hx] at hu; rw [hy] at hv; cases hu; cases hv; simp_all⟩ (by omega) (.cons rfl (.cons rfl (.cons rfl (.cons rfl (.cons rfl .nil))))) (List.nil_sublist _) (fun _ _ h => h)
    · try simp only [ZZ] at h10
      refine JL (Jn ?_); clear hK9 K9; refine Jn (J3 (hK6 ?_)); clear hK6 K6; refine sR fun K17 hK17 => Jj rfl (nK hK17 ?_); clear hK17 K17; refine Jc (pT rfl rfl rfl fun w1 hs1 => ?_); refine ⟨?_, hs1.keep⟩; rw [decide_eq_true (qn.2 ⟨hll, fun q a b ha hb => hinv q (by have := (List.getElem?_eq_some_iff.1 ha).1; omega) a b ha hb⟩)]; rfl
theorem Jn6 {R : Jr} {s t : StL} (hs : s.In R) (ht : t.In R) : PureR Tryz.prog 21 [s.val, t.val].toArray (.bool (decide (s.er = t.er))) R := by
  have h := Jn5 hs ht
  refine Je Tryz.func21 rfl rfl fun w => ?_; refine sR fun _ hK1 => ?_; refine Jp (cs := #[_]) rfl rfl rfl rfl fun r1 => ?_; refine Jp (cs := #[_]) rfl rfl rfl rfl fun r2 => ?_; refine Jj rfl (nK hK1 ?_); refine sR fun _ hK2 => Jj rfl (nK hK2 ?_); refine sR fun _ hK3 => LS 2 [1] rfl rfl ?_
  refine LS 3 [0] rfl rfl ?_; refine Ji rfl rfl rfl (enters_of Tryz.func45 (by kernel_rfl) rfl) h (fun q hq => Or.inr hq) ?_; refine Jj rfl (nK hK3 ?_); refine Jc (pT rfl rfl rfl fun w1 hs1 => ?_); exact ⟨rfl, hs1.keep⟩
def Jaf (a : AcE) : Bool := !((decide (100 < a.addr.length) || (decide (60 < a.code.length) && decide (a.code.length ≤ 512))) || decide (20 < a.slots.length)) && a.slots.all fun x => !(decide (100 < x.1.length) || decide (100 < x.2.length))
theorem Jrj {a : AcE} {i : Nat} {x : BS × BS} (hx : a.slots[i]? = some x) (h : x.1.length > 100 ∨ x.2.length > 100) : Jaf a = false := by
  unfold Jaf
  have : (a.slots.all fun x => !(decide (100 < x.1.length) || decide (100 < x.2.length))) = false := by
    rw [List.all_eq_false]
    exact ⟨x, List.mem_of_getElem? hx, by rcases h with h | h <;> simp [h]⟩
  rw [this, Bool.and_false]
theorem Jrk {a : AcE} (h : Jaf a = true) : a.slots.length ≤ 20 := by
  unfold Jaf at h
  simp only [Bool.and_eq_true, Bool.not_eq_true', Bool.or_eq_false_iff, decide_eq_false_iff_not] at h; omega
theorem Ji9 {R : Jr} {a : AcL} (ha : a.In R) : PureR Tryz.prog 22 [a.val].toArray (.bool (Jaf a.er)) R := by
  have hl := ha.len
  have hseg := ha.seg
  obtain ⟨res, hres⟩ : ∃ b, b = Jaf a.er := ⟨_, rfl⟩
  rw [← hres]
  have h1 : (100 < (a.addr.length : Int) ∨ (60 < (a.code.length : Int) ∧ (a.code.length : Int) ≤ 512) ∨ 20 < (a.slots.length : Int)) → res = false := fun h => by
    rw [hres]; unfold Jaf
    have : ((decide (100 < a.addr.length) || (decide (60 < a.code.length) && decide (a.code.length ≤ 512))) || decide (20 < a.slots.length)) = true := by
      simp only [Bool.or_eq_true, Bool.and_eq_true, decide_eq_true_eq]; omega
    show (!((decide (100 < a.addr.length) || (decide (60 < a.code.length) && decide (a.code.length ≤ 512))) || decide (20 < a.slots.length)) && _) = false
    rw [this]; rfl
  have h2 : ¬ (100 < (a.addr.length : Int) ∨ (60 < (a.code.length : Int) ∧ (a.code.length : Int) ≤ 512) ∨ 20 < (a.slots.length : Int)) → (∀ (j : Nat) (x : BS × BS), a.slots[j]? = some x → x.1.length ≤ 100 ∧ x.2.length ≤ 100) → res = true := fun h h' => by
    rw [hres]; unfold Jaf
    have e : ((decide (100 < a.addr.length) || (decide (60 < a.code.length) && decide (a.code.length ≤ 512))) || decide (20 < a.slots.length)) = false := by
      simp only [Bool.or_eq_false_iff, Bool.and_eq_false_iff, decide_eq_false_iff_not]; omega
    show (!((decide (100 < a.addr.length) || (decide (60 < a.code.length) && decide (a.code.length ≤ 512))) || decide (20 < a.slots.length)) && _) = true
    rw [e]; simp only [Bool.not_false, Bool.true_and, List.all_eq_true]; intro x hx
    obtain ⟨j, hj⟩ := List.getElem?_of_mem hx
    obtain ⟨g1, g2⟩ := h' j x hj
    simp; omega
  refine Je Tryz.func22 rfl rfl fun w => ?_; refine sR fun K1 hK1 => ?_; refine Jp (cs := a.cells.toArray) rfl rfl rfl rfl fun r1 => ?_; refine Jj rfl (nK hK1 ?_); clear hK1 K1; refine sQ fun K2 hK2 => sR fun K3 hK3 => ?_
  refine LS 2 [0] rfl rfl ?_; refine LR rfl (JY rfl rfl) ?_; refine LS 2 [] rfl rfl ?_
  refine JH 8 rfl (fun hb4 => ?_) (fun hb4 => ?_) <;> (try simp only [ZZ] at hb4) <;> first | (refine LR rfl (JP rfl rfl rfl) ?_) | (refine LK rfl ?_)
  all_goals refine LW 1 [0] rfl rfl ?_
  all_goals first
    | (refine LR rfl (JY rfl rfl) ?_)
    | (refine LK rfl ?_)
  all_goals refine LW 2 [] rfl rfl ?_
  all_goals first
    | (refine LK rfl ?_)
    | (refine JH 13 rfl (fun hb9 => ?_) (fun hb9 => ?_) <;> (try simp only [ZZ] at hb9) <;> first | (refine LR rfl (JP rfl rfl rfl) ?_) | (refine LK rfl ?_))
  all_goals refine LW 1 [0] rfl rfl ?_
  all_goals first
    | (refine LR rfl (JY rfl rfl) ?_)
    | (refine LK rfl ?_)
  all_goals refine LW 4 [] rfl rfl ?_
  all_goals first
    | (refine LR rfl (JP rfl rfl rfl) ?_)
    | (refine LK rfl ?_)
    | (refine JH 20 rfl (fun hb14 => ?_) (fun hb14 => ?_) <;> (try simp only [ZZ] at hb14) <;> first | (refine LR rfl (JP rfl rfl rfl) ?_) | (refine LK rfl ?_))
  all_goals refine LW 1 [0] rfl rfl ?_
  all_goals first
    | (refine LR rfl (J7 rfl hseg rfl) ?_)
    | (refine LK rfl ?_)
  all_goals refine LW 2 [] rfl rfl ?_
  all_goals refine Jh ?_
  all_goals (
   refine hK3 ?_; clear hK3 K3; refine Jd rfl (fun h18 => ?_) (fun h18 => ?_)
   try simp only [ZZ] at h18
   refine sR fun K19 hK19 => Jj rfl (nK hK19 ?_); clear hK19 K19; refine Jc (Jf ?_); clear hK2 K2; refine pT rfl rfl rfl fun w1 hs1 => ?_; rw [h1 (by omega)]; exact ⟨rfl, hs1.keep⟩
   · try exact Bool.noConfusion h18
     all_goals try simp only [ZZ] at h18
     all_goals (
      refine Jg (hK2 ?_); clear hK2 K2; refine sQ fun K20 hK20 => sR fun K21 hK21 => ?_; refine Jj rfl (nK hK21 ?_); clear hK21 K21; refine Jv ?_
      have h0 : ¬ (100 < (a.addr.length : Int) ∨ (60 < (a.code.length : Int) ∧ (a.code.length : Int) ≤ 512) ∨ 20 < (a.slots.length : Int)) := by
        simp_all
        all_goals first | done | omega | trace_state
      refine JN (σ := Nat) (fun i => i ≤ a.slots.length ∧ ∀ (j : Nat) (x : BS × BS), j < i → a.slots[j]? = some x → x.1.length ≤ 100 ∧ x.2.length ≤ 100) (fun i => [(1, .pointer (some ⟨r1, 0, none⟩)), (3, .int .i64 (i : Int))]) (fun _ => [(r1, .cells a.cells.toArray 34 (0, 0))]) (fun _ _ _ => True) (fun i => a.slots.length - i) 0 ⟨Nat.zero_le _, fun _ _ h => absurd h (Nat.not_lt_zero _)⟩ (.cons rfl (.cons rfl .nil)) (List.Sublist.refl _) (fun _ _ h => h) ?_; rintro i ⟨hi1, hinv⟩; refine sQ fun K22 hK22 => sR fun K23 hK23 => ?_; refine Jj rfl ?_
      refine LS 2 [0] rfl rfl ?_; refine LR rfl (J7 rfl hseg rfl) ?_; refine JZ rfl (nK hK23 ?_); clear hK23 K23; refine Jd rfl (fun h24 => ?_) (fun h24 => ?_)
      · try simp only [ZZ] at h24
        refine Jg (hK22 ?_); clear hK22 K22; refine sB fun K25 hK25 => sQ fun K26 hK26 => ?_
        obtain ⟨x, hx, hmx⟩ := Vo (show i < a.slots.length by omega)
        have hxl := ha.slots x hmx
        refine Jb (LS 3 [0] rfl rfl ?_)
        refine LR rfl (Jw (j := i) rfl hseg rfl rfl rfl (by first | rfl | omega) (by omega)) ?_; refine LR rfl (KG (off' := wZ a.p + (i * 2 + 0)) rfl rfl (by show wZ a.p + i * 2 + 0 = _; omega)) ?_; refine LR rfl (wb Kn (k := 0) (v := J5 x.1) (fun q hq => Or.inr hq) rfl hseg hx rfl rfl) ?_; refine LR rfl (JY rfl rfl) ?_; refine LS 2 [] rfl rfl ?_
        refine JH 41 rfl (fun hb27 => ?_) (fun hb27 => ?_) <;> (try simp only [ZZ] at hb27) <;> first | (refine LR rfl (JP rfl rfl rfl) ?_) | (refine LK rfl ?_)
        all_goals refine LW 2 [0] rfl rfl ?_
        all_goals first
          | (refine LR rfl (Jw (j := i) rfl hseg rfl rfl rfl (by first | rfl | omega) (by omega)) ?_)
          | (refine LK rfl ?_)
        all_goals first
          | (refine LR rfl (KG (off' := wZ a.p + (i * 2 + 1)) rfl rfl (by show wZ a.p + i * 2 + 1 = _; omega)) ?_)
          | (refine LK rfl ?_)
        all_goals first
          | (refine LR rfl (wb Kn (k := 1) (v := J5 x.2) (fun q hq => Or.inr hq) rfl hseg hx rfl rfl) ?_)
          | (refine LK rfl ?_)
        all_goals first
          | (refine LR rfl (JY rfl rfl) ?_)
          | (refine LK rfl ?_)
        all_goals refine LW 2 [] rfl rfl ?_
        all_goals refine Jh ?_
        all_goals (
         refine hK26 ?_; clear hK26 K26; refine Jd rfl (fun h35 => ?_) (fun h35 => ?_)
         try simp only [ZZ] at h35
         refine sR fun K36 hK36 => Jj rfl (nK hK36 ?_); clear hK36 K36; refine Jc (Jq (Jf ?_)); clear hK25 K25; refine Jf (Jq (Jf ?_)); clear hK20 K20; refine pT rfl rfl rfl fun w1 hs1 => ?_; rw [hres, Jrj hx (by omega)]; exact ⟨rfl, hs1.keep⟩
         · try exact Bool.noConfusion h35
           all_goals try simp only [ZZ] at h35
           all_goals (
            refine Jg (Jk (hK25 ?_)); clear hK25 K25; refine Jb (LS 2 [] rfl rfl (Jy (by omega) (by omega) ?_)); refine Jj rfl (Jh (JB ?_))
            exact J6 (i + 1) ⟨by omega, fun j y hj hy => by
              rcases Nat.lt_succ_iff_lt_or_eq.1 hj with h | rfl
              exact hinv j y h hy
              · obtain rfl := Option.some.inj (hx.symm.trans hy); simp_all; all_goals first | done | omega | trace_state⟩ (by omega) (.cons rfl (.cons rfl .nil)) (List.Sublist.refl _) (fun _ _ h => h)
            skip)
         skip)
      try simp only [ZZ] at h24
      refine JL (Jn ?_); clear hK22 K22; refine Jn (J3 (hK20 ?_)); clear hK20 K20; refine sR fun K37 hK37 => Jj rfl (nK hK37 ?_); clear hK37 K37; refine Jc (pT rfl rfl rfl fun w1 hs1 => ?_); rw [h2 h0 (fun j y hy => hinv j y (by have := (List.getElem?_eq_some_iff.1 hy).1; omega) hy)]; exact ⟨rfl, hs1.keep⟩
      skip)
   skip)
theorem wW (a b : AcL) : a.er = b.er ↔ a.addr = b.addr ∧ a.nonce = b.nonce ∧ a.bal = b.bal ∧ a.code = b.code ∧ a.slots = b.slots := by
  unfold AcL.er
  simp
theorem jF {a b : AcL} (h : ¬ a.addr = b.addr ∨ ¬ a.nonce = b.nonce ∨ ¬ a.bal = b.bal ∨ ¬ a.code = b.code ∨ ¬ a.slots.length = b.slots.length) : ¬ a.er = b.er := fun e => by
  obtain ⟨h1, h2, h3, h4, h5⟩ := (wW a b).1 e
  rcases h with h | h | h | h | h
  · exact h h1
  · exact h h2
  · exact h h3
  · exact h h4
  · exact h (by rw [h5])
theorem ZM {R : Jr} {a b : AcL} (ha : a.In R) (hb : b.In R) : PureR Tryz.prog 16 [a.val, b.val].toArray (.bool (decide (a.er = b.er))) R := by
  have hl : a.slots.length ≤ 9223372036854775807 := ha.len
  have hl2 : b.slots.length ≤ 9223372036854775807 := hb.len
  have h1 := ha.seg
  have h2 := hb.seg
  refine Je Tryz.func16 rfl rfl fun w => ?_; refine sR fun K1 hK1 => ?_; refine Jp (cs := a.cells.toArray) rfl rfl rfl rfl fun ra => ?_; refine Jp (cs := b.cells.toArray) rfl rfl rfl rfl fun rb => ?_; refine Jj rfl (nK hK1 ?_); clear hK1 K1; refine sQ fun K2 hK2 => sR fun K3 hK3 => ?_; refine LS 2 [1] rfl rfl ?_
  refine LS 2 [0] rfl rfl ?_; refine LR rfl (WV rfl rfl) ?_; refine Jj rfl ?_
  refine JH 11 rfl (fun hb4 => ?_) (fun hb4 => ?_) <;> (try simp only [ZZ] at hb4) <;> first | (refine LR rfl (JP rfl rfl rfl) ?_) | (refine LK rfl ?_)
  all_goals refine LW 1 [1] rfl rfl ?_
  all_goals first
    | (refine LR rfl (JP rfl rfl rfl) ?_)
    | (refine LK rfl ?_)
  all_goals refine LW 2 [0] rfl rfl ?_
  all_goals first | (refine J1 (congrArg (fun b => Value.bool (!b)) (eqU a.nonce b.nonce)) ?_) | skip
  all_goals refine LW 2 [] rfl rfl ?_
  all_goals first
    | (refine LK rfl ?_)
    | (refine JH 18 rfl (fun hb9 => ?_) (fun hb9 => ?_) <;> (try simp only [ZZ] at hb9) <;> first | (refine LR rfl (JP rfl rfl rfl) ?_) | (refine LK rfl ?_))
  all_goals refine LW 1 [1] rfl rfl ?_
  all_goals first
    | (refine LR rfl (JP rfl rfl rfl) ?_)
    | (refine LK rfl ?_)
  all_goals refine LW 1 [0] rfl rfl ?_
  all_goals first
    | (refine LR rfl (Jff rfl rfl rfl rfl rfl (by kernel_rfl) rfl rfl rfl rfl) ?_)
    | (refine LK rfl ?_)
  all_goals first | (refine J1 (congrArg (fun b => Value.bool (!b)) (eqW a.bal b.bal)) ?_) | skip
  all_goals refine LW 2 [] rfl rfl ?_
  all_goals first
    | (refine LK rfl ?_)
    | (refine JH 25 rfl (fun hb14 => ?_) (fun hb14 => ?_) <;> (try simp only [ZZ] at hb14) <;> first | (refine LR rfl (JP rfl rfl rfl) ?_) | (refine LK rfl ?_))
  all_goals refine LW 1 [1] rfl rfl ?_
  all_goals first
    | (refine LR rfl (JP rfl rfl rfl) ?_)
    | (refine LK rfl ?_)
  all_goals refine LW 1 [0] rfl rfl ?_
  all_goals first
    | (refine LR rfl (WV rfl rfl) ?_)
    | (refine LK rfl ?_)
  all_goals refine LW 2 [] rfl rfl ?_
  all_goals first
    | (refine LK rfl ?_)
    | (refine JH 32 rfl (fun hb19 => ?_) (fun hb19 => ?_) <;> (try simp only [ZZ] at hb19) <;> first | (refine LR rfl (JP rfl rfl rfl) ?_) | (refine LK rfl ?_))
  all_goals refine LW 1 [1] rfl rfl ?_
  all_goals first
    | (refine LR rfl (J7 rfl h1 rfl) ?_)
    | (refine LK rfl ?_)
  all_goals first
    | (refine LR rfl (JP rfl rfl rfl) ?_)
    | (refine LK rfl ?_)
  all_goals refine LW 1 [0] rfl rfl ?_
  all_goals first
    | (refine LR rfl (J7 rfl h2 rfl) ?_)
    | (refine LK rfl ?_)
  all_goals refine LW 2 [] rfl rfl ?_
  all_goals refine Jh ?_
  all_goals (
   refine hK3 ?_; clear hK3 K3; refine Jd rfl (fun h26 => ?_) (fun h26 => ?_)
   try simp only [ZZ] at h26
   refine sR fun K27 hK27 => Jj rfl (nK hK27 ?_); clear hK27 K27; refine Jc (Jf ?_); clear hK2 K2; refine pT rfl rfl rfl fun w1 hs1 => ?_; refine ⟨?_, hs1.keep⟩
   first
     | (rw [decide_eq_false (jF (.inl (by assumption)))]; rfl)
     | (rw [decide_eq_false (jF (.inr (.inl (by assumption))))]; rfl)
     | (rw [decide_eq_false (jF (.inr (.inr (.inl (by assumption)))))]; rfl)
     | (rw [decide_eq_false (jF (.inr (.inr (.inr (.inl (by assumption))))))]; rfl)
     | (rw [decide_eq_false (jF (.inr (.inr (.inr (.inr (by omega))))))]; rfl)
   · try exact Bool.noConfusion h26
     all_goals try simp only [ZZ] at h26
     all_goals (
      refine Jg (hK2 ?_); clear hK2 K2; refine sQ fun K28 hK28 => sR fun K29 hK29 => ?_; refine Jj rfl (nK hK29 ?_); clear hK29 K29; refine Jv ?_
      have hll : a.slots.length = b.slots.length := by omega
      have hflat : a.addr = b.addr ∧ a.nonce = b.nonce ∧ a.bal = b.bal ∧ a.code = b.code := by simp_all
      refine JN (σ := Nat) (fun i => i ≤ a.slots.length ∧ ∀ j, j < i → a.slots[j]? = b.slots[j]?) (fun i => [(2, Value.pointer (some ⟨ra, 0, none⟩)), (3, Value.pointer (some ⟨rb, 0, none⟩)), (5, .int .i64 (i : Int))]) (fun _ => [(rb, .cells b.cells.toArray 34 (0, 0)), (ra, .cells a.cells.toArray 34 (0, 0))]) (fun _ _ _ => True) (fun i => a.slots.length - i) 0 ⟨by omega, fun j hj => absurd hj (by omega)⟩ (.cons rfl (.cons rfl (.cons rfl .nil))) (List.Sublist.refl _) (fun _ _ h => h) ?_; rintro i ⟨hi1, hinv⟩; refine sQ fun K30 hK30 => sR fun K31 hK31 => ?_; refine Jj rfl ?_
      refine LS 2 [1] rfl rfl ?_; refine LR rfl (J7 rfl h1 rfl) ?_; refine JZ rfl (nK hK31 ?_); clear hK31 K31; refine Jd rfl (fun h32 => ?_) (fun h32 => ?_)
      try simp only [ZZ] at h32
      refine Jg (hK30 ?_); clear hK30 K30; refine sB fun K33 hK33 => sQ fun K34 hK34 => ?_
      obtain ⟨x, hx, hmx⟩ := Vo (show i < a.slots.length by omega)
      obtain ⟨y, hy, hmy⟩ := Vo (show i < b.slots.length by omega)
      refine Kc 11 (by kernel_rfl) (by kernel_rfl) ?_
      refine Jl rfl rfl rfl (JP rfl rfl rfl) ?_; refine Jl rfl rfl rfl (Jm rfl (Ja (k := 1) rfl) rfl rfl) ?_; refine Jl rfl rfl rfl (Jo rfl) ?_
      refine Jl rfl rfl rfl (Jw (j := i) rfl h1 rfl rfl rfl (by first | rfl | omega) (by omega)) ?_; refine Jl rfl rfl rfl (KS Kn (fun q hq => Or.inr hq) rfl h1 hx rfl rfl) ?_
      refine Jl rfl rfl rfl (JP rfl rfl rfl) ?_; refine Jl rfl rfl rfl (Jm rfl (Ja (k := 0) rfl) rfl rfl) ?_; refine Jl rfl rfl rfl (Jo rfl) ?_
      refine Jl rfl rfl rfl (Jw (j := i) rfl h2 rfl rfl rfl (by first | rfl | omega) (by omega)) ?_; refine Jl rfl rfl rfl (KS Kn (fun q hq => Or.inr hq) rfl h2 hy rfl rfl) ?_; refine Jl rfl rfl rfl (Jge rfl rfl rfl (by kernel_rfl) (by kernel_rfl) (.scal (by decide) rfl rfl rfl rfl rfl (.scal (by decide) rfl rfl rfl rfl rfl .nil))) ?_; refine Qh (congrArg (fun b => Value.bool (!b)) (Jgg x y)) ?_; refine Kw ?_; refine nK hK34 ?_; clear hK34 K34; refine Jd rfl (fun h35 => ?_) (fun h35 => ?_)
      try simp only [ZZ] at h35
      refine sR fun K36 hK36 => Jj rfl (nK hK36 ?_); clear hK36 K36; refine Jc (Jq (Jf ?_)); clear hK33 K33; refine Jf (Jq (Jf ?_)); clear hK28 K28; refine pT rfl rfl rfl fun w1 hs1 => ?_; refine ⟨?_, hs1.keep⟩; rw [decide_eq_false (show ¬ a.er = b.er from fun e => Jlt hx hy (by simp_all) ((wW a b).1 e).2.2.2.2)]; rfl
      try simp only [ZZ] at h35
      refine Jg (Jk (hK33 ?_)); clear hK33 K33; refine Jb (LS 2 [] rfl rfl (Jy (by omega) (by omega) ?_)); refine Jj rfl (Jh (JB ?_))
      exact J6 (i + 1) ⟨by omega, fun j hj => by
        rcases Nat.lt_succ_iff_lt_or_eq.1 hj with hj | rfl
        exact hinv j hj
        rw [hx, hy]; simp_all⟩ (by omega) (.cons rfl (.cons rfl (.cons rfl .nil))) (List.Sublist.refl _) (fun _ _ h => h)
      try simp only [ZZ] at h32
      refine JL (Jn ?_); clear hK30 K30; refine Jn (J3 (hK28 ?_)); clear hK28 K28; refine sR fun K37 hK37 => Jj rfl (nK hK37 ?_); clear hK37 K37; refine Jc (pT rfl rfl rfl fun w1 hs1 => ?_); refine ⟨?_, hs1.keep⟩; rw [decide_eq_true ((wW a b).2 ⟨hflat.1, hflat.2.1, hflat.2.2.1, hflat.2.2.2, Jls hll (by omega) hinv⟩)]; rfl
      skip)
   skip)
structure Stay (s t : StL) (a key : BS) : Prop where
  there : WO s a = true → WO t a = true
  oth : a ≠ A0 → a ≠ A1 → WO s a = WO t a ∧ (Wb s a).er = (Wb t a).er
  nonce : (Wb s a).nonce = (Wb t a).nonce
  bal : (Wb s a).bal = (Wb t a).bal
  slot : (a = A0 → ¬ Jeo key) → KB (Wb s a).er key = KB (Wb t a).er key
theorem Jue {α : Type} {p : α → Bool} {l : List α} {j : Nat} {x : α} (h : l[j]? = some x) (hp : p x = true) : l.any p = true := List.any_eq_true.2 ⟨x, List.mem_of_getElem? h, hp⟩
theorem Jn7 {α : Type} {p : α → Bool} {l : List α} (h : ∀ (j : Nat) x, l[j]? = some x → p x = false) : l.any p = false := by
  rw [List.any_eq_false]; intro x hx
  obtain ⟨j, hj⟩ := List.getElem?_of_mem hx
  rw [h j x hj]; simp
structure RackI (a : AcL) (rb : Bool) (i : Nat) (rs sp : Bool) : Prop where
  le : i ≤ a.slots.length
  odd : ∀ (j : Nat) x, j < i → a.slots[j]? = some x → qK x = false
  rs : rs = true ↔ rb = true ∧ ∀ (j : Nat) x y, j + 1 < i → a.slots[j]? = some x → a.slots[j + 1]? = some y → Op.bytesLess x.1 y.1 = true
  sp : sp = true ↔ ∃ (j : Nat) (x : BS × BS), j < i ∧ a.slots[j]? = some x ∧ x.2 = VQ
theorem RackI.zero (a : AcL) (rb : Bool) : RackI a rb 0 rb false := ⟨Nat.zero_le _, fun _ _ h => absurd h (Nat.not_lt_zero _), by simp, by simp⟩
theorem RackI.next {a : AcL} {rb : Bool} {i : Nat} {rs sp rs' sp' : Bool} {x : BS × BS} (h : RackI a rb i rs sp) (hx : a.slots[i]? = some x) (ho : x.1.length = 32 ∧ x.2.length = 32)
    (hr : rs' = (rs && (decide (i = 0) || Op.bytesLess ((a.slots[i - 1]?.map Prod.fst).getD []) x.1))) (hp : sp' = (sp || decide (x.2 = VQ))) : RackI a rb (i + 1) rs' sp' := by
  have hlt := (List.getElem?_eq_some_iff.1 hx).1
  refine ⟨hlt, fun j y hj hy => ?_, ?_, ?_⟩
  · rcases Nat.lt_succ_iff_lt_or_eq.1 hj with hj | rfl
    · exact h.odd j y hj hy
    · rw [hx] at hy; cases hy
      unfold qK; simp [ho.1, ho.2]
  · rw [hr, Bool.and_eq_true, h.rs, Bool.or_eq_true, decide_eq_true_eq]
    constructor
    · rintro ⟨⟨h1, h2⟩, h3⟩
      refine ⟨h1, fun j u v hj hu hv => ?_⟩
      rcases Nat.lt_succ_iff_lt_or_eq.1 hj with hj | hj
      · exact h2 j u v hj hu hv
      · subst hj
        rw [hx] at hv; cases hv; rw [show j + 1 - 1 = j by omega, hu] at h3; exact h3.resolve_left (by omega)
    · rintro ⟨h1, h2⟩
      refine ⟨⟨h1, fun j u v hj hu hv => h2 j u v (by omega) hu hv⟩, ?_⟩
      rcases Nat.eq_zero_or_pos i with h0 | h0
      · exact .inl h0
      · obtain ⟨j, rfl⟩ : ∃ j, i = j + 1 := ⟨i - 1, by omega⟩
        obtain ⟨u, hu, -⟩ := Vo (show j < a.slots.length by omega)
        rw [show j + 1 - 1 = j by omega, hu]; exact .inr (h2 j u x (by omega) hu hx)
  · rw [hp, Bool.or_eq_true, h.sp, decide_eq_true_eq]
    constructor
    · rintro (⟨j, u, hj, hu, e⟩ | e)
      · exact ⟨j, u, by omega, hu, e⟩
      · exact ⟨i, x, by omega, hx, e⟩
    · rintro ⟨j, u, hj, hu, e⟩
      rcases Nat.lt_succ_iff_lt_or_eq.1 hj with hj | rfl
      · exact .inl ⟨j, u, hj, hu, e⟩
      · rw [hx] at hu; cases hu; exact .inr e
theorem RackI.done {a : AcL} {rb : Bool} {rs sp : Bool} (h : RackI a rb a.slots.length rs sp) : a.slots.any qK = false ∧ rs = (rb && Vg Prod.fst a.slots) ∧ sp = a.slots.any XO := by
  have hlt : ∀ (j : Nat) (x : BS × BS), a.slots[j]? = some x → j < a.slots.length := fun j x hx => (List.getElem?_eq_some_iff.1 hx).1
  refine ⟨Jn7 fun j x hx => h.odd j x (hlt j x hx) hx, ?_, ?_⟩
  · rw [Bool.eq_iff_iff, h.rs, Bool.and_eq_true]
    refine and_congr_right fun _ => ⟨fun hh => Zn fun j x y hx hy => hh j x y (hlt _ _ hy) hx hy, fun hh j x y _ hx hy => ?_⟩
    cases hb : Op.bytesLess x.1 y.1
    · rw [ju hx hy hb] at hh; cases hh
    · rfl
  · rw [Bool.eq_iff_iff, h.sp]
    constructor
    · rintro ⟨j, x, _, hx, e⟩
      exact Jue hx (by unfold XO; rw [e]; simp)
    · intro hh
      obtain ⟨x, hx, e⟩ := List.any_eq_true.1 hh
      obtain ⟨j, hj⟩ := List.getElem?_of_mem hx
      exact ⟨j, x, hlt j x hj, hj, by simpa [XO] using e⟩
theorem chk_one (e : AcE) : Qm [e] = XS e := by
  unfold Qm goS
  rw [if_neg (by show ¬ 1 > 32; decide), yH]
  split
  · rfl
  · rename_i h
    rw [goS]; exact (Decidable.not_not.1 h).symm
structure OutI {α : Type} (f : α → List Value) (sz : Nat) (acc : List α) (n : Nat) (xs : List Value) (row : Vw) : Prop where
  num : n = acc.length
  cells : xs = acc.flatMap f
  ok : rowOk sz n xs row
theorem OutI.nil {α : Type} {f : α → List Value} {sz : Nat} : OutI f sz [] 0 [] none := ⟨rfl, rfl, rfl, rfl⟩
open Go.Proofs (Enters enters_of)
theorem jG {k n : Int} {p : Pl} {x : Ty} {l : List Vl} (hk : (k = 3 ∧ (l.length : Int) = n) ∨ (k = 4 ∧ (l.length : Int) ≤ n)) (h : ∀ v ∈ l, Ks v x = 0) : Ks (KL l 0) (.mk k n p [x]) = 0 := by
  have hL : ∀ (l : List Vl) (i : Nat), (∀ v ∈ l, Ks v x = 0) → Qs l k 0 [x] i = 0 := by
    intro l
    induction l with
    | nil => intro i _; rw [Qs]
    | cons v l ih =>
      intro i h
      have e : JM k 0 [x] i = x := by unfold JM VV; rcases hk with ⟨rfl, _⟩ | ⟨rfl, _⟩ <;> rfl
      rw [Qs, e, if_pos (h v (by simp)), ih _ (fun w hw => h w (by simp [hw]))]
  unfold KL
  rw [Wr ?_ ?_, hL l 0 h]
  · rcases hk with ⟨rfl, h1⟩ | ⟨rfl, h1⟩ <;> simp <;> omega
  · rw [Qq k n _ 0 0 0 0 [] none l none 0 _ rfl]
    rcases hk with ⟨rfl, h1⟩ | ⟨rfl, h1⟩ <;> simp [Qi, h1]
theorem wX {a b c d : Nat} {n : Int} {p : Pl} (h : ((Wq [a, b, c, d]).length : Int) ≤ n) : Ks (.mk a b c d [] none [] none 0) (.mk 1 n p []) = 0 := by
  rw [Wr (by simp) (by rw [Qq 1 n _ a b c d [] none [] none 0 _ rfl]; simp [Qi, h]), Qs]
theorem Juf : ∀ i : Fin 256, (Wq [i.val, 0, 0, 0]).length ≤ 1 := by decide +kernel
theorem Jn8 (b : UInt8) : Ks (jA b) byT = 0 := wX (by have := Juf ⟨b.toNat, Vr b⟩; simp only at this; omega)
theorem Jag {s : BS} {n : Int} (h : (s.length : Int) = n) : Ks (wM s) (WK 3 n) = 0 := jG (.inl ⟨rfl, by rw [List.length_map]; exact h⟩) fun v hv => by obtain ⟨b, _, rfl⟩ := List.mem_map.1 hv; exact Jn8 b
theorem Jrl {s : BS} {n : Int} (h : (s.length : Int) ≤ n) : Ks (wM s) (WK 4 n) = 0 := jG (.inr ⟨rfl, by rw [List.length_map]; exact h⟩) fun v hv => by obtain ⟨b, _, rfl⟩ := List.mem_map.1 hv; exact Jn8 b
theorem Jrm {x : BS × BS} (h1 : x.1.length = 32) (h2 : x.2.length = 32) : Ks (jC x) qk = 0 := by
  unfold jC qk KL
  rw [Wr (by simp) (by rw [Qq 7 0 _ 0 0 0 0 [] none _ none 0 _ rfl]; simp [Qi]), Qs, show JM 7 0 [WK 3 32, WK 3 32] 0 = WK 3 32 from rfl, if_pos (Jag (by omega)), Qs, show JM 7 0 [WK 3 32, WK 3 32] (0 + 1) = WK 3 32 from rfl, if_pos (Jag (by omega)), Qs]
theorem Jrn {n : Nat} (h : X5 n) : (Wq [n, 0, 0, 0]).length ≤ 8 := by
  have h1 := yA (l := [n, 0, 0, 0]) (Jtb h)
  rw [Jbj] at h1; exact of_decide_eq_true h1.symm
theorem Jug {a : AcE} (h : XS a = 0) (hn : X5 a.nonce) : Ks (acV a) acT = 0 := by
  obtain ⟨h1, h2, _, h4, h5⟩ := W1 h
  obtain ⟨I, hI⟩ : ∃ I, I = [WK 3 20, .mk 1 8 none [], .mk 1 32 none [], WK 4 512, .mk 4 16 none [qk]] := ⟨_, rfl⟩
  have e0 : JM 7 0 I 0 = WK 3 20 := by rw [hI]; rfl
  have e1 : JM 7 0 I (0 + 1) = .mk 1 8 none [] := by rw [hI]; rfl
  have e2 : JM 7 0 I (0 + 1 + 1) = .mk 1 32 none [] := by rw [hI]; rfl
  have e3 : JM 7 0 I (0 + 1 + 1 + 1) = WK 4 512 := by rw [hI]; rfl
  have e4 : JM 7 0 I (0 + 1 + 1 + 1 + 1) = .mk 4 16 none [qk] := by rw [hI]; rfl
  have hl : I.length = 5 := by rw [hI]; rfl
  have hsl : Ks (Vl.mk 0 0 0 0 [] none (a.slots.map jC) none 0) (.mk 4 16 none [qk]) = 0 := jG (.inr ⟨rfl, by rw [List.length_map]; omega⟩) fun v hv => by
    obtain ⟨x, hx, rfl⟩ := List.mem_map.1 hv
    exact Jrm (h2 x hx).1 (h2 x hx).2.1
  unfold acV acT KL
  rw [← hI, Wr (by simp) (by rw [hl, Qq 7 0 _ 0 0 0 0 [] none _ none 0 _ rfl]; simp [Qi]), Qs, e0, if_pos (Jag (by omega)), Qs, e1, if_pos (wX (by have := Jrn hn; omega)), Qs, e2, if_pos (wX (by have := Jed [a.bal.a, a.bal.b, a.bal.c, a.bal.d]; omega)),
    Qs, e3, if_pos (Jrl (by omega)), Qs, e4, if_pos hsl, Qs]
theorem Jro {l : List AcE} (h : Qm l = 0) (hn : ∀ a ∈ l, X5 a.nonce) : Vs QR (XR l) = 0 := by
  obtain ⟨h1, h2, _⟩ := xu.1 h
  unfold Vs
  rw [if_pos Jab]
  exact jG (.inr ⟨rfl, by rw [List.length_map]; omega⟩) fun v hv => by
    obtain ⟨a, ha, rfl⟩ := List.mem_map.1 hv
    exact Jug (h2 a ha) (hn a ha)
theorem Jah {s : StL} (h : Qm s.er = 0) : s.accts.length ≤ 100000 ∧ ∀ a ∈ s.accts, Ac1 a := by
  obtain ⟨h1, h2, _⟩ := xu.1 h
  rw [s.er_len] at h1; refine ⟨by omega, fun a ha => ?_⟩
  obtain ⟨g1, g2, _, g4, g5⟩ := W1 (h2 a.er (List.mem_map.2 ⟨a, ha, rfl⟩))
  change a.addr.length = 20 at g1; change a.code.length ≤ 512 at g4; change a.slots.length ≤ 16 at g5; exact ⟨by omega, by omega, by omega, fun x hx => by obtain ⟨e1, e2, _⟩ := g2 x hx; omega⟩
theorem Jn9 {R : Jr} {s : StL} (hs : s.In R) (h : Qm s.er = 0) : Vs QR (XR s.er) = 0 := Jro h fun a ha => by
  obtain ⟨b, hb, rfl⟩ := List.mem_map.1 ha
  exact (hs.accts b hb).nonce
theorem Jdi : ∀ l : List Vl, (∀ x ∈ l, Nonempty (VR x)) → ∃ (ys : List Vl) (L : Jr), ys.map WM = l ∧ ∀ y ∈ ys, y.In L
  | [], _ => ⟨[], [], rfl, fun y hy => nomatch hy⟩
  | x :: l, h => by
    obtain ⟨ys, L, h1, h2⟩ := Jdi l fun y hy => h y (List.mem_cons_of_mem _ hy)
    obtain ⟨v⟩ := h x List.mem_cons_self
    refine ⟨v.x :: ys, v.L ++ L, by rw [List.map_cons, v.er, h1], fun y hy => ?_⟩
    rcases List.mem_cons.1 hy with rfl | hy
    · exact v.ok.mono fun q hq => List.mem_append_left _ hq
    · exact (h2 y hy).mono fun q hq => List.mem_append_right _ hq
theorem Zu {l : List Vl} (h : ∀ x ∈ l, Nonempty (VR x)) (hl : l.length ≤ 100000) : Nonempty (VR (KL l 0)) := by
  obtain ⟨ys, L, h1, h2⟩ := Jdi l h
  have hy : ys.length = l.length := by rw [← h1, List.length_map]
  exact ⟨⟨.mk 0 0 0 0 [] none ys (some (⟨0, 0, none⟩, ys.length)) 0, (0, .cells (Ql ys).toArray 0 (0, 0)) :: L, .mk u0 u0 u0 u0 (by decide) rfl (by omega) ⟨Nat.le_refl _, fun _ => ⟨rfl, _, 0, (0, 0), List.mem_cons_self, by rw [List.drop_zero, List.toList_toArray, List.take_length]⟩⟩ i0 fun x hx => (h2 x hx).mono fun q hq => List.mem_cons_of_mem _ hq, by rw [Qf, Wf, h1]; rfl⟩⟩
theorem Jhh {a b c d : Nat} (ha : X5 a) (hb : X5 b) (hc : X5 c) (hd : X5 d) : Nonempty (VR (.mk a b c d [] none [] none 0)) :=
  ⟨⟨.mk a b c d [] none [] none 0, [], .mk ha hb hc hd (by decide) rfl (by decide) rfl i0 (fun x hx => nomatch hx), by rw [Qf, Yj]⟩⟩
theorem Jai {s : BS} (hl : s.length ≤ 100000) : Nonempty (VR (wM s)) := ⟨Jns hl⟩
theorem Juh {a : AcL} (h : Ac1 a) (hn : X5 a.nonce) (hb : a.bal.ok) : Nonempty (VR (acV a.er)) := by
  obtain ⟨h1, h2, h3, h4⟩ := h
  refine Zu (fun x hx => ?_) (by show 5 ≤ 100000; decide); simp only [List.mem_cons, List.not_mem_nil, or_false] at hx
  rcases hx with rfl | rfl | rfl | rfl | rfl
  · exact Jai h1
  · exact Jhh hn u0 u0 u0
  · exact Jhh hb.a hb.b hb.c hb.d
  · exact Jai h2
  · refine Zu (fun x hx => ?_) (by rw [List.length_map]; exact h3)
    obtain ⟨⟨k, v⟩, hy, rfl⟩ := List.mem_map.1 hx
    refine Zu (fun x hx => ?_) (by show 2 ≤ 100000; decide); simp only [List.mem_cons, List.not_mem_nil, or_false] at hx
    rcases hx with rfl | rfl
    · exact Jai (h4 _ hy).1
    · exact Jai (h4 _ hy).2
theorem Joa {R : Jr} {s : StL} (hs : s.In R) (h : Qm s.er = 0) : Nonempty (VR (XR s.er)) := by
  obtain ⟨hn, hb⟩ := Jah h
  refine Zu (fun x hx => ?_) (by rw [List.length_map, s.er_len]; exact hn)
  obtain ⟨a, ha, rfl⟩ := List.mem_map.1 hx
  obtain ⟨b, hb2, rfl⟩ := List.mem_map.1 ha
  exact Juh (hb b hb2) (hs.accts b hb2).nonce (hs.accts b hb2).bal
def Jss : TR QR := ⟨Jm9 0 0 0 0 0 0 0 0, [(0, Jiy 0), (0, .cells #[.int .i64 3, .int .i64 32, .slice (some ⟨0, 0, none⟩) 1 1, .int .i64 3, .int .i64 32, .slice (some ⟨0, 0, none⟩) 1 1] 0 (0, 0)), (0, .cells #[.int .i64 7, .int .i64 0, .slice (some ⟨0, 0, none⟩) 2 2] 0 (0, 0)),
  (0, .cells #[.int .i64 3, .int .i64 20, .slice (some ⟨0, 0, none⟩) 1 1, .int .i64 1, .int .i64 8, .slice none 0 0, .int .i64 1, .int .i64 32, .slice none 0 0, .int .i64 4, .int .i64 512, .slice (some ⟨0, 0, none⟩) 1 1, .int .i64 4, .int .i64 16, .slice (some ⟨0, 0, none⟩) 1 1] 0 (0, 0)),
  (0, .cells #[.int .i64 7, .int .i64 0, .slice (some ⟨0, 0, none⟩) 5 5] 0 (0, 0))], Jg2 (e := 0) (by simp) (by simp) (by simp) (by simp) (by simp) (by simp) (by simp) (by simp), Jg3 ..⟩
theorem Jrp (t : Ty) (v : Vl) : jm t (WM v) = jm t v := by unfold jm Vs; rw [Je4, Jmf]
theorem Job (t : Ty) (v : Vl) : Ym t (WM v) = Ym t v := by unfold Ym Vs; rw [Je4, Jqr]
theorem Jrq {T : Ty} {V : Vl} (t : TR T) (v : VR V) : jm t.x v.x = jm T V := by obtain ⟨x, L, ok, rfl⟩ := t; obtain ⟨y, M, ok2, rfl⟩ := v; rw [Jnk, Jrp]
theorem Joc {T : Ty} {V : Vl} (t : TR T) (v : VR V) : Ym t.x v.x = Ym T V := by obtain ⟨x, L, ok, rfl⟩ := t; obtain ⟨y, M, ok2, rfl⟩ := v; rw [Ji3, Job]
theorem Jdj {l : List AcE} (h : Qm l = 0) (hf : Vs QR (XR l) = 0) : jD l = (KC (XR l) QR, 0) := by
  unfold jD Ym
  rw [if_neg (by omega), if_neg (by omega)]
theorem zm {R : Jr} {s : StL} (hs : s.In R) (hw : Qm s.er = 0 → wV (XR s.er) ≤ 20000) : PureR Tryz.prog 27 [s.val].toArray (ZB (WS s.er)) R := by
  have hC := Wx hs
  have hac := Jah (s := s)
  have hlay := Joa hs
  have hfit := Jn9 hs
  have hb0 : Qm s.er ≠ 0 → WS s.er = ([], Qm s.er) := fun h => by unfold WS; rw [if_pos h]
  have hb1 : Qm s.er = 0 → WS s.er = jm QR (XR s.er) := fun h => by unfold WS; rw [if_neg (by omega)]
  obtain ⟨accts, p⟩ := s
  generalize hz0 : Qm (StL.er ⟨accts, p⟩) = z at *
  refine Je Tryz.func27 rfl rfl fun w => ?_; refine sR fun _ hK1 => ?_; refine Jp (cs := #[_]) rfl rfl rfl rfl fun r1 => ?_; refine LS 2 [] rfl rfl (nK hK1 ?_); refine sQ fun _ hK2 => sR fun _ hK3 => ?_; refine LR rfl (J0 (vs := [_]) rfl (Ja (k := 0) rfl) rfl rfl rfl rfl) ?_; refine Ji rfl rfl rfl (enters_of Tryz.func19 (by kernel_rfl) rfl) hC (fun q hq => Or.inr hq) ?_; refine Jj rfl (nK hK3 ?_); refine sR fun _ hK4 => LS 2 [] rfl rfl (nK hK4 ?_); refine Jd rfl (fun h5 => ?_) (fun h5 => ?_)
  try simp only [ZZ] at h5
  refine sR fun _ hK6 => LS 3 [] rfl rfl (nK hK6 ?_); refine Jc (Jf ?_); refine Jx rfl rfl (.cons (J4 rfl) (.cons (J4 rfl) .nil)) (fun w1 hs1 => ?_); refine ⟨?_, hs1.keep⟩; rw [hb0 (by assumption)]; rfl
  · try simp only [ZZ] at h5
    refine Jg (hK2 ?_); refine sQ fun _ hK7 => ?_
    have hz : z = 0 := by assumption
    obtain ⟨hn, hb⟩ := hac hz
    obtain ⟨v0⟩ := hlay hz
    have hww := hw hz
    refine JU [(r1, .cells #[KU accts.length p] 24 (0, 0))] [(0, .grow (Qu Jss (fun y => y.x.val) (fun y => y.L))), (1, .pure), (2, .pure), (3, .grow (Qu v0 (fun y => y.x.val) (fun y => y.L))), (5, .pure), (6, .pure)] 7 [1, 2, 0, 3, 4, 5, 6] (by kernel_rfl) (by kernel_rfl) (by first | exact (fun _ h => absurd h List.not_mem_nil) | simp [SubS] | (intro p hp; simp [hp])) ?_
    refine Jz (k := 1) rfl rfl rfl rfl rfl (fun _ hS => (JP rfl rfl rfl)) ?_; refine Jz (k := 2) rfl rfl rfl rfl rfl (fun _ hS => (Jm rfl (.inl (hS _ (Ky (n := 0) rfl))) rfl rfl)) ?_; refine Qd (k := 0) rfl rfl rfl rfl rfl (enters_of Tryz.func53 (by kernel_rfl) rfl) xX (fun q hq => nomatch hq) fun t => ?_; refine Qd (k := 3) rfl rfl rfl rfl rfl (enters_of Tryz.func54 (by kernel_rfl) rfl) (Jhf hs hn hb) (fun q hq => Or.inr hq) fun v => ?_
    refine Qr (k := 4) (Rl := v.L ++ t.L) rfl rfl rfl rfl rfl (enters_of Tryz.func52 (by kernel_rfl) rfl) (Jl8 (t.ok.mono fun q hq => List.mem_append_right _ hq) (v.ok.mono fun q hq => List.mem_append_left _ hq) (by rw [← Jsp v.x, v.er]; exact hww)) (fun q hq => .inl (by rcases List.mem_append.1 hq with h | h <;> simp [h])) ?_; refine WA (congrArg ZB (Jrq t v)) ?_; refine Jz (k := 5) rfl rfl rfl rfl rfl (fun _ hS => (Qk rfl rfl)) ?_; refine Jz (k := 6) rfl rfl rfl rfl rfl (fun _ hS => (Qk rfl rfl)) ?_; refine KD ?_; refine LS 2 [] rfl rfl (nK hK7 ?_); refine Jc ?_; refine Jx rfl rfl (.cons (J4 rfl) (.cons (J4 rfl) .nil)) (fun w1 hs1 => ?_); refine ⟨?_, hs1.keep⟩; rw [hb1 hz]; rfl
theorem Jdk {R : Jr} {s : StL} (hs : s.In R) (hw : Qm s.er = 0 → wV (XR s.er) ≤ 20000) : PureR Tryz.prog 29 [s.val].toArray (ZB (jD s.er)) R := by
  have hC := Wx hs
  have hac := Jah (s := s)
  have hlay := Joa hs
  have hfit := Jn9 hs
  have hb0 : Qm s.er ≠ 0 → jD s.er = ([], Qm s.er) := fun h => by unfold jD; rw [if_pos h]
  have hb1 : Qm s.er = 0 → jD s.er = Ym QR (XR s.er) := fun h => by unfold jD; rw [if_neg (by omega)]
  obtain ⟨accts, p⟩ := s
  generalize hz0 : Qm (StL.er ⟨accts, p⟩) = z at *
  refine Je Tryz.func29 rfl rfl fun w => ?_; refine sR fun _ hK1 => ?_; refine Jp (cs := #[_]) rfl rfl rfl rfl fun r1 => ?_; refine LS 2 [] rfl rfl (nK hK1 ?_); refine sQ fun _ hK2 => sR fun _ hK3 => ?_; refine LR rfl (J0 (vs := [_]) rfl (Ja (k := 0) rfl) rfl rfl rfl rfl) ?_; refine Ji rfl rfl rfl (enters_of Tryz.func19 (by kernel_rfl) rfl) hC (fun q hq => Or.inr hq) ?_; refine Jj rfl (nK hK3 ?_); refine sR fun _ hK4 => LS 2 [] rfl rfl (nK hK4 ?_); refine Jd rfl (fun h5 => ?_) (fun h5 => ?_)
  try simp only [ZZ] at h5
  refine sR fun _ hK6 => LS 3 [] rfl rfl (nK hK6 ?_); refine Jc (Jf ?_); refine Jx rfl rfl (.cons (J4 rfl) (.cons (J4 rfl) .nil)) (fun w1 hs1 => ?_); refine ⟨?_, hs1.keep⟩; rw [hb0 (by assumption)]; rfl
  · try simp only [ZZ] at h5
    refine Jg (hK2 ?_); refine sQ fun _ hK7 => ?_
    have hz : z = 0 := by assumption
    obtain ⟨hn, hb⟩ := hac hz
    obtain ⟨v0⟩ := hlay hz
    have hww := hw hz
    refine JU [(r1, .cells #[KU accts.length p] 24 (0, 0))] [(0, .grow (Qu Jss (fun y => y.x.val) (fun y => y.L))), (1, .pure), (2, .pure), (3, .grow (Qu v0 (fun y => y.x.val) (fun y => y.L))), (5, .pure), (6, .pure)] 7 [1, 2, 0, 3, 4, 5, 6] (by kernel_rfl) (by kernel_rfl) (by first | exact (fun _ h => absurd h List.not_mem_nil) | simp [SubS] | (intro p hp; simp [hp])) ?_
    refine Jz (k := 1) rfl rfl rfl rfl rfl (fun _ hS => (JP rfl rfl rfl)) ?_; refine Jz (k := 2) rfl rfl rfl rfl rfl (fun _ hS => (Jm rfl (.inl (hS _ (Ky (n := 0) rfl))) rfl rfl)) ?_; refine Qd (k := 0) rfl rfl rfl rfl rfl (enters_of Tryz.func53 (by kernel_rfl) rfl) xX (fun q hq => nomatch hq) fun t => ?_; refine Qd (k := 3) rfl rfl rfl rfl rfl (enters_of Tryz.func54 (by kernel_rfl) rfl) (Jhf hs hn hb) (fun q hq => Or.inr hq) fun v => ?_
    refine Qr (k := 4) (Rl := v.L ++ t.L) rfl rfl rfl rfl rfl (enters_of Tryz.func58 (by kernel_rfl) rfl) (Jq3 (t.ok.mono fun q hq => List.mem_append_right _ hq) (v.ok.mono fun q hq => List.mem_append_left _ hq) (by rw [← Jsp v.x, v.er]; exact hww)) (fun q hq => .inl (by rcases List.mem_append.1 hq with h | h <;> simp [h])) ?_; refine WA (congrArg ZB (Joc t v)) ?_; refine Jz (k := 5) rfl rfl rfl rfl rfl (fun _ hS => (Qk rfl rfl)) ?_; refine Jz (k := 6) rfl rfl rfl rfl rfl (fun _ hS => (Qk rfl rfl)) ?_; refine KD ?_; refine LS 2 [] rfl rfl (nK hK7 ?_); refine Jc ?_; refine Jx rfl rfl (.cons (J4 rfl) (.cons (J4 rfl) .nil)) (fun w1 hs1 => ?_); refine ⟨?_, hs1.keep⟩; rw [hb1 hz]; rfl
theorem Jrr (n : Nat) : vJ [n, 0, 0, 0] = .tuple #[uV n, .bool true] := by unfold vJ; rw [Jbj]; rfl
theorem Jaj {R : Jr} {a b c d : Nat} {bits : List Bool} {pb : Pl} {items : List Vl} {pi : Pl} {pick : Int} (h : Vl.In R (.mk a b c d bits pb items pi pick)) : Seg R items.length (Ql items) pi := by cases h; assumption
theorem Jst {R : Jr} {a b c d : Nat} {bits : List Bool} {pb : Pl} {items : List Vl} {pi : Pl} {pick : Int} (h : Vl.In R (.mk a b c d bits pb items pi pick)) : W4.ok ⟨a, b, c, d⟩ := by cases h; exact ⟨by assumption, by assumption, by assumption, by assumption⟩
theorem vu {a b c d : Nat} {bits : List Bool} {pb : Pl} {items : List Vl} {pi : Pl} {pick k n : Int} {p : Pl} {ins : List Ty} (h : Ks (.mk a b c d bits pb items pi pick) (.mk k n p ins) = 0) : ¬ (k = 4 ∧ n < items.length) ∧ yv k n ins.length (.mk a b c d bits pb items pi pick) = true ∧ Qs items k pick ins 0 = 0 := by
  rw [Ks] at h
  split at h
  · cases h
  · rename_i h1
    split at h
    · cases h
    · rename_i h2
      exact ⟨fun e => h1 (.inl e), by simpa using h2, h⟩
theorem wY {v : Vl} {n : Int} {p : Pl} {x : Ty} (h : Ks v (.mk 4 n p [x]) = 0) : (v.items.length : Int) ≤ n ∧ ∀ y ∈ v.items, Ks y x = 0 := by
  obtain ⟨a, b, c, d, bits, pb, items, pi, pick⟩ := v
  obtain ⟨h1, _, h3⟩ := vu h
  refine ⟨by show (items.length : Int) ≤ n; omega, fun y hy => ?_⟩
  obtain ⟨j, hj⟩ := List.getElem?_of_mem hy
  exact Wd h3 hj
theorem Jak {v : Vl} {n : Int} {p : Pl} {x : Ty} (h : Ks v (.mk 3 n p [x]) = 0) : (v.items.length : Int) = n := by
  obtain ⟨a, b, c, d, bits, pb, items, pi, pick⟩ := v
  obtain ⟨_, h2, _⟩ := vu h
  rw [Qq 3 n _ a b c d bits pb items pi pick _ rfl] at h2; simp at h2; exact h2.2
theorem Jhi {v : Vl} {p : Pl} {ins : List Ty} (h : Ks v (.mk 7 0 p ins) = 0) : v.items.length = ins.length ∧ ∀ (j : Nat) y, v.items[j]? = some y → Ks y (ins.getD j default) = 0 := by
  obtain ⟨a, b, c, d, bits, pb, items, pi, pick⟩ := v
  obtain ⟨_, h2, h3⟩ := vu h
  rw [Qq 7 0 _ a b c d bits pb items pi pick _ rfl] at h2; simp at h2; refine ⟨h2.2, fun j y hy => ?_⟩
  have := Wd h3 hy
  rw [Nat.zero_add] at this; exact this
theorem Jui {R : Jr} {v : Vl} {p : Pl} {ins : List Ty} (hv : v.In R) (h : Ks v (.mk 1 8 p ins) = 0) : ∃ n, v.num = [n, 0, 0, 0] ∧ X5 n := by
  obtain ⟨a, b, c, d, bits, pb, items, pi, pick⟩ := v
  obtain ⟨_, h2, _⟩ := vu h
  rw [Qq 1 8 _ a b c d bits pb items pi pick _ rfl] at h2; simp at h2
  have hw := Jst hv
  have h1 := yA (l := [a, b, c, d]) hw.wok
  rw [decide_eq_true (by have := h2.2; omega)] at h1; exact ⟨a, (Jk0 h1).symm, hw.a⟩
theorem Jod {z : Vl} (h : Ks z qk = 0) : ∃ k0 k1, z.items = [k0, k1] ∧ k0.items.length = 32 ∧ k1.items.length = 32 := by
  obtain ⟨h1, h2⟩ := Jhi h
  match hz : z.items, h1 with
  | [k0, k1], _ =>
    have e0 := h2 0 k0 (by rw [hz]; rfl)
    have e1 := h2 1 k1 (by rw [hz]; rfl)
    exact ⟨k0, k1, rfl, by have := Jak e0; omega, by have := Jak e1; omega⟩
theorem Jrs {R : Jr} {x : Vl} (hx : x.In R) (h : Ks x acT = 0) : ∃ p0 p1 p2 p3 p4 : Vl, x.items = [p0, p1, p2, p3, p4] ∧ p0.items.length = 20 ∧ (p1.num.getD 1 0 = 0 ∧ p1.num.getD 2 0 = 0 ∧ p1.num.getD 3 0 = 0 ∧ X5 (p1.num.getD 0 0)) ∧ True ∧ p3.items.length ≤ 512 ∧ (p4.items.length ≤ 16 ∧ ∀ z ∈ p4.items, ∃ k0 k1, z.items = [k0, k1] ∧ k0.items.length = 32 ∧ k1.items.length = 32) := by
  obtain ⟨h1, h2⟩ := Jhi h
  match hz : x.items, h1 with
  | [p0, p1, p2, p3, p4], _ =>
    have e0 := h2 0 p0 (by rw [hz]; rfl)
    have e1 := h2 1 p1 (by rw [hz]; rfl)
    have e3 := h2 3 p3 (by rw [hz]; rfl)
    have e4 := h2 4 p4 (by rw [hz]; rfl)
    have hi1 : p1.In R := by obtain ⟨a, b, c, d, bits, pb, items, pi, pick⟩ := x; exact hx.sub p1 (by show p1 ∈ items; rw [show items = _ from hz]; simp)
    obtain ⟨n, hn, hu⟩ := Jui hi1 e1
    obtain ⟨g3, _⟩ := wY e3
    obtain ⟨g4, g5⟩ := wY e4
    refine ⟨p0, p1, p2, p3, p4, rfl, by have := Jak e0; omega, by rw [hn]; exact ⟨rfl, rfl, rfl, hu⟩, trivial, by omega, by omega, fun z hz => Jod (g5 z hz)⟩
theorem Jv4 {gv : Vl} {ya yb yc yd : Nat} {ybits : List Bool} {ypb : Pl} {yitems : List Vl} {ypi : Pl} {ypick : Int} (h : Ks gv QR = 0) (e : WM (.mk ya yb yc yd ybits ypb yitems ypi ypick) = gv) : (yitems.length : Int) ≤ 32 ∧ ∀ y ∈ yitems, Ks y acT = 0 := by
  rw [← e, Je4] at h; exact wY h
theorem jH (v : Vl) : (WM v).items = v.items.map WM := by obtain ⟨a, b, c, d, bits, pb, items, pi, pick⟩ := v; rw [Qf, Wf]; rfl
theorem Je7 (v : Vl) : (WM v).num = v.num := by obtain ⟨a, b, c, d, bits, pb, items, pi, pick⟩ := v; rw [Qf]; rfl
theorem Jal (v : Vl) : YB (WM v) = YB v := by
  unfold YB; rw [jH, List.map_map]; exact List.map_congr_left fun x _ => by show UInt8.ofNat ((WM x).num.getD 0 0) = _; rw [Je7]
theorem v0_er : WM v0L = v0L := by unfold v0L; rw [Qf, Yj]
theorem Y5 (v : Vl) (i : Nat) : jE (WM v) i = WM (jE v i) := by
  unfold jE
  rw [jH, List.getD_eq_getElem?_getD, List.getD_eq_getElem?_getD, List.getElem?_map]
  cases v.items[i]? with
  | none => exact v0_er.symm
  | some x => rfl
theorem Jrt (v : Vl) : Xz (WM v) = Xz v := by unfold Xz; rw [Y5, Y5, Jal, Jal]
theorem Juj (v : Vl) : acB (WM v) = acB v := by
  unfold acB w4B
  rw [Y5, Y5, Y5, Y5, Y5, Jal, Jal, Je7, Je7, jH, List.map_map, show (Xz ∘ WM) = Xz from funext Jrt]
theorem Jru (v : Vl) : qm (WM v) = qm v := by unfold qm; rw [jH, List.map_map, show (acB ∘ WM) = acB from funext Juj]
theorem Joe {l : List Vl} {j : Nat} {a b c d : Nat} {bits : List Bool} {pb pi : Pl} {k0 k1 : Vl} {pick : Int} {cs : List Value} (h : l[j]? = some (.mk a b c d bits pb [k0, k1] pi pick)) (hc : cs = [J5 (YB k0), J5 (YB k1)]) : vZ ((l.take j).map Xz) ++ cs = vZ ((l.take (j + 1)).map Xz) := by
  rw [Kt h, List.map_append, hc]; unfold vZ; rw [List.flatMap_append]; rfl
theorem vv (v : Vl) : (YB v).length = v.items.length := by unfold YB; rw [List.length_map]
theorem Juk {acs : List AcL} {E S : Jr} {p0a p0b p0c p0d p3a p3b p3c p3d : Nat} {p0bi p3bi : List Bool} {p0pb p0pi p3pb p3pi p : Pl} {p0it p3it zs : List Vl} {p0pk p3pk : Int} {n : Nat} {w : W4} (hin : ∀ a ∈ acs, AcL.In E a) (hs : Seg S (zs.map Xz).length (vZ (zs.map Xz)) p) (h0 : p0it.length = 20) (h3 : p3it.length ≤ 512) (hz : zs.length ≤ 16) (hn : X5 n) (hw : w.ok) (hzz : ∀ z ∈ zs, ∃ k0 k1, z.items = [k0, k1] ∧ k0.items.length = 32 ∧ k1.items.length = 32) {q : AcL}
    (hq : q ∈ acs ++ [(⟨YB (.mk p0a p0b p0c p0d p0bi p0pb p0it p0pi p0pk), n, w, YB (.mk p3a p3b p3c p3d p3bi p3pb p3it p3pi p3pk), zs.map Xz, p⟩ : AcL)]) : AcL.In (S ++ E) q := by
  rcases List.mem_append.1 hq with hq | hq
  · exact (hin q hq).mono fun p hp => List.mem_append_right _ hp
  · rw [List.mem_singleton.1 hq]
    refine ⟨?_, hn, hw, ?_, ?_, hs.mono fun p hp => List.mem_append_left _ hp, fun x hx => ?_⟩
    · show (YB _).length ≤ Wt; rw [vv]; show p0it.length ≤ Wt; unfold Wt; omega
    · show (YB _).length ≤ Wt; rw [vv]; show p3it.length ≤ Wt; unfold Wt; omega
    · show (zs.map Xz).length ≤ Wt; rw [List.length_map]; unfold Wt; omega
    · obtain ⟨z, hz, rfl⟩ := List.mem_map.1 hx
      obtain ⟨k0, k1, e, e0, e1⟩ := hzz z hz
      have f0 : jE z 0 = k0 := by unfold jE; rw [e]; rfl
      have f1 : jE z 1 = k1 := by unfold jE; rw [e]; rfl
      unfold Xz
      rw [f0, f1]; exact ⟨by show (YB k0).length ≤ Wt; rw [vv]; unfold Wt; omega, by show (YB k1).length ≤ Wt; rw [vv]; unfold Wt; omega⟩
theorem Jul {acs : List AcL} {yitems zs : List Vl} {i : Nat} {xa xb xc xd : Nat} {xbits : List Bool} {xpb xpi p p1pb p1pi p2pb p2pi p4pb p4pi : Pl} {xpick p1pk p2pk p4pk : Int} {P0 P3 : Vl} {n ba bb bc bd p4a p4b p4c p4d n1 n2 n3 : Nat} {p1bi p2bi p4bi : List Bool} {p1it p2it : List Vl} (her : acs.map AcL.er = (yitems.take i).map acB)
    (hx : yitems[i]? = some (.mk xa xb xc xd xbits xpb [P0, .mk n n1 n2 n3 p1bi p1pb p1it p1pi p1pk, .mk ba bb bc bd p2bi p2pb p2it p2pi p2pk, P3, .mk p4a p4b p4c p4d p4bi p4pb zs p4pi p4pk] xpi xpick)) :
    (acs ++ [(⟨YB P0, n, ⟨ba, bb, bc, bd⟩, YB P3, zs.map Xz, p⟩ : AcL)]).map AcL.er = (yitems.take (i + 1)).map acB := by
  rw [List.map_append, her, Kt hx, List.map_append]; rfl
theorem Jum {acs : List AcL} {E : Jr} {row : Vw} {e : Nat} (h : rowOk 8 acs.length (jr acs) row) (hl : acs.length ≤ 100000) (hin : ∀ a ∈ acs, AcL.In E a) : StL.In (JX e (jr acs) row ++ E) ⟨acs, Vi row⟩ :=
  ⟨by show acs.length ≤ Wt; unfold Wt; omega, (Qj h (by decide)).mono fun q hq => List.mem_append_left _ hq, fun a ha => (hin a ha).mono fun q hq => List.mem_append_right _ hq⟩
theorem Jof {T : Ty} (t : TR T) (s : BS) : getR t.x s = getR T s := by obtain ⟨x, L, ok, rfl⟩ := t; rw [Jno]
theorem Jog {s : BS} (h : (getR QR s).2 = 0) : Ks (getR QR s).1 QR = 0 := by
  unfold getR at h ⊢
  rw [if_neg (by rw [Jab]; decide)] at h ⊢
  by_cases h1 : 65536 < s.length
  · rw [if_pos h1] at h; cases h
  · rw [if_neg h1] at h ⊢
    exact (Jqs QR 0 Jab s _ (by omega) (Prod.ext rfl h)).1
open Classical in
theorem Jun {α : Type} (b c : α) (Y T : List α) : (b :: (Y ++ (T ++ [c]))).Perm (b :: c :: (Y ++ T)) := by
  rw [List.perm_iff_count]; intro x; simp only [List.count_append, List.count_cons, List.count_nil]; omega
open Classical in
theorem Jam {α : Type} (M S W : List α) : (M ++ (S ++ W)).Perm (S ++ (M ++ W)) := by
  rw [List.perm_iff_count]; intro x; simp only [List.count_append]; omega
open Classical in
theorem Juo {α : Type} (M S V W : List α) : (M ++ (S ++ (V ++ W))).Perm (V ++ (M ++ (S ++ W))) := by
  rw [List.perm_iff_count]; intro x; simp only [List.count_append]; omega
open Classical in
theorem Jup {α : Type} (r : α) (P M W : List α) : (r :: (P ++ (M ++ W))).Perm (P ++ (M ++ (r :: W))) := by
  rw [List.perm_iff_count]; intro x; simp only [List.count_append, List.count_cons]; omega
open Classical in
theorem Juq {α : Type} (r a b : α) (M S E W : List α) : (r :: a :: b :: (M ++ (S ++ (E ++ W)))).Perm (a :: b :: (M ++ (r :: ((S ++ E) ++ W)))) := by
  rw [List.perm_iff_count]; intro x; simp only [List.count_append, List.count_cons]; omega
set_option maxHeartbeats 4000000 in
theorem Jja (s : BS) : PureT (α := StRes [] (Zc s)) Tryz.prog 31 [J5 s].toArray (fun x => x.val) [] (fun x => x.L) [] := by
  have hgt : ∀ t : TR QR, PureT (α := VR (getR QR s).1) Tryz.prog 60 [t.x.val, J5 s].toArray (fun y => .tuple #[y.x.val, .int .i64 (getR QR s).2]) [] (fun y => y.L) t.L := fun t => by
    have := Jvv t.ok s
    rw [Jof t s] at this; exact this
  have hfit := Jog (s := s)
  have hPa : (getR QR s).2 ≠ 0 → Zc s = ([], (getR QR s).2) := fun h => by unfold Zc; rw [if_pos h]
  have hPb : (getR QR s).2 = 0 → Qm (qm (getR QR s).1) ≠ 0 → Zc s = ([], Qm (qm (getR QR s).1)) := fun h h2 => by unfold Zc; rw [if_neg (by omega), if_pos h2]
  have hPc : (getR QR s).2 = 0 → Qm (qm (getR QR s).1) = 0 → Zc s = (qm (getR QR s).1, 0) := fun h h2 => by unfold Zc; rw [if_neg (by omega), if_neg (by omega)]
  generalize (getR QR s).1 = gv at hgt hfit hPa hPb hPc
  generalize (getR QR s).2 = ge at hgt hfit hPa hPb hPc
  refine JI Tryz.func31 rfl rfl fun w => ?_; refine sR fun _ hK1 => ?_; refine Js (cs := #[_]) rfl rfl rfl rfl fun r1 => ?_; refine Jj rfl (nK hK1 ?_); refine sR fun _ hK2 => ?_; refine Qn rfl rfl rfl (enters_of Tryz.func53 (by kernel_rfl) rfl) (xX) (fun q hq => nomatch hq) fun t => ?_; refine Jj rfl (Qn rfl rfl rfl (enters_of Tryz.func60 (by kernel_rfl) rfl) (hgt t) (fun q hq => .inl (List.mem_append_left _ hq)) fun y => ?_)
  obtain ⟨⟨ya, yb, yc, yd, ybits, ypb, yitems, ypi, ypick⟩, yL, yok, yer⟩ := y
  refine LS 3 [] rfl rfl ?_; refine Js (cs := #[_, _, _, _, _, _, _]) rfl rfl rfl rfl fun r2 => ?_; refine KH (Jun ..) ?_
  refine LT 0 rfl rfl (Jj rfl ?_); refine nK hK2 (sQ fun _ hK3 => ?_); refine sR fun _ hK4 => LS 2 [] rfl rfl (nK hK4 ?_); refine Jd rfl (fun h5 => ?_) (fun h5 => ?_)
  try simp only [ZZ] at h5
  refine sR fun _ hK6 => ?_; refine LR rfl (JJ (r := [_]) rfl rfl) ?_; refine Jj rfl ?_
  refine LT 1 rfl rfl (Jj rfl ?_); refine nK hK6 (Jc (Jf ?_)); refine Jx rfl rfl (.cons (JA (vs := [_]) rfl (Ja (k := 1) rfl) rfl rfl) (.cons (J4 rfl) .nil)) (fun w1 hs1 => ?_); exact ⟨⟨st0L, ge, [], wa, by rw [hPa (by assumption)]; rfl⟩, rfl, hs1.weakL (List.nil_sublist _)⟩
  · try simp only [ZZ] at h5
    refine Jg (hK3 ?_); refine sQ fun _ hK7 => ?_
    have hge : ge = 0 := by assumption
    have hyfit := Jv4 (hfit hge) yer
    have hsY : Seg yL yitems.length (Ql yitems) ypi := Jaj yok
    obtain ⟨hy32, hyf⟩ := hyfit
    have hyin := yok.sub
    have hby : qm gv = yitems.map acB := by rw [← yer]; exact Jru _
    refine Jb (Js (cs := #[_]) rfl rfl rfl rfl fun r3 => ?_); refine nK hK7 (sQ fun _ hK8 => ?_); refine sR fun _ hK9 => ?_
    refine LS 2 [1] rfl rfl ?_; refine LR rfl (J7 rfl hsY rfl) ?_; refine Jj rfl (nK hK9 ?_); refine Jv ?_; refine JN (σ := Nat × List AcL × Vw × Jr) (fun q => q.1 ≤ yitems.length ∧ rowOk 8 q.1 (jr q.2.1) q.2.2.1 ∧ (∀ a ∈ q.2.1, AcL.In q.2.2.2 a) ∧ q.2.1.map AcL.er = (yitems.take q.1).map acB) (fun q => [(2, V5 r1), (6, V5 r3), (26, KU yitems.length ypi), (27, .int .i64 (yitems.length : Int)), (28, .int .i64 (q.1 : Int))]) (fun q => (r3, .cells #[JE q.1 q.2.2.1] 24 (0, 0)) :: (r2, .cells #[uV ya, uV yb, uV yc, uV yd, KU ybits.length ypb, KU yitems.length ypi, .int .i64 ypick] 81 (0, 0)) :: (r1, .cells #[.slice none 0 0] 24 (0, 0)) :: (JX 34 (jr q.2.1) q.2.2.1 ++ (q.2.2.2 ++ yL))) (fun _ _ _ => True) (fun q => yitems.length - q.1) (0, [], none, []) ⟨Nat.zero_le _, ⟨rfl, rfl⟩, fun x hx => (nomatch hx), rfl⟩ (.cons rfl (.cons rfl (.cons rfl (.cons rfl (.cons rfl .nil))))) (by simp only [JX, List.nil_append]; exact .cons_cons _ (.cons_cons _ (.cons_cons _ (List.sublist_append_left _ _)))) (fun _ _ h => h) ?_; rintro ⟨i, acs, row, E⟩ ⟨hi1, hrow, hin, her⟩; simp only at hi1 hrow hin her; refine sR fun _ hK10 => JZ rfl (nK hK10 ?_); refine sQ fun _ hK11 => ?_; refine Jd rfl (fun h12 => ?_) (fun h12 => ?_)
    · try simp only [ZZ] at h12
      refine Jg (hK11 ?_); refine sB fun _ hK13 => sQ fun _ hK14 => ?_
      obtain ⟨x, hx, hxm⟩ := Vo (show i < yitems.length by omega)
      obtain ⟨p0, p1, p2, p3, p4, hxi, hp0, hp1, hp2, hp3, hp4⟩ := Jrs (hyin x hxm) (hyf x hxm)
      obtain ⟨xa, xb, xc, xd, xbits, xpb, xitems, xpi, xpick⟩ := x
      change xitems = _ at hxi; subst hxi
      have hxin : Vl.In yL _ := hyin _ hxm
      have hsx : Seg yL _ (Ql _) xpi := Jaj hxin
      have hpi0 := hxin.sub p0 (by simp)
      have hpi1 := hxin.sub p1 (by simp)
      have hpi2 := hxin.sub p2 (by simp)
      have hpi3 := hxin.sub p3 (by simp)
      have hpi4 := hxin.sub p4 (by simp)
      obtain ⟨p0a, p0b, p0c, p0d, p0bi, p0pb, p0it, p0pi, p0pk⟩ := p0
      obtain ⟨p1a, p1b, p1c, p1d, p1bi, p1pb, p1it, p1pi, p1pk⟩ := p1
      obtain ⟨p2a, p2b, p2c, p2d, p2bi, p2pb, p2it, p2pi, p2pk⟩ := p2
      obtain ⟨p3a, p3b, p3c, p3d, p3bi, p3pb, p3it, p3pi, p3pk⟩ := p3
      obtain ⟨p4a, p4b, p4c, p4d, p4bi, p4pb, p4it, p4pi, p4pk⟩ := p4
      obtain ⟨hq0, hq1, hq2, hq3⟩ : p1b = 0 ∧ p1c = 0 ∧ p1d = 0 ∧ X5 p1a := hp1
      subst hq0 hq1 hq2
      obtain ⟨hz16, hzz⟩ := hp4
      change p4it.length ≤ 16 at hz16
      have hsz : Seg yL p4it.length (Ql p4it) p4pi := Jaj hpi4
      change p0it.length = 20 at hp0; change p3it.length ≤ 512 at hp3
      have hba : W4.ok ⟨p2a, p2b, p2c, p2d⟩ := Jst hpi2
      refine Jb (LR rfl (Jw (j := i) rfl hsY rfl rfl rfl rfl (by omega)) (LR rfl (QF (fun q hq => .inl (by simp only [List.mem_cons, List.mem_append, hq, or_true, true_or])) rfl hsY hx rfl rfl) ?_)); refine Js (cs := #[_, _, _, _, _, _, _]) rfl rfl rfl rfl fun r4 => ?_
      refine LT 0 rfl rfl (nK hK14 ?_); refine sR fun _ hK15 => ?_
      refine LS 2 [0] rfl rfl ?_; refine LR rfl (Jw (j := 1) rfl hsx rfl rfl rfl rfl (by exact Nat.le_of_ble_eq_true rfl)) ?_; refine LR rfl (KG (off' := wZ xpi + 7) rfl rfl (by show wZ xpi + 1 * 7 + 0 = _; omega)) ?_; refine LR rfl (WZ (j := 7) (vs := [uV p1a, uV 0, uV 0, uV 0]) (fun q hq => .inl (by simp only [List.mem_cons, List.mem_append, hq, or_true, true_or])) rfl hsx (Nat.le_of_ble_eq_true rfl) rfl rfl rfl rfl) ?_; refine JF rfl rfl rfl (enters_of Tryz.func61 (by kernel_rfl) rfl) (zO (l := [p1a, 0, 0, 0]) (Jtb hq3)) ?_; refine J1 ((Jrr p1a)) ?_; refine LS 5 [] rfl rfl (nK hK15 ?_); refine sQ fun _ hK16 => ?_
      refine JU [(r4, .cells #[uV xa, uV xb, uV xc, uV xd, KU xbits.length xpb, KU 5 xpi, .int .i64 xpick] 81 (0, 0))] [(0, .pure), (1, .pure), (2, .pure), (5, .pure), (6, .pure), (7, .pure), (8, .pure), (9, .pure), (11, .pure), (12, .pure), (13, .pure), (16, .pure), (17, .grow (Wa zD (.cells #[.string ⟨#[]⟩, .int .u64 0, .int .u64 0, .int .u64 0, .int .u64 0, .int .u64 0, .string ⟨#[]⟩, .slice none 0 0] 34 (0, 0))))] 18 [0, 1, 2, 3, 4, 5, 6, 7, 8, 9, 10, 11, 12, 13, 14, 15, 16, 17] (by kernel_rfl) (by kernel_rfl) (by first | exact (fun _ h => absurd h List.not_mem_nil) | simp [SubS] | (intro p hp; simp [hp])) ?_
      refine Jz (k := 0) rfl rfl rfl rfl rfl (fun _ hS => (JP rfl rfl rfl)) ?_; refine Jz (k := 1) rfl rfl rfl rfl rfl (fun _ hS => (Jm rfl (.inl (hS _ (Ky (n := 0) rfl))) rfl rfl)) ?_; refine Jz (k := 2) rfl rfl rfl rfl rfl (fun _ _ => Jw (j := 0) rfl hsx rfl rfl rfl rfl (by exact Nat.le_of_ble_eq_true rfl)) ?_; refine Qa (k := 3) rfl rfl rfl rfl rfl (QF (fun q hq => .inl (by simp only [List.mem_cons, List.mem_append, hq, or_true, true_or])) rfl hsx rfl rfl rfl) ?_; refine Qr (k := 4) (Rl := yL) rfl rfl rfl rfl rfl (enters_of Tryz.func62 (by kernel_rfl) rfl) (Jq5 hpi0 (by show _ ≤ 100000; show p0it.length ≤ 100000; omega)) (fun q hq => .inl (by simp only [List.mem_cons, List.mem_append, hq, or_true, true_or])) ?_; refine Jz (k := 5) rfl rfl rfl rfl rfl (fun _ hS => (Jo rfl)) ?_
      refine Jz (k := 6) rfl rfl rfl rfl rfl (fun _ hS => (JP rfl rfl rfl)) ?_; refine Jz (k := 7) rfl rfl rfl rfl rfl (fun _ hS => (Jm rfl (.inl (hS _ (Ky (n := 0) rfl))) rfl rfl)) ?_; refine Jz (k := 8) rfl rfl rfl rfl rfl (fun _ _ => Jw (j := 2) rfl hsx rfl rfl rfl rfl (by exact Nat.le_of_ble_eq_true rfl)) ?_; refine Jz (k := 9) rfl rfl rfl rfl rfl (fun _ _ => KG (off' := wZ xpi + 14) rfl rfl (by show wZ xpi + 2 * 7 + 0 = _; omega)) ?_; refine Qa (k := 10) rfl rfl rfl rfl rfl (WZ (j := 14) (vs := [uV p2a, uV p2b, uV p2c, uV p2d]) (fun q hq => .inl (by simp only [List.mem_cons, List.mem_append, hq, or_true, true_or])) rfl hsx (Nat.le_of_ble_eq_true rfl) rfl rfl rfl rfl) ?_
      refine Jz (k := 11) rfl rfl rfl rfl rfl (fun _ hS => (JP rfl rfl rfl)) ?_; refine Jz (k := 12) rfl rfl rfl rfl rfl (fun _ hS => (Jm rfl (.inl (hS _ (Ky (n := 0) rfl))) rfl rfl)) ?_; refine Jz (k := 13) rfl rfl rfl rfl rfl (fun _ _ => Jw (j := 3) rfl hsx rfl rfl rfl rfl (by exact Nat.le_of_ble_eq_true rfl)) ?_; refine Qa (k := 14) rfl rfl rfl rfl rfl (QF (fun q hq => .inl (by simp only [List.mem_cons, List.mem_append, hq, or_true, true_or])) rfl hsx rfl rfl rfl) ?_; refine Qr (k := 15) (Rl := yL) rfl rfl rfl rfl rfl (enters_of Tryz.func62 (by kernel_rfl) rfl) (Jq5 hpi3 (by show _ ≤ 100000; show p3it.length ≤ 100000; omega)) (fun q hq => .inl (by simp only [List.mem_cons, List.mem_append, hq, or_true, true_or])) ?_; refine Jz (k := 16) rfl rfl rfl rfl rfl (fun _ hS => (JJ (r := [_, _, _, _, _, _, _, _]) rfl rfl)) ?_; refine Ya (k := 17) (cs := #[_, _, _, _, _, _, _, _]) rfl rfl rfl rfl rfl rfl fun r5 => ?_; refine KD ?_
      refine LT 0 rfl rfl (nK hK16 ?_); refine sQ fun _ hK17 => sR fun _ hK18 => ?_
      refine LS 2 [1] rfl rfl ?_; refine LR rfl (Jw (j := 4) rfl hsx rfl rfl rfl rfl (by exact Nat.le_of_ble_eq_true rfl)) ?_; refine LR rfl (KG (off' := wZ xpi + 33) rfl rfl (by show wZ xpi + 4 * 7 + 5 = _; omega)) ?_; refine LR rfl (jd (j := 33) (v := KU p4it.length p4pi) (fun q hq => .inl (by simp only [List.mem_cons, List.mem_append, hq, or_true, true_or])) rfl hsx (Nat.le_of_ble_eq_true rfl) rfl rfl) ?_; refine LR rfl (J7 rfl hsz rfl) ?_; refine Jj rfl (nK hK18 ?_); refine Jv ?_; refine JN (σ := Nat × Vw) (fun q => q.1 ≤ p4it.length ∧ rowOk 2 q.1 (vZ ((p4it.take q.1).map Xz)) q.2) (fun q => [(2, V5 r1), (6, V5 r3), (11, V5 r5), (26, KU yitems.length ypi), (27, .int .i64 (yitems.length : Int)), (28, .int .i64 (i : Int)), (62, KU p4it.length p4pi), (63, .int .i64 (p4it.length : Int)), (64, .int .i64 (q.1 : Int))]) (fun q => (r5, .cells #[J5 (YB (.mk p0a p0b p0c p0d p0bi p0pb p0it p0pi p0pk)), uV p1a, uV p2a, uV p2b, uV p2c, uV p2d, J5 (YB (.mk p3a p3b p3c p3d p3bi p3pb p3it p3pi p3pk)), JE q.1 q.2] 34 (0, 0)) :: (r3, .cells #[JE i row] 24 (0, 0)) :: (r2, .cells #[uV ya, uV yb, uV yc, uV yd, KU ybits.length ypb, KU yitems.length ypi, .int .i64 ypick] 81 (0, 0)) :: (r1, .cells #[.slice none 0 0] 24 (0, 0)) :: (JX 59 (vZ ((p4it.take q.1).map Xz)) q.2 ++ (JX 34 (jr acs) row ++ (E ++ yL)))) (fun _ _ _ => True) (fun q => p4it.length - q.1) (0, none) ⟨Nat.zero_le _, ⟨rfl, rfl⟩⟩ (.cons rfl (.cons rfl (.cons rfl (.cons rfl (.cons rfl (.cons rfl (.cons rfl (.cons rfl (.cons rfl .nil))))))))) (by simp only [JX, List.nil_append]; exact .cons_cons _ (.cons _ (List.Sublist.refl _))) (fun _ _ h => h) ?_; rintro ⟨j, rw2⟩ ⟨hj1, hrow2⟩; simp only at hj1 hrow2; refine sR fun _ hK19 => JZ rfl (nK hK19 ?_); refine sQ fun _ hK20 => ?_; refine Jd rfl (fun h21 => ?_) (fun h21 => ?_)
      · try simp only [ZZ] at h21
        refine Jg (hK20 ?_); refine sB fun _ hK22 => sQ fun _ hK23 => ?_
        obtain ⟨z, hz, hzm⟩ := Vo (show j < p4it.length by omega)
        obtain ⟨k0, k1, hzi, hk0, hk1⟩ := hzz z hzm
        obtain ⟨za, zb, zc, zd, zbits, zpb, zitems, zpi, zpick⟩ := z
        change zitems = _ at hzi; subst hzi
        have hzin : Vl.In yL _ := hpi4.sub _ hzm
        have hsq : Seg yL _ (Ql _) zpi := Jaj hzin
        have hki0 := hzin.sub k0 (by simp)
        have hki1 := hzin.sub k1 (by simp)
        refine Jb (LR rfl (Jw (j := j) rfl hsz rfl rfl rfl rfl (by omega)) (LR rfl (QF (fun q hq => .inl (by simp only [List.mem_cons, List.mem_append, hq, or_true, true_or])) rfl hsz hz rfl rfl) ?_)); refine Js (cs := #[_, _, _, _, _, _, _]) rfl rfl rfl rfl fun r6 => ?_
        refine LT 0 rfl rfl (nK hK23 ?_)
        refine JU [(r5, .cells #[J5 (YB (.mk p0a p0b p0c p0d p0bi p0pb p0it p0pi p0pk)), uV p1a, uV p2a, uV p2b, uV p2c, uV p2d, J5 (YB (.mk p3a p3b p3c p3d p3bi p3pb p3it p3pi p3pk)), JE j rw2] 34 (0, 0)), (r6, .cells #[uV za, uV zb, uV zc, uV zd, KU zbits.length zpb, KU 2 zpi, .int .i64 zpick] 81 (0, 0))] [(0, .pure), (1, .pure), (2, .pure), (3, .pure), (4, .pure), (7, .pure), (8, .pure), (9, .pure), (12, .pure), (13, .grow (Wa (slV 1) (.cells #[J5 (YB k0), J5 (YB k1)] 59 (0, 0))))] 14 [0, 1, 2, 3, 4, 5, 6, 7, 8, 9, 10, 11, 12, 13] (by kernel_rfl) (by kernel_rfl) (by first | exact (fun _ h => absurd h List.not_mem_nil) | simp [SubS] | (intro p hp; simp [hp])) ?_
        refine Jz (k := 0) rfl rfl rfl rfl rfl (fun _ hS => (JP rfl rfl rfl)) ?_; refine Jz (k := 1) rfl rfl rfl rfl rfl (fun _ hS => (Jm rfl (.inl (hS _ (Ky (n := 0) rfl))) rfl rfl)) ?_
        refine Jz (k := 2) rfl rfl rfl rfl rfl (fun _ hS => (JP rfl rfl rfl)) ?_; refine Jz (k := 3) rfl rfl rfl rfl rfl (fun _ hS => (Jm rfl (.inl (hS _ (Ky (n := 1) rfl))) rfl rfl)) ?_; refine Jz (k := 4) rfl rfl rfl rfl rfl (fun _ _ => Jw (j := 0) rfl hsq rfl rfl rfl rfl (by exact Nat.le_of_ble_eq_true rfl)) ?_; refine Qa (k := 5) rfl rfl rfl rfl rfl (QF (fun q hq => .inl (by simp only [List.mem_cons, List.mem_append, hq, or_true, true_or])) rfl hsq rfl rfl rfl) ?_; refine Qr (k := 6) (Rl := yL) rfl rfl rfl rfl rfl (enters_of Tryz.func62 (by kernel_rfl) rfl) (Jq5 hki0 (by show _ ≤ 100000; omega)) (fun q hq => .inl (by simp only [List.mem_cons, List.mem_append, hq, or_true, true_or])) ?_
        refine Jz (k := 7) rfl rfl rfl rfl rfl (fun _ hS => (JP rfl rfl rfl)) ?_; refine Jz (k := 8) rfl rfl rfl rfl rfl (fun _ hS => (Jm rfl (.inl (hS _ (Ky (n := 1) rfl))) rfl rfl)) ?_; refine Jz (k := 9) rfl rfl rfl rfl rfl (fun _ _ => Jw (j := 1) rfl hsq rfl rfl rfl rfl (by exact Nat.le_of_ble_eq_true rfl)) ?_; refine Qa (k := 10) rfl rfl rfl rfl rfl (QF (fun q hq => .inl (by simp only [List.mem_cons, List.mem_append, hq, or_true, true_or])) rfl hsq rfl rfl rfl) ?_; refine Qr (k := 11) (Rl := yL) rfl rfl rfl rfl rfl (enters_of Tryz.func62 (by kernel_rfl) rfl) (Jq5 hki1 (by show _ ≤ 100000; omega)) (fun q hq => .inl (by simp only [List.mem_cons, List.mem_append, hq, or_true, true_or])) ?_; refine Jz (k := 12) rfl rfl rfl rfl rfl (fun _ hS => (JJ (r := [_, _]) rfl rfl)) ?_; refine VJ (k := 13) (n := 1) (sz := 2) (vs := [_]) (zs := [_, _]) (r := [J5 (YB k0), J5 (YB k1)]) rfl rfl rfl rfl rfl rfl rfl rfl rfl rfl rfl (by rw [Ku]; exact rfl) rfl fun rc => ?_; refine KD ?_; refine KH (Jam (M := [_, _, _, _, _, _]) ..) ?_; refine Km (L0 := _) (xs := vZ ((p4it.take j).map Xz)) (row := rw2) (n := j) (sz := 2) (b := 32) (news := [_, _]) (List.Perm.refl _) rfl rfl rfl rfl (Ja (k := 0) rfl) rfl rfl rfl rfl rfl (by decide) rfl rfl rfl (by decide) hrow2 (by omega) (by omega) fun ra cap sp hra => ?_
        refine LS 1 [] rfl rfl ?_; refine Kz (k := 3) (cs' := #[J5 (YB (.mk p0a p0b p0c p0d p0bi p0pb p0it p0pi p0pk)), uV p1a, uV p2a, uV p2b, uV p2c, uV p2d, J5 (YB (.mk p3a p3b p3c p3d p3bi p3pb p3it p3pi p3pk)), JE (j + 1) (some (ra, cap, sp))]) rfl rfl rfl rfl rfl rfl rfl rfl rfl rfl ?_; refine Jh (Jk (hK22 ?_)); refine Jb ?_
        refine JZ rfl ?_; refine J1 (show _ = Value.int .i64 ((j + 1 : Nat) : Int) from by rw [wrap_i64 (by omega) (by omega)]; congr 1 <;> omega) ?_; refine Jj rfl (Jh (JB ?_)); rw [Joe hz rfl] at hra ⊢; refine Xx (Jup (P := [_, _]) (M := [_, _, _, _]) ..) ?_; exact J6 (j + 1, some (ra, cap, sp)) ⟨by simp only; omega, hra⟩ (by simp only; omega) (.cons rfl (.cons rfl (.cons rfl (.cons rfl (.cons rfl (.cons rfl (.cons rfl (.cons rfl (.cons rfl .nil))))))))) (.cons _ (.cons _ (List.Sublist.refl _))) (fun _ _ h => h)
      · try simp only [ZZ] at h21
        refine JL (Jn ?_); refine Jn (J3 (hK17 ?_))
        obtain rfl : j = p4it.length := by omega
        rw [List.take_length] at hrow2 ⊢
        have hvr2 : JE p4it.length rw2 = KU (p4it.map Xz).length (Vi rw2) := by rw [List.length_map]; exact (Wc _ _ (fun h => by rw [h] at hrow2; exact hrow2.1)).symm
        rw [hvr2]; rw [show p4it.length = (p4it.map Xz).length by rw [List.length_map]] at hrow2; refine Jb ?_
        refine LS 3 [1, 0] rfl rfl ?_; refine Ka (vs := [_]) (zs := [_, _, _, _, _, _, _, _]) (r := [_, _, _, _, _, _, _, _]) rfl rfl rfl rfl rfl rfl rfl rfl rfl (by rw [Ku]; exact rfl) rfl fun r7 => ?_; refine KH (Juo (M := [_, _, _, _, _]) ..) ?_; refine Km (L0 := _) (xs := jr acs) (row := row) (n := i) (sz := 8) (b := 96) (news := [_, _, _, _, _, _, _, _]) (List.Perm.refl _) rfl rfl rfl rfl (Ja (k := 0) rfl) rfl rfl rfl rfl rfl (by decide) rfl rfl rfl (by decide) hrow (by omega) (by omega) fun ra cap sp hra => ?_
        refine LS 1 [] rfl rfl ?_; refine Kz (k := 3) (cs' := #[JE (i + 1) (some (ra, cap, sp))]) rfl rfl rfl rfl rfl rfl rfl rfl rfl rfl ?_; refine Jh (Jk (hK13 ?_)); refine Jb ?_
        refine JZ rfl ?_; refine J1 (show _ = Value.int .i64 ((i + 1 : Nat) : Int) from by rw [wrap_i64 (by omega) (by omega)]; congr 1 <;> omega) ?_; refine Jj rfl (Jh (JB ?_))
        have hvc : jr acs ++ AcL.cells (⟨YB (.mk p0a p0b p0c p0d p0bi p0pb p0it p0pi p0pk), p1a, ⟨p2a, p2b, p2c, p2d⟩, YB (.mk p3a p3b p3c p3d p3bi p3pb p3it p3pi p3pk), p4it.map Xz, Vi rw2⟩ : AcL) = jr (acs ++ [(⟨YB (.mk p0a p0b p0c p0d p0bi p0pb p0it p0pi p0pk), p1a, ⟨p2a, p2b, p2c, p2d⟩, YB (.mk p3a p3b p3c p3d p3bi p3pb p3it p3pi p3pk), p4it.map Xz, Vi rw2⟩ : AcL)]) := by unfold jr; rw [List.flatMap_append]; simp
        refine Xx (Juq (M := [_, _, _]) ..) ?_; exact J6 (i + 1, acs ++ [(⟨YB (.mk p0a p0b p0c p0d p0bi p0pb p0it p0pi p0pk), p1a, ⟨p2a, p2b, p2c, p2d⟩, YB (.mk p3a p3b p3c p3d p3bi p3pb p3it p3pi p3pk), p4it.map Xz, Vi rw2⟩ : AcL)], some (ra, cap, sp), JX 59 (vZ (p4it.map Xz)) rw2 ++ E) ⟨by simp only; omega, by simp only; rw [← hvc]; exact hra, fun z hz => Juk hin (Qj hrow2 (by decide)) hp0 hp3 hz16 hq3 hba hzz hz, Jul her hx⟩ (by simp only; omega) (.cons rfl (.cons rfl (.cons rfl (.cons rfl (.cons rfl .nil))))) (by simp only; rw [← hvc]; exact .cons _ (.cons _ (List.Sublist.refl _))) (fun _ _ h => h)
    · try simp only [ZZ] at h12
      refine JL (Jn ?_); refine Jn (J3 (hK8 ?_)); refine sQ fun _ hK24 => sQ fun _ hK25 => ?_
      have hiM : i = yitems.length := by omega
      have hvl : acs.length = i := by have := congrArg List.length her; simp at this; omega
      rw [hiM, List.take_length] at her
      have hvr : JE i row = KU acs.length (Vi row) := by rw [← hvl]; exact (Wc _ _ (fun h => by rw [h] at hrow; rw [hvl]; exact hrow.1)).symm
      rw [hvr]; rw [← hvl] at hrow
      have hsin : StL.In (JX 34 (jr acs) row ++ E) ⟨acs, Vi row⟩ := Jum hrow (by omega) hin
      have hck : Qm (StL.er ⟨acs, Vi row⟩) = Qm (qm gv) := by show Qm (acs.map AcL.er) = _; rw [her, ← hby]
      refine Jb (LR rfl (J0 (vs := [_]) rfl (Ja (k := 0) rfl) rfl rfl rfl rfl) ?_)
      refine Ji (Rl := JX 34 (jr acs) row ++ E) rfl rfl rfl (enters_of Tryz.func19 (by kernel_rfl) rfl) (Wx (s := ⟨acs, Vi row⟩) hsin) (fun q hq => .inl (by rcases List.mem_append.1 hq with h | h <;> simp [h])) ?_; refine J1 (congrArg (Value.int .i64) hck) ?_; generalize hcz : Qm (qm gv) = ck at *; refine Jj rfl (nK hK25 ?_); refine sR fun _ hK26 => LS 2 [] rfl rfl (nK hK26 ?_); refine Jd rfl (fun h27 => ?_) (fun h27 => ?_)
      try simp only [ZZ] at h27
      refine sR fun _ hK28 => ?_; refine LR rfl (JJ (r := [_]) rfl rfl) ?_; refine Jj rfl ?_
      refine LT 2 rfl rfl (Jj rfl ?_); refine nK hK28 (Jc (Jf ?_)); refine Jx rfl rfl (.cons (JA (vs := [_]) rfl (Ja (k := 2) rfl) rfl rfl) (.cons (J4 rfl) .nil)) (fun w1 hs1 => ?_); exact ⟨⟨st0L, ck, [], wa, by rw [hPb hge (by assumption)]; rfl⟩, rfl, hs1.weakL (List.nil_sublist _)⟩
      · try simp only [ZZ] at h27
        refine Jg (hK24 ?_); refine sR fun _ hK29 => ?_; refine LR rfl (J0 (vs := [_]) rfl (Ja (k := 0) rfl) rfl rfl rfl rfl) ?_
        refine LT 2 rfl rfl (Jj rfl ?_); refine nK hK29 (Jc ?_); refine Jx rfl rfl (.cons (JA (vs := [_]) rfl (Ja (k := 2) rfl) rfl rfl) (.cons (J4 rfl) .nil)) (fun w1 hs1 => ?_); exact ⟨⟨⟨acs, Vi row⟩, 0, JX 34 (jr acs) row ++ E, by simpa using hsin, by rw [hPc hge (by assumption)]; show (acs.map AcL.er, _) = _; rw [her, ← hby]⟩, rfl, hs1.weakL (.cons _ (.cons _ (.cons _ ((List.Sublist.refl _).append (List.sublist_append_left _ _)))))⟩
theorem Jrv {a : AcE} {k v : BS} (h : (Ws a k v).2 ≠ 0) : (Ws a k v).1 = a := by
  unfold Ws at h ⊢
  split
  · rfl
  · split
    · rfl
    · split
      · rfl
      · rename_i h1 h2 h3
        rw [if_neg h1, if_neg h2, if_neg h3] at h; exact absurd rfl h
theorem Joh {l : List (BS × BS)} {k v : BS} (h : KE Prod.fst l) : (KR l k v).length ≤ l.length + 1 := by
  unfold KR
  split
  · exact Nat.le_trans (List.length_filter_le _ _) (Nat.le_succ _)
  · rw [xt h]
    split <;> omega
theorem Joi {a : AcE} {k v : BS} (h : (Ws a k v).2 = 0) : KB (Ws a k v).1 k = v ∧ (∀ j, k ≠ j → KB (Ws a k v).1 j = KB a j) ∧ Qm [(Ws a k v).1] = 0 ∧ (Ws a k v).1.addr = a.addr ∧ (Ws a k v).1.nonce = a.nonce ∧ (Ws a k v).1.bal = a.bal ∧ (Ws a k v).1.code = a.code ∧ (Ws a k v).1.slots.length ≤ a.slots.length + 1 := by
  obtain ⟨h1, h2, h3, h4, h5⟩ := Jtj h
  have hs := (W1 h1).2.2.1
  rw [h5]; exact ⟨by rw [jY hs, if_pos rfl], fun j hj => by rw [jY hs, if_neg hj], by rw [chk_one]; exact Jf8 h1 h2 h3 h4, rfl, rfl, rfl, rfl, Joh hs⟩
def VC : BS := List.replicate 32 0
def Zd : BS := List.replicate 31 0 ++ [7]
def a0W : AcE := ⟨List.replicate 20 0, 1, ⟨5, 0, 0, 0⟩, [99], []⟩
def jJ : AcE := ⟨List.replicate 20 0, 1, ⟨5, 0, 0, 0⟩, [99], [(VC, Zd)]⟩
theorem Jw8 : Ws a0W VC Zd = (jJ, 0) := by decide +kernel
theorem Jw9 : Jpx [] jJ = ([jJ], 0) := by decide +kernel
theorem Jv5 : (WS [jJ]).2 = 0 ∧ (WS [jJ]).1.length = 137 := by decide +kernel
theorem Jxa : WS [] = ([], 0) := by decide +kernel
theorem Jxb : Zc (WS [jJ]).1 = ([jJ], 0) := by decide +kernel
theorem Jxc : Ws jJ VC VC = (a0W, 0) := by decide +kernel
theorem Jv6 : KB jJ VC = Zd ∧ KB a0W VC = VC := by decide +kernel
theorem Jur : Qm [jJ] = 0 ∧ Qm [ac0] = 2 := by decide +kernel
theorem Jxd : V8 [jJ] a0W.addr = some jJ := by decide +kernel
theorem Jv7 : Vs QR (XR []) = 0 ∧ Vs QR (XR [jJ]) = 0 := by decide +kernel
def Q1 : BS := [173, 50, 40, 182, 118, 247, 211, 205, 66, 132, 165, 68, 63, 23, 241, 150, 43, 54, 228, 145, 179, 10, 64, 178, 64, 88, 73, 229, 151, 186, 95, 181]
def Q2 : BS := [180, 193, 25, 81, 149, 124, 111, 143, 100, 44, 74, 246, 28, 214, 178, 70, 64, 254, 198, 220, 127, 198, 7, 238, 130, 6, 169, 158, 146, 65, 13, 48]
def Q3 : BS := [33, 221, 185, 163, 86, 129, 92, 63, 172, 16, 38, 182, 222, 197, 223, 49, 36, 175, 186, 219, 72, 92, 155, 165, 163, 227, 57, 138, 4, 183, 186, 133]
def Q4 : BS := [229, 135, 105, 179, 42, 27, 234, 241, 234, 39, 55, 90, 68, 9, 90, 13, 31, 182, 100, 206, 45, 211, 88, 231, 252, 191, 183, 140, 38, 161, 147, 68]
def Q5 : BS := [14, 176, 30, 191, 201, 237, 39, 80, 12, 212, 223, 201, 121, 39, 45, 31, 9, 19, 204, 159, 102, 84, 13, 126, 128, 5, 129, 17, 9, 225, 207, 45]
def Q6 : BS := [96, 77, 89, 36, 103, 234, 171, 101, 127, 86, 19, 141, 165, 3, 154, 226, 46, 200, 192, 119, 115, 164, 178, 43, 215, 43, 143, 81, 243, 38, 157, 220]
def P99 : BS := [99, 0, 0, 0, 0, 0, 0, 0, 0, 0, 0, 0, 0, 0, 0, 0, 0, 0, 0, 0, 0, 0, 0, 0, 0, 0, 0, 0, 0, 0, 0, 0]
def PK : BS := [0, 0, 0, 0, 0, 0, 0, 0, 0, 0, 0, 0, 0, 0, 0, 0, 0, 0, 0, 0, 0, 0, 0, 0, 0, 0, 0, 0, 0, 0, 0, 0]
def PV : BS := [0, 0, 0, 0, 0, 0, 0, 0, 0, 0, 0, 0, 0, 0, 0, 0, 0, 0, 0, 0, 0, 0, 0, 0, 0, 0, 0, 0, 0, 0, 0, 7]
def PA : BS := [0, 0, 0, 0, 0, 0, 0, 0, 0, 0, 0, 0, 0, 0, 0, 0, 0, 0, 0, 0, 0, 0, 0, 0, 0, 0, 0, 0, 0, 0, 0, 0]
def PN : BS := [1, 0, 0, 0, 0, 0, 0, 0, 0, 0, 0, 0, 0, 0, 0, 0, 0, 0, 0, 0, 0, 0, 0, 0, 0, 0, 0, 0, 0, 0, 0, 0]
def PB : BS := [5, 0, 0, 0, 0, 0, 0, 0, 0, 0, 0, 0, 0, 0, 0, 0, 0, 0, 0, 0, 0, 0, 0, 0, 0, 0, 0, 0, 0, 0, 0, 0]
def Q7 : BS := [128, 254, 150, 100, 183, 3, 234, 100, 255, 5, 28, 105, 143, 172, 232, 125, 162, 79, 15, 193, 202, 27, 191, 186, 36, 126, 5, 43, 158, 34, 177, 205]
def Q8 : BS := [12, 143, 253, 230, 89, 92, 177, 101, 195, 65, 172, 208, 17, 208, 134, 148, 105, 130, 245, 12, 127, 155, 223, 118, 245, 87, 156, 192, 149, 130, 164, 20]
def Q9 : BS := [231, 246, 47, 82, 53, 130, 220, 255, 58, 248, 170, 101, 254, 92, 10, 94, 129, 224, 115, 51, 214, 167, 236, 16, 87, 100, 76, 60, 193, 22, 77, 189]
def Q10 : BS := [62, 120, 232, 158, 100, 195, 92, 170, 194, 97, 28, 191, 252, 174, 252, 159, 248, 79, 56, 159, 46, 150, 149, 73, 15, 76, 171, 79, 8, 134, 182, 49]
def Q11 : BS := [159, 191, 115, 214, 144, 225, 62, 161, 22, 15, 4, 77, 135, 125, 79, 179, 121, 216, 64, 99, 137, 162, 186, 191, 199, 253, 71, 153, 77, 133, 6, 62]
def Q12 : BS := [109, 82, 87, 32, 78, 190, 125, 136, 253, 145, 174, 135, 148, 28, 178, 221, 157, 128, 98, 182, 74, 229, 162, 189, 45, 40, 236, 64, 185, 251, 246, 223]
def Q13 : BS := [219, 84, 93, 126, 90, 22, 97, 214, 219, 12, 175, 14, 24, 35, 121, 19, 96, 147, 115, 67, 116, 140, 18, 143, 200, 28, 219, 18, 126, 175, 208, 40]
def Q14 : BS := [23, 242, 83, 39, 154, 106, 105, 48, 122, 17, 49, 169, 103, 30, 223, 237, 241, 103, 177, 103, 204, 94, 81, 103, 51, 252, 125, 148, 139, 186, 173, 45]
def Q15 : BS := [52, 223, 211, 179, 13, 160, 50, 23, 248, 175, 8, 3, 182, 4, 200, 151, 161, 119, 191, 139, 113, 79, 167, 155, 96, 200, 79, 82, 8, 239, 145, 74]
def Q16 : BS := [186, 37, 126, 111, 240, 170, 21, 181, 16, 119, 161, 166, 87, 169, 48, 133, 3, 137, 27, 65, 143, 247, 91, 85, 73, 120, 43, 235, 92, 122, 96, 239]
def Q17 : BS := [180, 173, 121, 44, 79, 132, 42, 240, 211, 151, 148, 221, 8, 138, 131, 255, 77, 30, 250, 106, 90, 143, 30, 18, 161, 252, 51, 238, 73, 69, 76, 177]
def Q18 : BS := [84, 232, 13, 242, 58, 159, 134, 25, 68, 76, 175, 139, 251, 62, 114, 226, 64, 114, 104, 255, 38, 198, 163, 22, 62, 224, 158, 73, 64, 114, 159, 201]
def Q19 : BS := [115, 202, 162, 40, 166, 138, 128, 42, 134, 248, 234, 146, 132, 24, 105, 205, 223, 138, 177, 25, 35, 114, 55, 117, 208, 134, 150, 85, 151, 188, 191, 229]
def Q20 : BS := [180, 10, 97, 218, 138, 109, 67, 207, 163, 113, 133, 201, 96, 160, 57, 16, 63, 175, 109, 127, 187, 77, 142, 232, 170, 181, 195, 67, 58, 55, 225, 169]
def Q21 : BS := [253, 23, 46, 35, 170, 157, 49, 24, 12, 247, 30, 169, 0, 87, 50, 185, 216, 5, 140, 215, 36, 182, 139, 203, 0, 33, 239, 230, 200, 70, 39, 49]
def Q22 : BS := [244, 78, 169, 243, 102, 83, 141, 100, 144, 182, 111, 119, 6, 61, 2, 212, 232, 28, 167, 44, 206, 184, 74, 212, 24, 116, 209, 86, 62, 76, 252, 225]
def Q23 : BS := [9, 105, 40, 196, 205, 136, 217, 62, 206, 76, 176, 220, 112, 142, 1, 36, 83, 196, 135, 68, 65, 28, 63, 234, 254, 89, 74, 34, 119, 48, 210, 228]
def Q24 : BS := [88, 211, 15, 198, 238, 204, 186, 245, 5, 111, 150, 205, 215, 28, 56, 16, 233, 35, 194, 185, 183, 143, 241, 68, 99, 169, 24, 34, 58, 107, 231, 130]
def Q25 : BS := [181, 114, 115, 158, 66, 182, 22, 134, 105, 251, 139, 3, 221, 144, 86, 197, 8, 77, 55, 53, 110, 249, 221, 86, 58, 43, 248, 36, 64, 34, 148, 171]
def Q26 : BS := [52, 127, 120, 91, 102, 123, 138, 53, 132, 85, 67, 94, 157, 185, 194, 118, 141, 49, 10, 26, 63, 78, 145, 197, 145, 212, 176, 30, 206, 94, 6, 183]
def Q27 : BS := [135, 195, 149, 32, 136, 174, 247, 12, 19, 129, 47, 222, 135, 39, 233, 95, 192, 198, 12, 79, 85, 128, 196, 204, 132, 162, 119, 43, 49, 122, 252, 83]
def Q28 : BS := [204, 113, 241, 227, 0, 55, 44, 218, 77, 42, 78, 41, 79, 110, 129, 142, 159, 90, 155, 61, 22, 163, 210, 15, 17, 201, 135, 63, 61, 32, 192, 95]
def Q29 : BS := [211, 5, 113, 100, 174, 43, 94, 143, 48, 107, 194, 22, 250, 134, 93, 174, 214, 17, 81, 90, 35, 252, 254, 108, 57, 144, 147, 130, 70, 243, 107, 235]
theorem hq1 : WL (z32 ++ z32) = Q1 := by decide +kernel
theorem hq2 : WL (Q1 ++ Q1) = Q2 := by decide +kernel
theorem hq3 : WL (Q2 ++ Q2) = Q3 := by decide +kernel
theorem hq4 : WL (Q3 ++ Q3) = Q4 := by decide +kernel
theorem hq5 : WL (Q4 ++ Q4) = Q5 := by decide +kernel
theorem hq6 : XQ Q5 0 = Q6 := by decide +kernel
theorem hq7 : WL (P99 ++ z32) = Q7 := by decide +kernel
theorem hq8 : WL (Q7 ++ Q1) = Q8 := by decide +kernel
theorem hq9 : WL (Q8 ++ Q2) = Q9 := by decide +kernel
theorem Jxj : WL (Q9 ++ Q3) = Q10 := by decide +kernel
theorem Jxk : XQ Q10 1 = Q11 := by decide +kernel
theorem Jxl : WL (PK ++ PV) = Q12 := by decide +kernel
theorem Jxm : WL (Q12 ++ z32) = Q13 := by decide +kernel
theorem Jxn : WL (Q13 ++ Q1) = Q14 := by decide +kernel
theorem Jxo : WL (Q14 ++ Q2) = Q15 := by decide +kernel
theorem Jxp : WL (Q15 ++ Q3) = Q16 := by decide +kernel
theorem Jxq : XQ Q16 1 = Q17 := by decide +kernel
theorem Jxr : WL (PA ++ PN) = Q18 := by decide +kernel
theorem Jxs : WL (PB ++ Q11) = Q19 := by decide +kernel
theorem Jxt : WL (Q17 ++ z32) = Q20 := by decide +kernel
theorem Jxu : WL (Q18 ++ Q19) = Q21 := by decide +kernel
theorem Jxv : WL (Q20 ++ Q1) = Q22 := by decide +kernel
theorem Jxw : WL (Q21 ++ Q22) = Q23 := by decide +kernel
theorem Jxx : WL (Q23 ++ z32) = Q24 := by decide +kernel
theorem Jxy : WL (Q24 ++ Q1) = Q25 := by decide +kernel
theorem Jxz : WL (Q25 ++ Q2) = Q26 := by decide +kernel
theorem Jx0 : WL (Q26 ++ Q3) = Q27 := by decide +kernel
theorem Jx1 : WL (Q27 ++ Q4) = Q28 := by decide +kernel
theorem Jx2 : XQ Q28 1 = Q29 := by decide +kernel
theorem Yn (k : Nat) (a z : BS) : VI (k + 1) [a] z = VI k [WL (a ++ z)] (WL (z ++ z)) := rfl
theorem Jdl (k : Nat) (z : BS) : VI (k + 1) [] z = VI k [] (WL (z ++ z)) := rfl
theorem Jsu (k : Nat) (a b z : BS) : VI (k + 1) [a, b] z = VI k [WL (a ++ b)] (WL (z ++ z)) := by rw [VI]; simp [Qv, SL.pairUp]
theorem Jv8 (k : Nat) (a b c z : BS) : VI (k + 1) [a, b, c] z = VI k [WL (a ++ b), WL (c ++ z)] (WL (z ++ z)) := by rw [VI]; simp [Qv, SL.pairUp]
theorem Jv9 (k : Nat) (a b c d e z : BS) : VI (k + 1) [a, b, c, d, e] z = VI k [WL (a ++ b), WL (c ++ d), WL (e ++ z)] (WL (z ++ z)) := by rw [VI]; simp [Qv, SL.pairUp]
theorem Jdm (a z : BS) : VI 0 [a] z = a := rfl
theorem Jwa (z : BS) : VI 0 [] z = z := rfl
theorem Joj : KC (XR []) QR = Q6 := by
  have e1 : QY [] 32 = Q5 := by
    rw [← Y0 (by decide), show lg 32 = 5 by decide +kernel, Jdl, hq1, Jdl, hq2, Jdl, hq3, Jdl, hq4, Jdl, hq5, Jwa]
  unfold XR KL QR
  rw [WI, if_neg (by decide), if_pos rfl]
  unfold WR
  rw [if_neg (by decide), if_neg (by decide +kernel)]
  show XQ (QY [] 32) 0 = _
  rw [e1, hq6]
theorem zn {l : List Vl} {x : Ty} {n : Int} (hx : Xv x = false) : KC (KL l 0) (.mk 4 n none [x]) = XQ (QY (Kh l 4 0 [x] 0) n.toNat) l.length := by
  unfold KL
  rw [WI, if_neg (by decide), if_pos rfl]
  unfold WR
  rw [if_neg (by decide), if_neg (by rw [show [x].getD 0 default = x from rfl, hx]; decide)]
theorem Jdn {l : List Vl} {ins : List Ty} : KC (KL l 0) (.mk 7 0 none ins) = QY (Kh l 7 0 ins 0) ins.length := by
  unfold KL
  rw [WI, if_neg (by decide), if_neg (by decide), if_neg (by decide), if_neg (by decide), if_neg (by decide)]
  unfold WR
  rw [if_pos rfl]
theorem Jjb : KC (wM [99]) (WK 4 512) = Q11 := by
  have e1 : WR 4 512 [byT] [jA 99] (Kh [jA 99] 4 0 [byT] 0) = QY [P99] 16 := by
    unfold WR
    rw [if_neg (by decide), if_pos (by decide +kernel), show Y3 (WX [jA 99] ([byT].getD 0 default)) = [P99] by decide +kernel, show ((512 : Int).toNat * (JV ([byT].getD 0 default)).toNat + 31) / 32 = 16 by decide +kernel]
  have e2 : QY [P99] 16 = Q10 := by
    rw [← Y0 (by decide), show lg 16 = 4 by decide +kernel, Yn, hq7, hq1, Yn, hq8, hq2, Yn, hq9, hq3, Yn, Jxj, hq4, Jdm]
  unfold wM KL WK
  rw [WI, if_neg (by decide), if_pos rfl]
  show XQ (WR 4 512 [byT] [jA 99] (Kh [jA 99] 4 0 [byT] 0)) 1 = _
  rw [e1, e2, Jxk]
theorem Jok : KC (wM VC) (WK 3 32) = PK := by decide +kernel
theorem Jol : KC (wM Zd) (WK 3 32) = PV := by decide +kernel
theorem Jom : KC (wM (List.replicate 20 0)) (WK 3 20) = PA := by decide +kernel
theorem Jjc : KC (jC (VC, Zd)) qk = Q12 := by
  unfold jC qk
  rw [Jdn]
  show QY [KC (wM VC) (WK 3 32), KC (wM Zd) (WK 3 32)] 2 = _
  rw [Jok, Jol, ← Y0 (by decide), show lg 2 = 1 by decide +kernel, Jsu, Jxl, Jdm]
theorem Je8 : KC (KL [jC (VC, Zd)] 0) (.mk 4 16 none [qk]) = Q17 := by
  rw [zn (by decide +kernel)]
  show XQ (QY [KC (jC (VC, Zd)) qk] 16) 1 = _
  rw [Jjc, ← Y0 (by decide), show lg 16 = 4 by decide +kernel, Yn, Jxm, hq1, Yn, Jxn, hq2, Yn, Jxo, hq3, Yn, Jxp, hq4, Jdm, Jxq]
theorem Jrw : KC (acV jJ) acT = Q23 := by
  unfold acV acT
  rw [Jdn]
  show QY [KC (wM (List.replicate 20 0)) (WK 3 20), KC (.mk 1 0 0 0 [] none [] none 0) (.mk 1 8 none []), KC (.mk 5 0 0 0 [] none [] none 0) (.mk 1 32 none []), KC (wM [99]) (WK 4 512), KC (KL [jC (VC, Zd)] 0) (.mk 4 16 none [qk])] 5 = _
  rw [Jom, Jjb, Je8, show KC (.mk 1 0 0 0 [] none [] none 0) (.mk 1 8 none []) = PN by decide +kernel, show KC (.mk 5 0 0 0 [] none [] none 0) (.mk 1 32 none []) = PB by decide +kernel, ← Y0 (by decide), show lg 5 = 3 by decide +kernel, Jv9, Jxr, Jxs, Jxt, hq1, Jv8, Jxu, Jxv, hq2, Jsu, Jxw, Jdm]
theorem Jon : KC (XR [jJ]) QR = Q29 := by
  unfold XR QR
  rw [zn (by decide +kernel)]
  show XQ (QY [KC (acV jJ) acT] 32) 1 = _
  rw [Jrw, ← Y0 (by decide), show lg 32 = 5 by decide +kernel, Yn, Jxx, hq1, Yn, Jxy, hq2, Yn, Jxz, hq3, Yn, Jx0, hq4, Yn, Jx1, hq5, Jdm, Jx2]
theorem Jx3 : jD [] = (Q6, 0) := by rw [Jdj (by decide +kernel) Jv7.1, Joj]
theorem Jx4 : jD [jJ] = (Q29, 0) := by rw [Jdj Jur.1 Jv7.2, Jon]
theorem Jx5 : Q6 ≠ Q29 := by decide +kernel
def ym : BS := List.replicate 20 0
def a0L : AcL := ⟨ym, 1, ⟨5, 0, 0, 0⟩, [99], [], none⟩
theorem Joo {R : Jr} : a0L.In R := ⟨by decide, by unfold X5; decide, ⟨by unfold X5; decide, Wi, Wi, Wi⟩, by decide, by decide, rfl, by simp [a0L]⟩
theorem X0 {a b : Bool} (h : a = b) : Value.bool a = .bool b := congrArg _ h
theorem Jwb {a b : BS} (h : a ≠ b) : (!decide (a = b)) = true := by simp [h]
theorem Jop {s : BS} {n : Nat} (h : s.length = n) : Value.int .i64 (s.length : Int) = .int .i64 (n : Int) := by rw [h]
theorem Jrx (r : Nat) : StL.In [(r, Obj.cells ac0L.cells.toArray 34 (0, 0))] ⟨[ac0L], some (⟨r, 0, none⟩, 1)⟩ :=
  ⟨by show 1 ≤ Wt; decide, ⟨Nat.le_refl _, fun _ => ⟨rfl, _, _, _, List.mem_singleton_self _, rfl⟩⟩, fun a ha => by rw [List.mem_singleton.1 ha]; exact Jle⟩
theorem Jx6 : wV (XR [jJ]) ≤ 20000 := by decide +kernel
set_option maxHeartbeats 2000000 in
theorem Jjd : Pure Tryz.prog 11 #[] (.bool true) := by
  have k1 : Ws a0L.er VC Zd = (jJ, 0) := Jw8
  have k2 := Jw9
  have k3 : V8 [jJ] ym = some jJ := Jxd
  have k4 := Jx6
  have k5 := Jxc
  have k6 := Jv6.1
  have k7 : KB a0L.er VC = VC := Jv6.2
  have k8 := Jur.1
  have k9 := Jur.2
  have hB := show WS [jJ] = ((WS [jJ]).1, 0) from Prod.ext rfl Jv5.1
  have htl := Jv5.2
  have hP := Jxb
  have hE := Jxa
  generalize (WS [jJ]).1 = tb at hB htl hP
  have hR0 := Jx3
  have hR1 := Jx4
  have hne := Jx5
  have hrl : Q29.length = 32 := by decide
  generalize Q6 = ra at hR0 hne
  generalize Q29 = rb at hR1 hne hrl
  refine JG Tryz.func11 rfl rfl fun w => ?_; refine sR fun _ hK1 => Jj rfl (nK hK1 ?_); refine sR fun _ hK2 => ?_; refine WU (n := 32) (b := 1) rfl rfl rfl rfl rfl rfl rfl rfl rfl (by decide) (by decide) fun rk => ?_; rw [show List.replicate 32 (Value.int .u8 0) = (VC).map bV from rfl]; refine LR rfl (QO (b := VC) (row := some (rk, 32, [])) (e := 5) (show _ = some (JE (List.length VC) _) from rfl) ⟨rfl, rfl⟩ (fun p hp => .inl (by rw [List.mem_singleton.1 hp, List.append_nil]; exact List.mem_cons_self)) rfl rfl rfl) ?_; refine Jj rfl (nK hK2 ?_); refine sR fun _ hK3 => ?_; refine Jj rfl (LR rfl (V4 (kl := some (.i64, 1)) (kh := none) (m := 1) (n := 32) rfl rfl rfl rfl rfl rfl (by decide) (by decide) (show _ = List.replicate 31 0 from rfl)) (LR rfl (Vy (a := List.replicate 31 0) (b := [7]) rfl rfl (by decide)) ?_)); refine J1 (show _ = J5 Zd from rfl) ?_; refine Jj rfl (nK hK3 ?_); refine sR fun _ hK4 => ?_; refine WU (n := 20) (b := 1) rfl rfl rfl rfl rfl rfl rfl rfl rfl (by decide) (by decide) fun rz => ?_; rw [show List.replicate 20 (Value.int .u8 0) = (ym).map bV from rfl]; refine LR rfl (QO (b := ym) (row := some (rz, 20, [])) (e := 5) (show _ = some (JE (List.length ym) _) from rfl) ⟨rfl, rfl⟩ (fun p hp => .inl (by rw [List.mem_singleton.1 hp, List.append_nil]; exact List.mem_cons_self)) rfl rfl rfl) ?_; refine LR rfl (JJ (r := [_, _, _, _]) rfl rfl) ?_; refine LR rfl (JJ (r := [_, _, _, _, _, _, _, _]) rfl rfl) ?_; refine Js (cs := #[_, _, _, _, _, _, _, _]) rfl rfl rfl rfl fun r1 => ?_; refine J2 (k := 0) (n := 8) (ys := (a0L).cells) rfl rfl rfl rfl rfl rfl rfl rfl rfl ?_; refine nK hK4 (sR fun _ hK5 => ?_); refine LR rfl (Ju (xs := (a0L).cells) (n := 8) rfl (Ja (k := 0) rfl) rfl rfl rfl) ?_; refine LS 2 [] rfl rfl ?_; refine Qn rfl rfl rfl (enters_of Tryz.func25 (by kernel_rfl) rfl) (Jn3 (R := []) Joo VC Zd) (fun q hq => nomatch hq) fun x => ?_; refine KH List.perm_append_comm ?_
  obtain ⟨xa, xe, xL, xok, xeq⟩ := x
  obtain ⟨hxa, rfl⟩ : xa.er = jJ ∧ xe = 0 := by have := xeq.trans k1; exact Prod.mk.inj this
  have xok : xa.In xL := by simpa using xok
  change HL _ _ ((37, .tuple #[xa.val, .int .i64 0]) :: _) (_ :: _ :: _ :: xL) _ _ _ _; refine LS 3 [] rfl rfl ?_; refine Js (cs := #[_, _, _, _, _, _, _, _]) rfl rfl rfl rfl fun r2 => ?_; refine J2 (k := 0) (n := 8) (ys := (xa).cells) rfl rfl rfl rfl rfl rfl rfl rfl rfl ?_; refine Jj rfl (nK hK5 ?_); refine sR fun _ hK6 => ?_; refine LR rfl (JJ (r := [_]) rfl rfl) ?_; refine LR rfl (Ju (xs := (xa).cells) (n := 8) rfl (Ja (k := 0) rfl) rfl rfl rfl) ?_; refine Qn rfl rfl rfl (enters_of Tryz.func23 (by kernel_rfl) rfl) (Jv3 (R := xL) (s := st0L) wa xok) (fun q hq => .inl (by simp [hq])) fun y => ?_; refine KH (Jam _ [_, _, _, _] xL) ?_
  obtain ⟨ys, ye, yL, yok, yeq⟩ := y
  obtain ⟨hys, rfl⟩ : ys.er = [jJ] ∧ ye = 0 := by have := yeq.trans ((congrArg (Jpx []) hxa).trans k2); exact Prod.mk.inj this
  change HL _ _ ((43, .tuple #[ys.val, .int .i64 0]) :: _) (_ :: _ :: _ :: _ :: (yL ++ xL)) _ _ _ _; refine LS 3 [] rfl rfl ?_; refine Js (cs := #[_]) rfl rfl rfl rfl fun r3 => ?_; refine J2 (k := 0) (n := 1) (ys := (ys).cells) rfl rfl rfl rfl rfl rfl rfl rfl rfl ?_; refine Jj rfl (nK hK6 ?_); refine sR fun _ hK7 => ?_; refine LR rfl (Ju (xs := (ys).cells) (n := 1) rfl (Ja (k := 0) rfl) rfl rfl rfl) ?_; refine LS 2 [2] rfl rfl ?_
  refine Ji rfl rfl rfl (enters_of Tryz.func14 (by kernel_rfl) rfl) (Jud (R := yL ++ xL) yok ym) (fun q hq => .inl (by simp only [List.mem_append] at hq; rcases hq with h | h <;> simp [h])) ?_
  have hcf : WO ys ym = true := by rw [Jlq, hys, k3]; rfl
  have hce : (Wb ys ym).er = jJ := by rw [Jp6, hys, k3]; rfl
  have hci := Jp7 yok ym
  rw [hcf]
  generalize Wb ys ym = ca at hce hci ⊢
  refine LS 3 [] rfl rfl ?_; refine Js (cs := #[_, _, _, _, _, _, _, _]) rfl rfl rfl rfl fun r4 => ?_; refine J2 (k := 0) (n := 8) (ys := (ca).cells) rfl rfl rfl rfl rfl rfl rfl rfl rfl ?_; refine Jj rfl (nK hK7 ?_); refine sR fun _ hK8 => ?_; refine LR rfl (Ju (xs := (ys).cells) (n := 1) rfl (Ja (k := 1) rfl) rfl rfl rfl) ?_
  refine Ji rfl rfl rfl (enters_of Tryz.func27 (by kernel_rfl) rfl) (zm (R := yL ++ xL) yok (fun _ => by rw [hys]; exact k4)) (fun q hq => .inl (by simp only [List.mem_append] at hq; rcases hq with h | h <;> simp [h])) ?_; refine J1 ((congrArg ZB (by rw [hys]; exact hB) : _ = ZB (tb, 0))) ?_; refine LS 5 [] rfl rfl (nK hK8 ?_); refine sR fun _ hK9 => Jj rfl (Qn rfl rfl rfl (enters_of Tryz.func31 (by kernel_rfl) rfl) (Jja tb) (fun q hq => nomatch hq) fun u => (KH (Jam _ [_, _, _, _, _, _] _) ?_))
  obtain ⟨us, ue, uL, uok, ueq⟩ := u
  obtain ⟨hus, rfl⟩ : us.er = [jJ] ∧ ue = 0 := by have := ueq.trans hP; exact Prod.mk.inj this
  have uok : us.In uL := by simpa using uok
  change HL _ _ ((60, .tuple #[us.val, .int .i64 0]) :: _) (_ :: _ :: _ :: _ :: _ :: _ :: (uL ++ (yL ++ xL))) _ _ _ _; refine LS 3 [] rfl rfl ?_; refine Js (cs := #[_]) rfl rfl rfl rfl fun r5 => ?_; refine J2 (k := 0) (n := 1) (ys := (us).cells) rfl rfl rfl rfl rfl rfl rfl rfl rfl ?_; refine Jj rfl (nK hK9 ?_); refine sR fun _ hK10 => ?_; refine LR rfl (JJ (r := [_]) rfl rfl) ?_; refine Ji rfl rfl rfl (enters_of Tryz.func27 (by kernel_rfl) rfl) (zm (R := []) (s := st0L) wa (fun _ => by decide +kernel)) (fun q hq => nomatch hq) ?_; refine J1 ((congrArg ZB hE : _ = ZB ([], 0))) ?_; refine LS 5 [] rfl rfl (nK hK10 ?_); refine sR fun _ hK11 => ?_; refine LR rfl (Ju (xs := (xa).cells) (n := 8) rfl (Ja (k := 3) rfl) rfl rfl rfl) ?_; refine LS 2 [] rfl rfl ?_; refine Qn rfl rfl rfl (enters_of Tryz.func25 (by kernel_rfl) rfl) (Jn3 (R := xL) xok VC VC) (fun q hq => .inl (by simp [hq])) fun z => ?_; refine KH (Jam _ [_, _, _, _, _, _, _] _) ?_
  obtain ⟨da, de, dL, dok, deq⟩ := z
  obtain ⟨hda, rfl⟩ : da.er = a0W ∧ de = 0 := by have := deq.trans ((congrArg (fun e => Ws e VC VC) hxa).trans k5); exact Prod.mk.inj this
  change HL _ _ ((72, .tuple #[da.val, .int .i64 0]) :: _) (_ :: _ :: _ :: _ :: _ :: _ :: _ :: (dL ++ (uL ++ (yL ++ xL)))) _ _ _ _; refine LS 3 [] rfl rfl ?_; refine Js (cs := #[_, _, _, _, _, _, _, _]) rfl rfl rfl rfl fun r6 => ?_; refine J2 (k := 0) (n := 8) (ys := (da).cells) rfl rfl rfl rfl rfl rfl rfl rfl rfl ?_; refine Jj rfl (nK hK11 ?_); refine sR fun _ hK12 => ?_; refine LR rfl (Ju (xs := (ys).cells) (n := 1) rfl (Ja (k := 3) rfl) rfl rfl rfl) ?_
  refine Ji rfl rfl rfl (enters_of Tryz.func29 (by kernel_rfl) rfl) (Jdk (R := yL ++ xL) yok (fun _ => by rw [hys]; exact k4)) (fun q hq => .inl (by simp only [List.mem_append] at hq; rcases hq with h | h <;> simp [h])) ?_; refine J1 ((congrArg ZB (by rw [hys]; exact hR1) : _ = ZB (rb, 0))) ?_; refine LS 5 [] rfl rfl (nK hK12 ?_); refine sR fun _ hK13 => ?_; refine LR rfl (JJ (r := [_]) rfl rfl) ?_; refine Ji rfl rfl rfl (enters_of Tryz.func29 (by kernel_rfl) rfl) (Jdk (R := []) (s := st0L) wa (fun _ => by decide +kernel)) (fun q hq => nomatch hq) ?_; refine J1 ((congrArg ZB hR0 : _ = ZB (ra, 0))) ?_; refine LS 5 [] rfl rfl (nK hK13 ?_); refine sR fun _ hK14 => ?_; refine LR rfl (Ju (xs := (ca).cells) (n := 8) rfl (Ja (k := 2) rfl) rfl rfl rfl) ?_; refine LR rfl (Ju (xs := (xa).cells) (n := 8) rfl (Ja (k := 4) rfl) rfl rfl rfl) ?_
  refine Ji rfl rfl rfl (enters_of Tryz.func16 (by kernel_rfl) rfl) (ZM (R := yL ++ xL) hci (xok.mono fun q hq => List.mem_append_right _ hq)) (fun q hq => .inl (by simp only [List.mem_append] at hq; rcases hq with h | h <;> simp [h])) ?_; refine J1 (X0 (show decide (ca.er = xa.er) = true from decide_eq_true (hce.trans hxa.symm))) ?_; refine Jj rfl (nK hK14 ?_); refine sR fun _ hK15 => ?_; refine LR rfl (Ju (xs := (da).cells) (n := 8) rfl (Ja (k := 0) rfl) rfl rfl rfl) ?_; refine LR rfl (Ju (xs := (a0L).cells) (n := 8) rfl (Ja (k := 5) rfl) rfl rfl rfl) ?_
  refine Ji rfl rfl rfl (enters_of Tryz.func16 (by kernel_rfl) rfl) (ZM (R := dL ++ xL) dok (b := a0L) Joo) (fun q hq => .inl (by simp only [List.mem_append] at hq; rcases hq with h | h <;> simp [h])) ?_; refine J1 (X0 (show decide (da.er = a0L.er) = true from decide_eq_true (hda.trans rfl))) ?_; refine Jj rfl (nK hK15 ?_); refine sR fun _ hK16 => LS 13 [] rfl rfl ?_; refine LR rfl (Ju (xs := (ca).cells) (n := 8) rfl (Ja (k := 2) rfl) rfl rfl rfl) ?_; refine Jj rfl ?_
  refine Ji rfl rfl rfl (enters_of Tryz.func20 (by kernel_rfl) rfl) (wU (R := yL ++ xL) hci VC) (fun q hq => .inl (by simp only [List.mem_append] at hq; rcases hq with h | h <;> simp [h])) ?_; refine J1 (congrArg J5 (show KB ca.er VC = Zd by rw [hce]; exact k6)) ?_; refine Jj rfl (LR rfl (Vq (a := Zd) (b := Zd) rfl rfl) (J1 (X0 (show decide (Zd = Zd) = true from decide_eq_true rfl)) ?_)); refine LS 2 [] rfl rfl ?_; refine LR rfl (Ju (xs := (a0L).cells) (n := 8) rfl (Ja (k := 5) rfl) rfl rfl rfl) ?_; refine Jj rfl (Ji rfl rfl rfl (enters_of Tryz.func20 (by kernel_rfl) rfl) (wU (R := []) (a := a0L) Joo VC) (fun q hq => nomatch hq) (J1 (congrArg J5 (show KB a0L.er VC = VC from k7)) ?_)); refine Jj rfl (LR rfl (Vq (a := VC) (b := VC) rfl rfl) (J1 (X0 (show decide (VC = VC) = true from decide_eq_true rfl)) ?_)); refine LS 3 [] rfl rfl ?_; refine LR rfl (vC rfl rfl rfl) ?_; refine J1 (show _ = Value.int .i64 137 from Jop htl) ?_; refine LS 7 [] rfl rfl ?_; refine LR rfl (Ju (xs := (ys).cells) (n := 1) rfl (Ja (k := 3) rfl) rfl rfl rfl) ?_; refine LR rfl (Ju (xs := (us).cells) (n := 1) rfl (Ja (k := 1) rfl) rfl rfl rfl) ?_
  refine Ji rfl rfl rfl (enters_of Tryz.func21 (by kernel_rfl) rfl) (Jn6 (R := uL ++ (yL ++ xL)) (yok.mono fun q hq => List.mem_append_right _ hq) (uok.mono fun q hq => List.mem_append_left _ hq)) (fun q hq => .inl (by simp only [List.mem_append] at hq; rcases hq with h | h | h <;> simp [h])) ?_; refine J1 (X0 (show decide (ys.er = us.er) = true from decide_eq_true (hys.trans hus.symm))) ?_; refine LS 7 [] rfl rfl ?_; refine LR rfl (Vq (a := ([] : BS)) (b := ([] : BS)) rfl rfl) ?_; refine J1 (X0 (show decide (([] : BS) = ([] : BS)) = true from decide_eq_true rfl)) ?_; refine LS 14 [] rfl rfl ?_; refine LR rfl (vC rfl rfl rfl) ?_; refine J1 (show _ = Value.int .i64 32 from Jop hrl) ?_; refine LS 9 [] rfl rfl ?_; refine LR rfl (WV (a := ra) (b := rb) rfl rfl) ?_; refine J1 (X0 (Jwb hne)) ?_; refine LS 6 [] rfl rfl ?_; refine LR rfl (Ju (xs := (ys).cells) (n := 1) rfl (Ja (k := 3) rfl) rfl rfl rfl) ?_
  refine Ji rfl rfl rfl (enters_of Tryz.func19 (by kernel_rfl) rfl) (Wx (R := yL ++ xL) yok) (fun q hq => .inl (by simp only [List.mem_append] at hq; rcases hq with h | h <;> simp [h])) ?_; refine J1 (congrArg (Value.int .i64) (show Qm ys.er = 0 by rw [hys]; exact k8)) ?_; refine LS 3 [] rfl rfl ?_; refine LR rfl (JJ (r := [_, _, _, _, _, _, _, _]) rfl rfl) ?_; refine Ka (vs := [_]) (zs := [_, _, _, _, _, _, _, _]) (r := ac0L.cells) rfl rfl rfl rfl rfl rfl rfl rfl rfl (by rw [Ku]; exact rfl) rfl fun rx => ?_; refine LR rfl (JJ (r := [_]) rfl rfl) ?_; refine Ji (Rl := [(rx, _)]) rfl rfl rfl (enters_of Tryz.func19 (by kernel_rfl) rfl) (Wx (s := ⟨[ac0L], some (⟨rx, 0, none⟩, 1)⟩) (Jrx rx)) (fun q hq => .inl (by rw [List.mem_singleton.1 hq]; exact List.mem_cons_self)) ?_; refine J1 (congrArg (Value.int .i64) (show Qm [ac0] = 2 from k9)) ?_; refine LS 3 [] rfl rfl (nK hK16 ?_); refine Jc (pT rfl rfl rfl fun w1 hs1 => ?_); exact ⟨rfl, hs1.keep⟩
section
open Go Go.ChangeShapes Go.WideShapes
variable {H : Type} {enc : TypeId × Value → H} {P : Program} {w : World} {base : Nat} {sp : Nat → Bool} {held : Bool}
theorem open_acV {tA tT tS tL tW tu tI : Nat} {fs fa : Array Field} (ht : P.underlying tT = some (.struct fs)) (hT : P.cellsOf tT = 2) (h0 : (fs[0]?).map (fun f => (f.type, f.offset)) = some (tS, 0)) (h1 : (fs[1]?).map (fun f => (f.type, f.offset)) = some (tS, 1)) (hS : P.underlying tS = some .string) (hSc : P.cellsOf tS = 1)
    (ha : P.underlying tA = some (.struct fa)) (hA : P.cellsOf tA = 8) (a0 : (fa[0]?).map (fun f => (f.type, f.offset)) = some (tS, 0)) (a1 : (fa[1]?).map (fun f => (f.type, f.offset)) = some (tI, 1)) (a2 : (fa[2]?).map (fun f => (f.type, f.offset)) = some (tW, 2)) (a3 : (fa[3]?).map (fun f => (f.type, f.offset)) = some (tS, 6)) (a4 : (fa[4]?).map (fun f => (f.type, f.offset)) = some (tL, 7))
    (hI : P.underlying tI = some (.int .u64)) (hIc : P.cellsOf tI = 1) (hW : P.underlying tW = some (.array 4 tu)) (hWc : P.cellsOf tW = 4) (hu : P.underlying tu = some (.int .u64)) (huc : P.cellsOf tu = 1) (hL : P.underlying tL = some (.slice tT)) (hLc : P.cellsOf tL = 1)
    {r : Reach} {b0 : Nat} {v : Value} {d : DataW H} {ps : List MemPlace} (hval : Value.okWide P w r b0 tA v) (hd : DataW.Trod enc P w base sp held tA v d ps) : ∃ a : AcL, v = a.val ∧ a.In (Jhq w) := by
  obtain ⟨fuel, h⟩ := hd
  generalize hcs : v.cells.toList = cs at h
  obtain ⟨a, e, hin⟩ := Jp2 ht hT h0 h1 hS hSc ha hA a0 a1 a2 a3 a4 hI hIc hW hWc hu huc hL hLc h
  exact ⟨a, Jb0 ha hval (hcs.trans e), hin⟩
end
end Go.Proofs.YteceenlfegnigaaGreatDoor
