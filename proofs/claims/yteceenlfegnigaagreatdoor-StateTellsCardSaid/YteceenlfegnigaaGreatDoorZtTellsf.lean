import Derived.Test.YteceenlfegnigaaGreatDoorZtTellse
set_option maxRecDepth 100000
namespace Go.Proofs.YteceenlfegnigaaGreatDoor
set_option linter.all false
open Go.SL Go.RowKit Go.Shelf
theorem Jxp {R : Jr} {rb e : Nat} (hb : (rb, Obj.cells #[fV 48] e (0, 0)) ∈ R) (x : (BS × BS)) (k : BS) : PureR Tryz.prog 110 [vS x, J2 k, .pointer (some ⟨rb, 0, none⟩)].toArray (.int .i64 (qS (Prod.fst x) k)) R := by
  refine Je Tryz.func110 rfl rfl fun w => ?_; refine sR fun _ hK1 => ?_; refine LN rfl fun r1 => ?_; refine Ji rfl (nK hK1 ?_); refine sR fun _ hK2 => ?_; refine LR rfl (Jm rfl (Or.inr hb) rfl rfl) ?_; refine LR rfl (Jx (vs := [_, _]) rfl (kn 0 rfl) rfl rfl rfl rfl) ?_; refine JD rfl rfl rfl Jql (Jam x) ?_; refine Ji rfl (JD rfl rfl rfl (enters_of Tryz.func106 (by kernel_rfl) rfl) (zq (Prod.fst x) k) (Ji rfl ?_)); refine nK hK2 (Jb ?_); refine pT rfl rfl rfl fun w1 hs1 => ?_; exact ⟨rfl, hs1.keep⟩
theorem Jjz {R : Jr} {xs : List (BS × BS)} {p : Pl} (hl : xs.length ≤ 1000) (hs : Seg R xs.length (xs.flatMap QU) p) (hso : KE Prod.fst xs) {k : BS} {g : FuncId} {caps : List Value} (eg : Enters Tryz.prog g) (hg : ∀ x ∈ xs, PureR Tryz.prog g (vS x :: J2 k :: caps).toArray (.int .i64 (qS (Prod.fst x) k)) R) :
    PureR Tryz.prog 109 [KM xs.length p, J2 k, .func (.func g) #[] caps.toArray].toArray (.tuple #[.int .i64 (ZU Prod.fst k xs : Nat), .bool (VQ Prod.fst k xs)]) R := by
  refine Je Tryz.func109 rfl rfl fun w => ?_; refine sR fun _ hK1 => LS 2 [] rfl rfl (nK hK1 ?_); refine sR fun _ hK2 => Ji rfl (LR rfl (J3 rfl hs rfl) (Ji rfl ?_)); refine nK hK2 (sR fun _ hK3 => ?_); refine LS 3 [] rfl rfl (nK hK3 ?_); refine sB fun _ hK4 => ?_; refine JG (σ := Nat × Nat) (fun s => (s.1 ≤ s.2 ∧ s.2 ≤ xs.length) ∧ (∀ q y, q < s.1 → xs[q]? = some y → Op.bytesLess (Prod.fst y) k = true) ∧ ∀ q y, s.2 ≤ q → xs[q]? = some y → Op.bytesLess (Prod.fst y) k = false) (fun s => [(0, KM xs.length p), (1, J2 k), (2, .func (.func g) #[] caps.toArray), (8, .int .i64 (xs.length : Int)), (9, .int .i64 (s.1 : Int)), (10, .int .i64 (s.2 : Int))]) (fun _ => []) (fun _ _ _ => True) (fun s => s.2 - s.1) (0, xs.length) ⟨⟨Nat.zero_le _, Nat.le_refl _⟩, fun q _ hq => absurd hq (Nat.not_lt_zero q), fun q y hq hy => absurd (List.getElem?_eq_some_iff.1 hy).1 (by omega)⟩ (.cons rfl (.cons rfl (.cons rfl (.cons rfl (.cons rfl (.cons rfl .nil)))))) (List.nil_sublist _) (fun _ _ h => h) ?_; rintro ⟨i, j⟩ ⟨⟨hi0, hj0⟩, hi1, hi2⟩; simp only at hi0 hj0 hi1 hi2; change HC _ _ [(0, _), (1, _), (2, _), (8, _), (9, .int .i64 (i : Int)), (10, .int .i64 (j : Int))] _ _ _ _; refine sQ fun _ hK5 => sR fun _ hK6 => ?_; refine LS 3 [] rfl rfl (nK hK6 ?_); refine Jc rfl (fun h7 => ?_) (fun h7 => ?_)
  try simp only [ZZ] at h7
  refine Jf (hK5 ?_); refine Ju (sR fun _ hK8 => (LS 3 [] rfl rfl ?_)); refine Jt (by omega) (by omega) ?_; refine JZ rfl (qx (by omega) (by omega) (LR rfl (vL (n := 1) (b := (((i + j) / 2 : Nat) : Int)) rfl rfl rfl (by decide) (by omega) (by omega)) ?_)); refine JZ rfl (Jt (by omega) (by omega) (Ji rfl ?_)); refine nK hK8 (sQ fun _ hK9 => ?_)
  obtain ⟨x, hx, hmx⟩ := QC (show (i + j) / 2 < xs.length by omega)
  refine Ja (LS 3 [] rfl rfl ?_)
  refine LR rfl (Jp (j := ((i + j) / 2)) rfl hs rfl rfl rfl (by first | rfl | omega) (by omega)) ?_; refine LR rfl (Ku JU (fun q hq => Or.inr hq) rfl hs hx rfl rfl) ?_; refine Ji rfl (Jh rfl rfl rfl eg (hg x hmx) (fun q hq => Or.inr hq) ?_); refine JZ rfl (Jy (congrArg Value.bool (Jgx (Prod.fst x) k)) ?_); refine nK hK9 ?_; refine Jc rfl (fun h10 => ?_) (fun h10 => ?_)
  try simp only [ZZ] at h10
  refine Ja (LS 2 [] rfl rfl (Jt (by omega) (by omega) ?_)); refine Ji rfl (Jg ?_); refine Jj (J5 ?_); exact J1 ((i + j) / 2 + 1, j) ⟨⟨by simp only; omega, hj0⟩, Jcd hso hx (by assumption), hi2⟩ (by simp only; omega) (.cons rfl (.cons rfl (.cons rfl (.cons rfl (.cons rfl (.cons rfl .nil)))))) (List.nil_sublist _) (fun _ _ h => h)
  try simp only [ZZ] at h10
  refine Ja (LS 2 [] rfl rfl (Jg ?_)); refine Jj (J5 ?_); exact J1 (i, (i + j) / 2) ⟨⟨by simp only; omega, by simp only; omega⟩, hi1, Jce hso hx (by assumption)⟩ (by simp only; omega) (.cons rfl (.cons rfl (.cons rfl (.cons rfl (.cons rfl (.cons rfl .nil)))))) (List.nil_sublist _) (fun _ _ h => h)
  · try simp only [ZZ] at h7
    refine JE (Jl ?_); refine Jl (J0 (hK4 ?_)); refine sQ fun _ hK11 => ?_
    have hij : i = j := by omega
    have hlo : i = ZU Prod.fst k xs := Jmw (by omega) hi1 (fun y hy => hi2 i y (by omega) hy)
    refine Ja (LS 5 [] rfl rfl ?_)
    refine JA 39 rfl (fun hb12 => ?_) (fun hb12 => ?_) <;> (try simp only [ZZ] at hb12) <;> first | (refine Ji rfl ?_) | (refine LK rfl ?_)
    all_goals refine LW 2 [] rfl rfl ?_
    all_goals first
      | (obtain ⟨x, hx, hmx⟩ := QC (show i < xs.length by omega); refine LR rfl (Jp (j := i) rfl hs rfl rfl rfl (by first | rfl | omega) (by omega)) ?_)
      | (refine LK rfl ?_)
    all_goals first
      | (refine LR rfl (Ku JU (fun q hq => Or.inr hq) rfl hs hx rfl rfl) ?_)
      | (refine LK rfl ?_)
    all_goals refine LW 1 [] rfl rfl ?_
    all_goals first
      | (refine Jh rfl rfl rfl eg (hg x hmx) (fun q hq => Or.inr hq) ?_)
      | (refine LK rfl ?_)
    all_goals first
      | (refine JZ rfl ?_; refine Jy (congrArg Value.bool (Jcc (Prod.fst x) k)) ?_)
      | (refine LK rfl ?_)
    all_goals refine LW 1 [] rfl rfl ?_
    all_goals refine LS 2 [] rfl rfl ?_
    all_goals refine Jg ?_
    all_goals (
     refine hK11 (Jb ?_); refine Jv rfl rfl (.cons (J4 rfl) (.cons (J4 rfl) .nil)) (fun w1 hs1 => ?_); refine ⟨?_, hs1.keep⟩
     first
       | (rw [← Jcf (kf := Prod.fst) (hlo ▸ hx), ← hlo]; rfl)
       | (rw [qh (kf := Prod.fst) (by omega), ← hlo]; rfl)
     skip)
theorem Jo7 {R : Jr} {xs : List (BS × BS)} {p : Pl} (hl : xs.length ≤ 1000) (hs : Seg R xs.length (xs.flatMap QU) p) (hso : KE Prod.fst xs) {k : BS} :
    PureR Tryz.prog 73 [KM xs.length p, J2 k, fV 48].toArray (.tuple #[.int .i64 (ZU Prod.fst k xs : Nat), .bool (VQ Prod.fst k xs)]) R := by
  refine Je Tryz.func73 rfl rfl fun w => ?_; refine sR fun _ hK1 => ?_; refine LN rfl fun r1 => ?_; refine LS 2 [] rfl rfl (nK hK1 ?_); refine sR fun _ hK2 => LS 2 [] rfl rfl ?_; refine LR rfl (Kv rfl rfl) ?_; refine Jh (Rl := (r1, Obj.cells #[fV 48] _ (0, 0)) :: R) rfl rfl rfl (enters_of Tryz.func109 (by kernel_rfl) rfl) (Jjz (caps := [.pointer (some ⟨r1, 0, none⟩)]) hl (hs.mono fun q hq => List.mem_cons_of_mem _ hq) hso (enters_of Tryz.func110 (by kernel_rfl) rfl) (fun x hx => Jxp List.mem_cons_self x k)) (fun q hq => (List.mem_cons.1 hq).elim (fun h => Or.inl (by rw [h]; exact List.mem_cons_self)) Or.inr) ?_; refine LS 4 [] rfl rfl (nK hK2 ?_); refine Jb ?_; refine Jv rfl rfl (.cons (J4 rfl) (.cons (J4 rfl) .nil)) (fun w1 hs1 => ?_); exact ⟨rfl, hs1.keep⟩
theorem Jo8 {R : Jr} {xs : List AcL} {p : Pl} (hl : xs.length ≤ 1000) (hs : Seg R xs.length (xs.flatMap AcL.cells) p) :
    PureT (α := { row : Vz // rowOk 8 xs.length (xs.flatMap AcL.cells) row }) Tryz.prog 71 [KM xs.length p].toArray (fun x => JF xs.length x.1) [] (fun x => JY 34 (xs.flatMap AcL.cells) x.1) R := by
  cases p with
  | none =>
    have h0 : xs = [] := List.length_eq_zero_iff.1 hs
    subst h0; refine JH Tryz.func71 rfl rfl fun w => ?_; refine sR fun _ hK1 => Ji rfl (nK hK1 ?_); refine sQ fun _ hK2 => sR fun _ hK3 => ?_; refine LS 2 [] rfl rfl (nK hK3 ?_); refine Jc rfl (fun h4 => ?_) (fun h4 => ?_)
    try simp only [ZZ] at h4
    refine sR fun _ hK5 => Ji rfl (nK hK5 ?_); refine Jb (Jd ?_); refine pT rfl rfl rfl fun w1 hs1 => ?_; exact ⟨⟨none, rfl, rfl⟩, rfl, hs1⟩
    try exact Bool.noConfusion h4
  | some q =>
    refine JH Tryz.func71 rfl rfl fun w => ?_; refine sR fun _ hK1 => Ji rfl (nK hK1 ?_); refine sQ fun _ hK2 => sR fun _ hK3 => ?_; refine LS 2 [] rfl rfl (nK hK3 ?_); refine Jc rfl (fun h4 => ?_) (fun h4 => ?_)
    try exact Bool.noConfusion h4
    · try simp only [ZZ] at h4
      refine Jf (hK2 ?_); refine sR fun _ hK6 => ?_; refine Xq rfl rfl rfl rfl fun r1 => ?_; refine Ji rfl (wo (k := 0) (b := 96) (sz := 8) rfl rfl rfl rfl rfl rfl hs (fun q hq => Or.inr hq) rfl rfl rfl rfl rfl (by decide) (KU AcL.len xs) (Y0 AcL.one xs) (by omega) (by omega) fun row hrow => (Ji rfl ?_)); refine nK hK6 (Jb ?_); refine pT rfl rfl rfl fun w1 hs1 => ?_; exact ⟨⟨row, hrow⟩, rfl, hs1.weakL (List.sublist_append_left _ _)⟩
theorem Jj0 {R : Jr} {xs : List AcL} {row : Vz} (hl : xs.length ≤ 1000) (hrow : rowOk 8 xs.length (xs.flatMap AcL.cells) row) {i : Nat} (hi : i ≤ xs.length) {y : AcL} {rv : Nat} (hv : (rv, Obj.cells (AcL.cells y).toArray 34 (0, 0)) ∈ R) :
    PureT (α := { row' : Vz // rowOk 8 (xs.length + 1) ((xs.take i ++ y :: xs.drop i).flatMap AcL.cells) row' }) Tryz.prog 72 [JF xs.length row, .int .i64 (i : Int), .slice (some ⟨rv, 0, none⟩) 1 1].toArray (fun x => JF (xs.length + 1) x.1) (JY 34 (xs.flatMap AcL.cells) row) (fun x => JY 34 ((xs.take i ++ y :: xs.drop i).flatMap AcL.cells) x.1) R := by
  obtain ⟨A, hA⟩ : ∃ A, A = (xs.take i).flatMap AcL.cells := ⟨_, rfl⟩
  obtain ⟨B, hB⟩ : ∃ B, B = (xs.drop i).flatMap AcL.cells := ⟨_, rfl⟩
  obtain ⟨n, hn⟩ : ∃ n, n = xs.length := ⟨_, rfl⟩
  have e1 : xs.flatMap AcL.cells = A ++ B := by rw [hA, hB, ← List.flatMap_append, List.take_append_drop]
  have e2 : (xs.take i ++ y :: xs.drop i).flatMap AcL.cells = A ++ (AcL.cells y ++ B) := by rw [List.flatMap_append, List.flatMap_cons, hA, hB]
  have lA : A.length = i * 8 := by rw [hA, KU AcL.len, List.length_take, Nat.min_eq_left hi]
  have lB : B.length = (n - i) * 8 := by rw [hB, KU AcL.len, List.length_drop, hn]
  have lF : (AcL.cells y).length = 8 := AcL.len y
  have oF : (AcL.cells y).all QR = true := AcL.one y
  have oA : A.all QR = true := by rw [hA]; exact Y0 AcL.one _
  have oB : B.all QR = true := by rw [hB]; exact Y0 AcL.one _
  rw [e1] at hrow; rw [e1, e2]; rw [← hn] at hl hi hrow ⊢; clear hA hB e1 e2 hn
  cases row with
  | none =>
    obtain ⟨rfl, hAB⟩ := hrow
    obtain rfl : i = 0 := by omega
    obtain ⟨rfl, rfl⟩ := List.append_eq_nil_iff.1 hAB
    refine JH Tryz.func72 rfl rfl fun w => ?_; refine sR fun _ hK1 => Ji rfl (nK hK1 ?_); refine sR fun _ hK2 => LS 3 [] rfl rfl (nK hK2 ?_); refine sR fun _ hK3 => Ji rfl (LR rfl (KI rfl rfl) (Ji rfl ?_)); refine nK hK3 (sQ fun _ hK4 => ?_); refine sR fun _ hK5 => LS 2 [] rfl rfl (nK hK5 ?_); refine Jc rfl (fun h6 => ?_) (fun h6 => ?_)
    try exact Bool.noConfusion h6
    try simp only [ZZ] at h6
    refine Jf (hK4 ?_); refine sR fun _ hK8 => Ji rfl (LR rfl (KI rfl rfl) (Ji rfl ?_)); refine nK hK8 (sQ fun _ hK9 => ?_); refine sR fun _ hK10 => LS 3 [] rfl rfl (nK hK10 ?_); refine Jc rfl (fun h11 => ?_) (fun h11 => ?_)
    try simp only [ZZ] at h11
    refine sR fun _ hK12 => LS 2 [] rfl rfl ?_; refine Wo (n := 0) (m := 1) (b := 96) (sz := 8) (news := AcL.cells y) (xs := []) (L0 := []) rfl rfl rfl rfl (Or.inr hv) rfl rfl rfl rfl rfl (by decide) rfl rfl oF (by decide) SlOwn.nil (by decide) (by decide) fun r1 cap1 sp1 hsp1 => ?_; refine Ji rfl (nK hK12 ?_); refine Jb (Jd ?_); refine pT rfl rfl rfl fun w1 hs1 => ?_; exact ⟨⟨some (r1, cap1, sp1), by simp [lF], hsp1⟩, rfl, by simpa [JY] using hs1⟩
    try exact Bool.noConfusion h11
  | some q =>
    obtain ⟨r, cap, sp⟩ := q
    obtain ⟨hr1, hr2⟩ := hrow
    have hcap : n ≤ cap := by omega
    refine JH Tryz.func72 rfl rfl fun w => ?_; change HC _ _ _ [(r, .cells ((A ++ B) ++ sp).toArray 34 (0, 0))] _ _ _; refine sR fun _ hK1 => Ji rfl (nK hK1 ?_); refine sR fun _ hK2 => LS 2 [] rfl rfl ?_; refine LR rfl (JR (m := i) (kl := some i) (kh := none) (km := none) (q := n) (z := cap) rfl rfl rfl ⟨_, rfl⟩ trivial trivial rfl rfl rfl (by omega) (by omega) (by omega) (fun _ => rfl) rfl) ?_; refine nK hK2 (sR fun _ hK3 => ?_); refine Ji rfl (LR rfl (KI rfl rfl) (Ji rfl ?_)); refine nK hK3 (sQ fun _ hK4 => ?_); refine sR fun _ hK5 => LS 2 [] rfl rfl (nK hK5 ?_); refine Jc rfl (fun h6 => ?_) (fun h6 => ?_)
    try exact Bool.noConfusion h6
    · try simp only [ZZ] at h6
      refine Jf (hK4 ?_); refine sR fun _ hK8 => Ji rfl (LR rfl (KI rfl rfl) (Ji rfl ?_)); refine nK hK8 (sQ fun _ hK9 => ?_); refine sR fun _ hK10 => LS 3 [] rfl rfl (nK hK10 ?_); refine Jc rfl (fun h11 => ?_) (fun h11 => ?_)
      try simp only [ZZ] at h11
      refine sR fun _ hK12 => LS 2 [] rfl rfl ?_
      obtain rfl : B = [] := List.length_eq_zero_iff.1 (by omega)
      refine Wo (n := n) (m := 1) (b := 96) (sz := 8) (news := AcL.cells y) (xs := A ++ []) (L0 := []) rfl rfl rfl rfl (Or.inr hv) rfl rfl rfl rfl rfl (by decide) rfl lF oF (by decide) (SlOwn.own (k := 0) rfl (by simp only [List.toList_toArray]; rw [List.take_left' hr1]) hr1 (by rw [List.size_toArray, List.length_append, hr1]; omega) rfl) (by omega) (by omega) fun r1 cap1 sp1 hsp1 => ?_; refine Ji rfl (nK hK12 ?_); refine Jb (Jd ?_); refine pT rfl rfl rfl fun w1 hs1 => ?_; exact ⟨⟨some (r1, cap1, sp1), by simp only [List.length_append, List.length_nil, lF]; omega, hsp1⟩, rfl, by simpa [JY] using hs1⟩
      · try simp only [ZZ] at h11
        refine Jf (hK9 ?_); refine sQ fun _ hK13 => sR fun _ hK14 => ?_; refine LS 3 [] rfl rfl ?_; refine Jt (by omega) (by omega) ?_; refine Ji rfl (LR rfl (Jgv rfl rfl) (JZ rfl ?_)); refine nK hK14 ?_; refine Jc rfl (fun h15 => ?_) (fun h15 => ?_)
        · try simp only [ZZ] at h15
          refine sR fun _ hK16 => LS 2 [] rfl rfl ?_
          refine LR rfl (JR (sz := 8) (q := i) (kl := none) (kh := some (i)) (km := none) (m := 0) (z := cap) (off' := 0) rfl rfl rfl trivial ⟨_, rfl⟩ trivial rfl rfl rfl (by omega) (by omega) (by omega) (fun h => by cases h) (by split <;> omega)) ?_; refine LS 3 [] rfl rfl ?_; refine Jt (by omega) (by omega) ?_; refine Ji rfl ?_
          refine JZ rfl ?_; refine Jy (show _ = Value.int .i64 ((n + 1 - i : Nat) : Int) from by rw [wrap_i64 (by omega) (by omega)]; congr 1 <;> omega) ?_; refine wh (r := r) (off := 0) (n := i) (cap := cap) (m := n + 1 - i) (sz := 8) (b := 96) (xs := A) rfl rfl rfl rfl (kn 0 rfl) rfl rfl rfl rfl rfl rfl (by decide) (by simp only [List.toList_toArray, List.drop_zero]; rw [List.append_assoc, List.take_left' lA]) lA (by omega) (by omega) (by omega) (by omega) (by omega) fun r2 cap2 Z sp2 hZ hsp2 => ?_; rw [show i + (n + 1 - i) = n + 1 by omega] at hsp2 ⊢
          obtain ⟨Z1, Z2, rfl, lZ1⟩ := cut (l := Z) (a := 8) (by omega)
          have lZ2 : Z2.length = (n - i) * 8 := by rw [List.length_append, lZ1] at hZ; omega
          rw [show A ++ (Z1 ++ Z2) ++ sp2 = A ++ (Z1 ++ (Z2 ++ sp2)) by simp only [List.append_assoc]]; refine Ji rfl (nK hK16 ?_); refine sR fun _ hK17 => LS 2 [] rfl rfl ?_; refine LR rfl (JR (sz := 8) (m := i) (kl := some (i)) (kh := none) (km := none) (q := n + 1) (z := cap2) (off' := i * 8) rfl rfl rfl ⟨_, rfl⟩ trivial trivial rfl rfl rfl (by omega) (by omega) (by omega) (fun _ => rfl) (by rw [if_neg (by omega)]; omega)) ?_; refine Ji rfl ?_
          refine XG (k := 0) (n := 1) (sz := 8) (vs := AcL.cells y) (cs' := A ++ (AcL.cells y ++ (Z2 ++ sp2))) rfl rfl rfl rfl rfl (Or.inr hv) rfl rfl (by simp only [Nat.min_def]; split <;> omega) rfl lF oF (by simp only [List.size_toArray, List.length_append]; omega) (Xs lA (by rw [lZ1])) rfl ?_; refine nK hK17 (sQ fun _ hK18 => ?_); refine Ka 8 (by kernel_rfl) (by kernel_rfl) ?_; refine Jk rfl rfl rfl (Jo rfl) ?_; refine Jk rfl rfl rfl (Jo rfl) ?_; refine Jk rfl rfl rfl (Jo rfl) ?_
          refine Jk rfl rfl rfl (J9 rfl rfl rfl) ?_; refine Qk (show _ = Value.int .i64 ((i + 1 : Nat) : Int) from by rw [wrap_i64 (by omega) (by omega)]; congr 1 <;> omega) ?_; refine Jk rfl rfl rfl (JR (sz := 8) (m := i + 1) (kl := some (i + 1)) (kh := none) (km := none) (q := n + 1) (z := cap2) (off' := (i + 1) * 8) rfl rfl rfl ⟨_, rfl⟩ trivial trivial rfl rfl rfl (by omega) (by omega) (by omega) (fun _ => rfl) (by rw [if_neg (by omega)]; omega)) ?_; refine Jk rfl rfl rfl (Jo rfl) ?_; refine Jk rfl rfl rfl (Jo rfl) ?_; refine Jk rfl rfl rfl (JR (sz := 8) (m := i) (kl := some (i)) (kh := none) (km := none) (q := n) (z := cap) (off' := i * 8) rfl rfl rfl ⟨_, rfl⟩ trivial trivial rfl rfl rfl (by omega) (by omega) (by omega) (fun _ => rfl) (by rw [if_neg (by omega)]; omega)) ?_; refine Kt ?_; rw [show A ++ (AcL.cells y ++ (Z2 ++ sp2)) = (A ++ AcL.cells y) ++ (Z2 ++ sp2) by simp only [List.append_assoc]]
          refine XG (k := 0) (n := n - i) (sz := 8) (vs := B) (cs' := (A ++ AcL.cells y) ++ (B ++ sp2)) rfl rfl rfl rfl rfl (kn 1 rfl) rfl rfl (by simp only [Nat.min_def]; split <;> omega) (by simp only [List.toList_toArray]; rw [List.append_assoc, List.drop_left' lA, List.take_left' lB]) lB oB (by simp only [List.size_toArray, List.length_append]; omega) (Xs (by rw [List.length_append, lA, lF]; omega) lZ2) rfl ?_; refine nK hK18 (sR fun _ hK19 => ?_); refine LS 2 [] rfl rfl (nK hK19 ?_); refine Jb (Jd ?_); refine pT rfl rfl rfl fun w1 hs1 => ?_; exact ⟨⟨some (r2, cap2, sp2), by simp only [List.length_append]; omega, hsp2⟩, rfl, hs1.weakL (by simp [JY])⟩
        · try simp only [ZZ] at h15
          refine Jf (hK13 ?_); refine sR fun _ hK20 => LS 3 [] rfl rfl ?_
          refine JZ rfl ?_; refine Jy (show _ = Value.int .i64 ((n + 1 : Nat) : Int) from by rw [wrap_i64 (by omega) (by omega)]; congr 1 <;> omega) ?_
          refine LR rfl (JR (sz := 8) (q := n + 1) (kl := none) (kh := some (n + 1)) (km := none) (m := 0) (z := cap) (off' := 0) rfl rfl rfl trivial ⟨_, rfl⟩ trivial rfl rfl rfl (by omega) (by omega) (by omega) (fun h => by cases h) (by split <;> omega)) ?_; refine Ji rfl (nK hK20 ?_); refine sQ fun _ hK21 => sR fun _ hK22 => ?_; refine LS 4 [] rfl rfl ?_
          refine JZ rfl ?_; refine Jy (show _ = Value.int .i64 ((i + 1 : Nat) : Int) from by rw [wrap_i64 (by omega) (by omega)]; congr 1 <;> omega) ?_; refine LR rfl (JR (sz := 8) (m := i + 1) (kl := some (i + 1)) (kh := none) (km := none) (q := n + 1) (z := cap) (off' := (i + 1) * 8) rfl rfl rfl ⟨_, rfl⟩ trivial trivial rfl rfl rfl (by omega) (by omega) (by omega) (fun _ => rfl) (by rw [if_neg (by omega)]; omega)) ?_; refine LR rfl (qE (k := 0) rfl rfl rfl hv rfl rfl rfl (by simp only [List.size_toArray, List.length_append]; omega) Tryz.func107 rfl rfl rfl rfl) ?_; refine JZ rfl (nK hK22 ?_); refine Jc rfl (fun h23 => ?_) (fun h23 => ?_)
          · try simp only [ZZ] at h23
            refine sQ fun _ hK24 => ?_; refine Ka 8 (by kernel_rfl) (by kernel_rfl) ?_; refine Jk rfl rfl rfl (Jo rfl) ?_; refine Jk rfl rfl rfl (Jo rfl) ?_; refine Jk rfl rfl rfl (Jo rfl) ?_
            refine Jk rfl rfl rfl (J9 rfl rfl rfl) ?_; refine Qk (show _ = Value.int .i64 ((i + 1 : Nat) : Int) from by rw [wrap_i64 (by omega) (by omega)]; congr 1 <;> omega) ?_; refine Jk rfl rfl rfl (JR (sz := 8) (m := i + 1) (kl := some (i + 1)) (kh := none) (km := none) (q := n + 1) (z := cap) (off' := (i + 1) * 8) rfl rfl rfl ⟨_, rfl⟩ trivial trivial rfl rfl rfl (by omega) (by omega) (by omega) (fun _ => rfl) (by rw [if_neg (by omega)]; omega)) ?_; refine Jk rfl rfl rfl (Jo rfl) ?_; refine Jk rfl rfl rfl (Jo rfl) ?_; refine Jk rfl rfl rfl (JR (sz := 8) (m := i) (kl := some (i)) (kh := none) (km := none) (q := n + 1) (z := cap) (off' := i * 8) rfl rfl rfl ⟨_, rfl⟩ trivial trivial rfl rfl rfl (by omega) (by omega) (by omega) (fun _ => rfl) (by rw [if_neg (by omega)]; omega)) ?_; refine Kt ?_
            obtain ⟨X1, X2, hX, lX1⟩ := cut (l := B ++ sp) (a := 8) (by rw [List.length_append]; omega)
            obtain ⟨X3, X4, rfl, lX3⟩ := cut (l := X2) (a := (n - i) * 8) (by have := congrArg List.length hX; simp only [List.length_append] at this; omega)
            rw [show (A ++ B) ++ sp = (A ++ X1) ++ (X3 ++ X4) by rw [List.append_assoc, hX]; simp only [List.append_assoc]]
            refine XG (k := 0) (n := n - i) (sz := 8) (vs := B) (cs' := (A ++ X1) ++ (B ++ X4)) rfl rfl rfl rfl rfl (kn 0 rfl) rfl rfl (by simp only [Nat.min_def]; split <;> omega) (by simp only [List.toList_toArray]; rw [List.append_assoc, List.drop_left' lA, ← hX, List.take_left' lB]) lB oB (by have := congrArg List.length hX; simp only [List.size_toArray, List.length_append] at this ⊢; omega) (Xs (by rw [List.length_append, lA, lX1]; omega) lX3) rfl ?_; refine nK hK24 (sR fun _ hK25 => ?_); refine LS 2 [] rfl rfl ?_; refine LR rfl (JR (sz := 8) (m := i) (kl := some (i)) (kh := none) (km := none) (q := n + 1) (z := cap) (off' := i * 8) rfl rfl rfl ⟨_, rfl⟩ trivial trivial rfl rfl rfl (by omega) (by omega) (by omega) (fun _ => rfl) (by rw [if_neg (by omega)]; omega)) ?_; refine Ji rfl ?_; rw [show (A ++ X1) ++ (B ++ X4) = A ++ (X1 ++ (B ++ X4)) by simp only [List.append_assoc]]
            refine XG (k := 0) (n := 1) (sz := 8) (vs := AcL.cells y) (cs' := A ++ (AcL.cells y ++ (B ++ X4))) rfl rfl rfl rfl rfl (Or.inr hv) rfl rfl (by simp only [Nat.min_def]; split <;> omega) rfl lF oF (by simp only [List.size_toArray, List.length_append]; omega) (Xs lA (by rw [lX1])) rfl ?_; refine nK hK25 (sR fun _ hK26 => ?_); refine LS 2 [] rfl rfl (nK hK26 ?_); refine Jb (Jd ?_); refine pT rfl rfl rfl fun w1 hs1 => ?_; exact ⟨⟨some (r, cap, X4), by simp only [List.length_append]; omega, by have := congrArg List.length hX; simp only [List.length_append] at this; omega⟩, rfl, by simpa [JY] using hs1⟩
          · try exact Bool.noConfusion h23
theorem Jo9 {R : Jr} {xs : List (BS × BS)} {p : Pl} (hl : xs.length ≤ 1000) (hs : Seg R xs.length (xs.flatMap QU) p) :
    PureT (α := { row : Vz // rowOk 2 xs.length (xs.flatMap QU) row }) Tryz.prog 74 [KM xs.length p].toArray (fun x => JF xs.length x.1) [] (fun x => JY 59 (xs.flatMap QU) x.1) R := by
  cases p with
  | none =>
    have h0 : xs = [] := List.length_eq_zero_iff.1 hs
    subst h0; refine JH Tryz.func74 rfl rfl fun w => ?_; refine sR fun _ hK1 => Ji rfl (nK hK1 ?_); refine sQ fun _ hK2 => sR fun _ hK3 => ?_; refine LS 2 [] rfl rfl (nK hK3 ?_); refine Jc rfl (fun h4 => ?_) (fun h4 => ?_)
    try simp only [ZZ] at h4
    refine sR fun _ hK5 => Ji rfl (nK hK5 ?_); refine Jb (Jd ?_); refine pT rfl rfl rfl fun w1 hs1 => ?_; exact ⟨⟨none, rfl, rfl⟩, rfl, hs1⟩
    try exact Bool.noConfusion h4
  | some q =>
    refine JH Tryz.func74 rfl rfl fun w => ?_; refine sR fun _ hK1 => Ji rfl (nK hK1 ?_); refine sQ fun _ hK2 => sR fun _ hK3 => ?_; refine LS 2 [] rfl rfl (nK hK3 ?_); refine Jc rfl (fun h4 => ?_) (fun h4 => ?_)
    try exact Bool.noConfusion h4
    · try simp only [ZZ] at h4
      refine Jf (hK2 ?_); refine sR fun _ hK6 => ?_; refine Xq rfl rfl rfl rfl fun r1 => ?_; refine Ji rfl (wo (k := 0) (b := 32) (sz := 2) rfl rfl rfl rfl rfl rfl hs (fun q hq => Or.inr hq) rfl rfl rfl rfl rfl (by decide) (KU JU xs) (Y0 jx xs) (by omega) (by omega) fun row hrow => (Ji rfl ?_)); refine nK hK6 (Jb ?_); refine pT rfl rfl rfl fun w1 hs1 => ?_; exact ⟨⟨row, hrow⟩, rfl, hs1.weakL (List.sublist_append_left _ _)⟩
theorem Jj1 {R : Jr} {xs : List (BS × BS)} {row : Vz} (hl : xs.length ≤ 1000) (hrow : rowOk 2 xs.length (xs.flatMap QU) row) {i : Nat} (hi : i ≤ xs.length) {y : (BS × BS)} {rv : Nat} (hv : (rv, Obj.cells (QU y).toArray 59 (0, 0)) ∈ R) :
    PureT (α := { row' : Vz // rowOk 2 (xs.length + 1) ((xs.take i ++ y :: xs.drop i).flatMap QU) row' }) Tryz.prog 75 [JF xs.length row, .int .i64 (i : Int), .slice (some ⟨rv, 0, none⟩) 1 1].toArray (fun x => JF (xs.length + 1) x.1) (JY 59 (xs.flatMap QU) row) (fun x => JY 59 ((xs.take i ++ y :: xs.drop i).flatMap QU) x.1) R := by
  obtain ⟨A, hA⟩ : ∃ A, A = (xs.take i).flatMap QU := ⟨_, rfl⟩
  obtain ⟨B, hB⟩ : ∃ B, B = (xs.drop i).flatMap QU := ⟨_, rfl⟩
  obtain ⟨n, hn⟩ : ∃ n, n = xs.length := ⟨_, rfl⟩
  have e1 : xs.flatMap QU = A ++ B := by rw [hA, hB, ← List.flatMap_append, List.take_append_drop]
  have e2 : (xs.take i ++ y :: xs.drop i).flatMap QU = A ++ (QU y ++ B) := by rw [List.flatMap_append, List.flatMap_cons, hA, hB]
  have lA : A.length = i * 2 := by rw [hA, KU JU, List.length_take, Nat.min_eq_left hi]
  have lB : B.length = (n - i) * 2 := by rw [hB, KU JU, List.length_drop, hn]
  have lF : (QU y).length = 2 := JU y
  have oF : (QU y).all QR = true := jx y
  have oA : A.all QR = true := by rw [hA]; exact Y0 jx _
  have oB : B.all QR = true := by rw [hB]; exact Y0 jx _
  rw [e1] at hrow; rw [e1, e2]; rw [← hn] at hl hi hrow ⊢; clear hA hB e1 e2 hn
  cases row with
  | none =>
    obtain ⟨rfl, hAB⟩ := hrow
    obtain rfl : i = 0 := by omega
    obtain ⟨rfl, rfl⟩ := List.append_eq_nil_iff.1 hAB
    refine JH Tryz.func75 rfl rfl fun w => ?_; refine sR fun _ hK1 => Ji rfl (nK hK1 ?_); refine sR fun _ hK2 => LS 3 [] rfl rfl (nK hK2 ?_); refine sR fun _ hK3 => Ji rfl (LR rfl (KI rfl rfl) (Ji rfl ?_)); refine nK hK3 (sQ fun _ hK4 => ?_); refine sR fun _ hK5 => LS 2 [] rfl rfl (nK hK5 ?_); refine Jc rfl (fun h6 => ?_) (fun h6 => ?_)
    try exact Bool.noConfusion h6
    try simp only [ZZ] at h6
    refine Jf (hK4 ?_); refine sR fun _ hK8 => Ji rfl (LR rfl (KI rfl rfl) (Ji rfl ?_)); refine nK hK8 (sQ fun _ hK9 => ?_); refine sR fun _ hK10 => LS 3 [] rfl rfl (nK hK10 ?_); refine Jc rfl (fun h11 => ?_) (fun h11 => ?_)
    try simp only [ZZ] at h11
    refine sR fun _ hK12 => LS 2 [] rfl rfl ?_; refine Wo (n := 0) (m := 1) (b := 32) (sz := 2) (news := QU y) (xs := []) (L0 := []) rfl rfl rfl rfl (Or.inr hv) rfl rfl rfl rfl rfl (by decide) rfl rfl oF (by decide) SlOwn.nil (by decide) (by decide) fun r1 cap1 sp1 hsp1 => ?_; refine Ji rfl (nK hK12 ?_); refine Jb (Jd ?_); refine pT rfl rfl rfl fun w1 hs1 => ?_; exact ⟨⟨some (r1, cap1, sp1), by simp [lF], hsp1⟩, rfl, by simpa [JY] using hs1⟩
    try exact Bool.noConfusion h11
  | some q =>
    obtain ⟨r, cap, sp⟩ := q
    obtain ⟨hr1, hr2⟩ := hrow
    have hcap : n ≤ cap := by omega
    refine JH Tryz.func75 rfl rfl fun w => ?_; change HC _ _ _ [(r, .cells ((A ++ B) ++ sp).toArray 59 (0, 0))] _ _ _; refine sR fun _ hK1 => Ji rfl (nK hK1 ?_); refine sR fun _ hK2 => LS 2 [] rfl rfl ?_; refine LR rfl (JR (m := i) (kl := some i) (kh := none) (km := none) (q := n) (z := cap) rfl rfl rfl ⟨_, rfl⟩ trivial trivial rfl rfl rfl (by omega) (by omega) (by omega) (fun _ => rfl) rfl) ?_; refine nK hK2 (sR fun _ hK3 => ?_); refine Ji rfl (LR rfl (KI rfl rfl) (Ji rfl ?_)); refine nK hK3 (sQ fun _ hK4 => ?_); refine sR fun _ hK5 => LS 2 [] rfl rfl (nK hK5 ?_); refine Jc rfl (fun h6 => ?_) (fun h6 => ?_)
    try exact Bool.noConfusion h6
    · try simp only [ZZ] at h6
      refine Jf (hK4 ?_); refine sR fun _ hK8 => Ji rfl (LR rfl (KI rfl rfl) (Ji rfl ?_)); refine nK hK8 (sQ fun _ hK9 => ?_); refine sR fun _ hK10 => LS 3 [] rfl rfl (nK hK10 ?_); refine Jc rfl (fun h11 => ?_) (fun h11 => ?_)
      try simp only [ZZ] at h11
      refine sR fun _ hK12 => LS 2 [] rfl rfl ?_
      obtain rfl : B = [] := List.length_eq_zero_iff.1 (by omega)
      refine Wo (n := n) (m := 1) (b := 32) (sz := 2) (news := QU y) (xs := A ++ []) (L0 := []) rfl rfl rfl rfl (Or.inr hv) rfl rfl rfl rfl rfl (by decide) rfl lF oF (by decide) (SlOwn.own (k := 0) rfl (by simp only [List.toList_toArray]; rw [List.take_left' hr1]) hr1 (by rw [List.size_toArray, List.length_append, hr1]; omega) rfl) (by omega) (by omega) fun r1 cap1 sp1 hsp1 => ?_; refine Ji rfl (nK hK12 ?_); refine Jb (Jd ?_); refine pT rfl rfl rfl fun w1 hs1 => ?_; exact ⟨⟨some (r1, cap1, sp1), by simp only [List.length_append, List.length_nil, lF]; omega, hsp1⟩, rfl, by simpa [JY] using hs1⟩
      · try simp only [ZZ] at h11
        refine Jf (hK9 ?_); refine sQ fun _ hK13 => sR fun _ hK14 => ?_; refine LS 3 [] rfl rfl ?_; refine Jt (by omega) (by omega) ?_; refine Ji rfl (LR rfl (Jgv rfl rfl) (JZ rfl ?_)); refine nK hK14 ?_; refine Jc rfl (fun h15 => ?_) (fun h15 => ?_)
        · try simp only [ZZ] at h15
          refine sR fun _ hK16 => LS 2 [] rfl rfl ?_
          refine LR rfl (JR (sz := 2) (q := i) (kl := none) (kh := some (i)) (km := none) (m := 0) (z := cap) (off' := 0) rfl rfl rfl trivial ⟨_, rfl⟩ trivial rfl rfl rfl (by omega) (by omega) (by omega) (fun h => by cases h) (by split <;> omega)) ?_; refine LS 3 [] rfl rfl ?_; refine Jt (by omega) (by omega) ?_; refine Ji rfl ?_
          refine JZ rfl ?_; refine Jy (show _ = Value.int .i64 ((n + 1 - i : Nat) : Int) from by rw [wrap_i64 (by omega) (by omega)]; congr 1 <;> omega) ?_; refine wh (r := r) (off := 0) (n := i) (cap := cap) (m := n + 1 - i) (sz := 2) (b := 32) (xs := A) rfl rfl rfl rfl (kn 0 rfl) rfl rfl rfl rfl rfl rfl (by decide) (by simp only [List.toList_toArray, List.drop_zero]; rw [List.append_assoc, List.take_left' lA]) lA (by omega) (by omega) (by omega) (by omega) (by omega) fun r2 cap2 Z sp2 hZ hsp2 => ?_; rw [show i + (n + 1 - i) = n + 1 by omega] at hsp2 ⊢
          obtain ⟨Z1, Z2, rfl, lZ1⟩ := cut (l := Z) (a := 2) (by omega)
          have lZ2 : Z2.length = (n - i) * 2 := by rw [List.length_append, lZ1] at hZ; omega
          rw [show A ++ (Z1 ++ Z2) ++ sp2 = A ++ (Z1 ++ (Z2 ++ sp2)) by simp only [List.append_assoc]]; refine Ji rfl (nK hK16 ?_); refine sR fun _ hK17 => LS 2 [] rfl rfl ?_; refine LR rfl (JR (sz := 2) (m := i) (kl := some (i)) (kh := none) (km := none) (q := n + 1) (z := cap2) (off' := i * 2) rfl rfl rfl ⟨_, rfl⟩ trivial trivial rfl rfl rfl (by omega) (by omega) (by omega) (fun _ => rfl) (by rw [if_neg (by omega)]; omega)) ?_; refine Ji rfl ?_
          refine XG (k := 0) (n := 1) (sz := 2) (vs := QU y) (cs' := A ++ (QU y ++ (Z2 ++ sp2))) rfl rfl rfl rfl rfl (Or.inr hv) rfl rfl (by simp only [Nat.min_def]; split <;> omega) rfl lF oF (by simp only [List.size_toArray, List.length_append]; omega) (Xs lA (by rw [lZ1])) rfl ?_; refine nK hK17 (sQ fun _ hK18 => ?_); refine Ka 8 (by kernel_rfl) (by kernel_rfl) ?_; refine Jk rfl rfl rfl (Jo rfl) ?_; refine Jk rfl rfl rfl (Jo rfl) ?_; refine Jk rfl rfl rfl (Jo rfl) ?_
          refine Jk rfl rfl rfl (J9 rfl rfl rfl) ?_; refine Qk (show _ = Value.int .i64 ((i + 1 : Nat) : Int) from by rw [wrap_i64 (by omega) (by omega)]; congr 1 <;> omega) ?_; refine Jk rfl rfl rfl (JR (sz := 2) (m := i + 1) (kl := some (i + 1)) (kh := none) (km := none) (q := n + 1) (z := cap2) (off' := (i + 1) * 2) rfl rfl rfl ⟨_, rfl⟩ trivial trivial rfl rfl rfl (by omega) (by omega) (by omega) (fun _ => rfl) (by rw [if_neg (by omega)]; omega)) ?_; refine Jk rfl rfl rfl (Jo rfl) ?_; refine Jk rfl rfl rfl (Jo rfl) ?_; refine Jk rfl rfl rfl (JR (sz := 2) (m := i) (kl := some (i)) (kh := none) (km := none) (q := n) (z := cap) (off' := i * 2) rfl rfl rfl ⟨_, rfl⟩ trivial trivial rfl rfl rfl (by omega) (by omega) (by omega) (fun _ => rfl) (by rw [if_neg (by omega)]; omega)) ?_; refine Kt ?_; rw [show A ++ (QU y ++ (Z2 ++ sp2)) = (A ++ QU y) ++ (Z2 ++ sp2) by simp only [List.append_assoc]]
          refine XG (k := 0) (n := n - i) (sz := 2) (vs := B) (cs' := (A ++ QU y) ++ (B ++ sp2)) rfl rfl rfl rfl rfl (kn 1 rfl) rfl rfl (by simp only [Nat.min_def]; split <;> omega) (by simp only [List.toList_toArray]; rw [List.append_assoc, List.drop_left' lA, List.take_left' lB]) lB oB (by simp only [List.size_toArray, List.length_append]; omega) (Xs (by rw [List.length_append, lA, lF]; omega) lZ2) rfl ?_; refine nK hK18 (sR fun _ hK19 => ?_); refine LS 2 [] rfl rfl (nK hK19 ?_); refine Jb (Jd ?_); refine pT rfl rfl rfl fun w1 hs1 => ?_; exact ⟨⟨some (r2, cap2, sp2), by simp only [List.length_append]; omega, hsp2⟩, rfl, hs1.weakL (by simp [JY])⟩
        · try simp only [ZZ] at h15
          refine Jf (hK13 ?_); refine sR fun _ hK20 => LS 3 [] rfl rfl ?_
          refine JZ rfl ?_; refine Jy (show _ = Value.int .i64 ((n + 1 : Nat) : Int) from by rw [wrap_i64 (by omega) (by omega)]; congr 1 <;> omega) ?_
          refine LR rfl (JR (sz := 2) (q := n + 1) (kl := none) (kh := some (n + 1)) (km := none) (m := 0) (z := cap) (off' := 0) rfl rfl rfl trivial ⟨_, rfl⟩ trivial rfl rfl rfl (by omega) (by omega) (by omega) (fun h => by cases h) (by split <;> omega)) ?_; refine Ji rfl (nK hK20 ?_); refine sQ fun _ hK21 => sR fun _ hK22 => ?_; refine LS 4 [] rfl rfl ?_
          refine JZ rfl ?_; refine Jy (show _ = Value.int .i64 ((i + 1 : Nat) : Int) from by rw [wrap_i64 (by omega) (by omega)]; congr 1 <;> omega) ?_; refine LR rfl (JR (sz := 2) (m := i + 1) (kl := some (i + 1)) (kh := none) (km := none) (q := n + 1) (z := cap) (off' := (i + 1) * 2) rfl rfl rfl ⟨_, rfl⟩ trivial trivial rfl rfl rfl (by omega) (by omega) (by omega) (fun _ => rfl) (by rw [if_neg (by omega)]; omega)) ?_; refine LR rfl (qE (k := 0) rfl rfl rfl hv rfl rfl rfl (by simp only [List.size_toArray, List.length_append]; omega) Tryz.func111 rfl rfl rfl rfl) ?_; refine JZ rfl (nK hK22 ?_); refine Jc rfl (fun h23 => ?_) (fun h23 => ?_)
          · try simp only [ZZ] at h23
            refine sQ fun _ hK24 => ?_; refine Ka 8 (by kernel_rfl) (by kernel_rfl) ?_; refine Jk rfl rfl rfl (Jo rfl) ?_; refine Jk rfl rfl rfl (Jo rfl) ?_; refine Jk rfl rfl rfl (Jo rfl) ?_
            refine Jk rfl rfl rfl (J9 rfl rfl rfl) ?_; refine Qk (show _ = Value.int .i64 ((i + 1 : Nat) : Int) from by rw [wrap_i64 (by omega) (by omega)]; congr 1 <;> omega) ?_; refine Jk rfl rfl rfl (JR (sz := 2) (m := i + 1) (kl := some (i + 1)) (kh := none) (km := none) (q := n + 1) (z := cap) (off' := (i + 1) * 2) rfl rfl rfl ⟨_, rfl⟩ trivial trivial rfl rfl rfl (by omega) (by omega) (by omega) (fun _ => rfl) (by rw [if_neg (by omega)]; omega)) ?_; refine Jk rfl rfl rfl (Jo rfl) ?_; refine Jk rfl rfl rfl (Jo rfl) ?_; refine Jk rfl rfl rfl (JR (sz := 2) (m := i) (kl := some (i)) (kh := none) (km := none) (q := n + 1) (z := cap) (off' := i * 2) rfl rfl rfl ⟨_, rfl⟩ trivial trivial rfl rfl rfl (by omega) (by omega) (by omega) (fun _ => rfl) (by rw [if_neg (by omega)]; omega)) ?_; refine Kt ?_
            obtain ⟨X1, X2, hX, lX1⟩ := cut (l := B ++ sp) (a := 2) (by rw [List.length_append]; omega)
            obtain ⟨X3, X4, rfl, lX3⟩ := cut (l := X2) (a := (n - i) * 2) (by have := congrArg List.length hX; simp only [List.length_append] at this; omega)
            rw [show (A ++ B) ++ sp = (A ++ X1) ++ (X3 ++ X4) by rw [List.append_assoc, hX]; simp only [List.append_assoc]]
            refine XG (k := 0) (n := n - i) (sz := 2) (vs := B) (cs' := (A ++ X1) ++ (B ++ X4)) rfl rfl rfl rfl rfl (kn 0 rfl) rfl rfl (by simp only [Nat.min_def]; split <;> omega) (by simp only [List.toList_toArray]; rw [List.append_assoc, List.drop_left' lA, ← hX, List.take_left' lB]) lB oB (by have := congrArg List.length hX; simp only [List.size_toArray, List.length_append] at this ⊢; omega) (Xs (by rw [List.length_append, lA, lX1]; omega) lX3) rfl ?_; refine nK hK24 (sR fun _ hK25 => ?_); refine LS 2 [] rfl rfl ?_; refine LR rfl (JR (sz := 2) (m := i) (kl := some (i)) (kh := none) (km := none) (q := n + 1) (z := cap) (off' := i * 2) rfl rfl rfl ⟨_, rfl⟩ trivial trivial rfl rfl rfl (by omega) (by omega) (by omega) (fun _ => rfl) (by rw [if_neg (by omega)]; omega)) ?_; refine Ji rfl ?_; rw [show (A ++ X1) ++ (B ++ X4) = A ++ (X1 ++ (B ++ X4)) by simp only [List.append_assoc]]
            refine XG (k := 0) (n := 1) (sz := 2) (vs := QU y) (cs' := A ++ (QU y ++ (B ++ X4))) rfl rfl rfl rfl rfl (Or.inr hv) rfl rfl (by simp only [Nat.min_def]; split <;> omega) rfl lF oF (by simp only [List.size_toArray, List.length_append]; omega) (Xs lA (by rw [lX1])) rfl ?_; refine nK hK25 (sR fun _ hK26 => ?_); refine LS 2 [] rfl rfl (nK hK26 ?_); refine Jb (Jd ?_); refine pT rfl rfl rfl fun w1 hs1 => ?_; exact ⟨⟨some (r, cap, X4), by simp only [List.length_append]; omega, by have := congrArg List.length hX; simp only [List.length_append] at this; omega⟩, rfl, by simpa [JY] using hs1⟩
          · try exact Bool.noConfusion h23
theorem Jsp {R : Jr} {xs : List AcL} {p : Pl} (hl : xs.length ≤ 1000) (hs : Seg R xs.length (xs.flatMap AcL.cells) p) (hso : KE AcL.addr xs) (y : AcL) :
    PureT (α := { row : Vz // rowOk 8 (Q0 AcL.addr y xs).length ((Q0 AcL.addr y xs).flatMap AcL.cells) row }) Tryz.prog 46 [KM xs.length p, vA y, fV 39].toArray (fun x => JF (Q0 AcL.addr y xs).length x.1) [] (fun x => JY 34 ((Q0 AcL.addr y xs).flatMap AcL.cells) x.1) R := by
  have hins := Jmx (x := y) hso
  obtain ⟨j, hj⟩ : ∃ j, j = ZU AcL.addr (AcL.addr y) xs := ⟨_, rfl⟩
  have hjl : j ≤ xs.length := hj ▸ Jmv _ _
  have hpl := Jo6 (k := AcL.addr y) hl hs hso
  have hlt : VQ AcL.addr (AcL.addr y) xs = true → j < xs.length := fun h => hj ▸ Jcg h
  rw [← hj] at hins hpl
  obtain ⟨b, hb⟩ : ∃ b, b = VQ AcL.addr (AcL.addr y) xs := ⟨_, rfl⟩
  rw [← hb] at hins hpl hlt; clear hj hb; refine JH Tryz.func46 rfl rfl fun w => ?_; refine sR fun K1 hK1 => ?_; refine LN rfl fun r1 => ?_; refine Ji rfl (nK hK1 ?_); clear hK1 K1; refine sR fun K2 hK2 => LS 3 [0] rfl rfl ?_; refine JD rfl rfl rfl Jqk (Jal y) ?_; refine Ji rfl (Jh rfl rfl rfl (enters_of Tryz.func70 (by kernel_rfl) rfl) hpl (fun q hq => Or.inr hq) (LS 5 [] rfl rfl ?_)); refine nK hK2 ?_; clear hK2 K2; refine sR fun K3 hK3 => Ji rfl (Qr rfl rfl rfl (enters_of Tryz.func71 (by kernel_rfl) rfl) (Jo8 hl hs) (fun q hq => Or.inr hq) fun x => ?_)
  obtain ⟨row, hrow⟩ := x
  change HL _ _ ((20, JF xs.length row) :: _) (JY 34 (xs.flatMap AcL.cells) row ++ [(r1, _)]) _ _ _ _; refine Ji rfl (nK hK3 ?_); clear hK3 K3; refine sQ fun K4 hK4 => sR fun K5 hK5 => ?_; refine Ji rfl (nK hK5 ?_); clear hK5 K5; refine Jc rfl (fun h6 => ?_) (fun h6 => ?_)
  try simp only [ZZ] at h6
  refine sQ fun K7 hK7 => ?_
  have hltb := hlt (by assumption)
  obtain ⟨r2, cap2, sp2, rfl⟩ := row_some hrow (by omega)
  change HC _ _ _ [(r2, .cells (xs.flatMap AcL.cells ++ sp2).toArray 34 (0, 0)), (r1, _)] _ _ _; refine Ja (LS 2 [] rfl rfl (LR rfl (Jx (vs := AcL.cells y) rfl (kn 1 rfl) rfl rfl rfl rfl) ?_)); refine LR rfl (Ki (j := j) (m := 8) rfl rfl rfl rfl rfl (by omega) rfl) ?_; refine QV (k := 0) (n := 8) (vs := (AcL.cells y).toArray) (cs' := ((xs.set j y).flatMap AcL.cells ++ sp2).toArray) rfl rfl rfl rfl rfl rfl (AcL.one y) (by have := hrow.1; simp only [List.size_toArray, List.length_append, KU AcL.len]; omega) (by apply Array.toList_inj.1; simp only [List.toList_toArray, Nat.zero_add]; exact Jgy AcL.len hltb y sp2) rfl ?_; refine nK hK7 ?_; clear hK7 K7; refine sR fun K8 hK8 => LS 2 [] rfl rfl (nK hK8 ?_); clear hK8 K8; refine Jb (Jd ?_); clear hK4 K4; refine pT rfl rfl rfl fun w1 hs1 => ?_
  (rw [if_pos (by assumption)] at hins
   rw [hins, List.length_set]
   exact ⟨⟨some (r2, cap2, sp2), hrow.same (by rw [KU AcL.len, KU AcL.len, List.length_set])⟩, rfl, hs1.weakL (by simp [JY])⟩)
  · try simp only [ZZ] at h6
    refine Jf (hK4 ?_); clear hK4 K4; refine sR fun K9 hK9 => LS 2 [] rfl rfl ?_; refine LR rfl (Jx (vs := AcL.cells y) rfl (Or.inl (List.mem_append_right _ List.mem_cons_self)) rfl rfl rfl rfl) ?_; refine Kh (n := 1) (sz := 8) (vs := [_]) (zs := [_, _, _, _, _, _, _, _]) (r := AcL.cells y) rfl rfl rfl rfl rfl rfl rfl rfl rfl (by rw [Kw]; exact rfl) rfl fun rv => ?_; refine Vn (T := JY 34 (xs.flatMap AcL.cells) row) (L0 := [(rv, _), (r1, _)]) (Rl := [(rv, Obj.cells (AcL.cells y).toArray 34 (0, 0))]) (by exact List.perm_middle.symm) rfl rfl rfl (enters_of Tryz.func72 (by kernel_rfl) rfl) (Jj0 (i := j) (y := y) hl hrow hjl List.mem_cons_self) (fun q hq => Or.inl (by rw [List.mem_singleton.1 hq]; exact List.mem_cons_self)) fun x => ?_
    obtain ⟨row2, hrow2⟩ := x
    refine Ji rfl (nK hK9 ?_); clear hK9 K9; refine Jb (pT rfl rfl rfl fun w1 hs1 => ?_)
    (rw [if_neg (by simp_all)] at hins
     have hln : (xs.take j ++ y :: xs.drop j).length = xs.length + 1 := by simp only [List.length_append, List.length_take, List.length_cons, List.length_drop]; omega
     rw [hins, hln]
     exact ⟨⟨row2, hrow2⟩, rfl, hs1.weakL (List.sublist_append_left _ _)⟩)
theorem Jsq {R : Jr} {xs : List (BS × BS)} {p : Pl} (hl : xs.length ≤ 1000) (hs : Seg R xs.length (xs.flatMap QU) p) (hso : KE Prod.fst xs) (y : (BS × BS)) :
    PureT (α := { row : Vz // rowOk 2 (Q0 Prod.fst y xs).length ((Q0 Prod.fst y xs).flatMap QU) row }) Tryz.prog 47 [KM xs.length p, vS y, fV 48].toArray (fun x => JF (Q0 Prod.fst y xs).length x.1) [] (fun x => JY 59 ((Q0 Prod.fst y xs).flatMap QU) x.1) R := by
  have hins := Jmx (x := y) hso
  obtain ⟨j, hj⟩ : ∃ j, j = ZU Prod.fst (Prod.fst y) xs := ⟨_, rfl⟩
  have hjl : j ≤ xs.length := hj ▸ Jmv _ _
  have hpl := Jo7 (k := Prod.fst y) hl hs hso
  have hlt : VQ Prod.fst (Prod.fst y) xs = true → j < xs.length := fun h => hj ▸ Jcg h
  rw [← hj] at hins hpl
  obtain ⟨b, hb⟩ : ∃ b, b = VQ Prod.fst (Prod.fst y) xs := ⟨_, rfl⟩
  rw [← hb] at hins hpl hlt; clear hj hb; refine JH Tryz.func47 rfl rfl fun w => ?_; refine sR fun K1 hK1 => ?_; refine LN rfl fun r1 => ?_; refine Ji rfl (nK hK1 ?_); clear hK1 K1; refine sR fun K2 hK2 => LS 3 [0] rfl rfl ?_; refine JD rfl rfl rfl Jql (Jam y) ?_; refine Ji rfl (Jh rfl rfl rfl (enters_of Tryz.func73 (by kernel_rfl) rfl) hpl (fun q hq => Or.inr hq) (LS 5 [] rfl rfl ?_)); refine nK hK2 ?_; clear hK2 K2; refine sR fun K3 hK3 => Ji rfl (Qr rfl rfl rfl (enters_of Tryz.func74 (by kernel_rfl) rfl) (Jo9 hl hs) (fun q hq => Or.inr hq) fun x => ?_)
  obtain ⟨row, hrow⟩ := x
  change HL _ _ ((20, JF xs.length row) :: _) (JY 59 (xs.flatMap QU) row ++ [(r1, _)]) _ _ _ _; refine Ji rfl (nK hK3 ?_); clear hK3 K3; refine sQ fun K4 hK4 => sR fun K5 hK5 => ?_; refine Ji rfl (nK hK5 ?_); clear hK5 K5; refine Jc rfl (fun h6 => ?_) (fun h6 => ?_)
  try simp only [ZZ] at h6
  refine sQ fun K7 hK7 => ?_
  have hltb := hlt (by assumption)
  obtain ⟨r2, cap2, sp2, rfl⟩ := row_some hrow (by omega)
  change HC _ _ _ [(r2, .cells (xs.flatMap QU ++ sp2).toArray 59 (0, 0)), (r1, _)] _ _ _; refine Ja (LS 2 [] rfl rfl (LR rfl (Jx (vs := QU y) rfl (kn 1 rfl) rfl rfl rfl rfl) ?_)); refine LR rfl (Ki (j := j) (m := 2) rfl rfl rfl rfl rfl (by omega) rfl) ?_; refine QV (k := 0) (n := 2) (vs := (QU y).toArray) (cs' := ((xs.set j y).flatMap QU ++ sp2).toArray) rfl rfl rfl rfl rfl rfl (jx y) (by have := hrow.1; simp only [List.size_toArray, List.length_append, KU JU]; omega) (by apply Array.toList_inj.1; simp only [List.toList_toArray, Nat.zero_add]; exact Jgy JU hltb y sp2) rfl ?_; refine nK hK7 ?_; clear hK7 K7; refine sR fun K8 hK8 => LS 2 [] rfl rfl (nK hK8 ?_); clear hK8 K8; refine Jb (Jd ?_); clear hK4 K4; refine pT rfl rfl rfl fun w1 hs1 => ?_
  (rw [if_pos (by assumption)] at hins
   rw [hins, List.length_set]
   exact ⟨⟨some (r2, cap2, sp2), hrow.same (by rw [KU JU, KU JU, List.length_set])⟩, rfl, hs1.weakL (by simp [JY])⟩)
  · try simp only [ZZ] at h6
    refine Jf (hK4 ?_); clear hK4 K4; refine sR fun K9 hK9 => LS 2 [] rfl rfl ?_; refine LR rfl (Jx (vs := QU y) rfl (Or.inl (List.mem_append_right _ List.mem_cons_self)) rfl rfl rfl rfl) ?_; refine Kh (n := 1) (sz := 2) (vs := [_]) (zs := [_, _]) (r := QU y) rfl rfl rfl rfl rfl rfl rfl rfl rfl (by rw [Kw]; exact rfl) rfl fun rv => ?_; refine Vn (T := JY 59 (xs.flatMap QU) row) (L0 := [(rv, _), (r1, _)]) (Rl := [(rv, Obj.cells (QU y).toArray 59 (0, 0))]) (by exact List.perm_middle.symm) rfl rfl rfl (enters_of Tryz.func75 (by kernel_rfl) rfl) (Jj1 (i := j) (y := y) hl hrow hjl List.mem_cons_self) (fun q hq => Or.inl (by rw [List.mem_singleton.1 hq]; exact List.mem_cons_self)) fun x => ?_
    obtain ⟨row2, hrow2⟩ := x
    refine Ji rfl (nK hK9 ?_); clear hK9 K9; refine Jb (pT rfl rfl rfl fun w1 hs1 => ?_)
    (rw [if_neg (by simp_all)] at hins
     have hln : (xs.take j ++ y :: xs.drop j).length = xs.length + 1 := by simp only [List.length_append, List.length_take, List.length_cons, List.length_drop]; omega
     rw [hins, hln]
     exact ⟨⟨row2, hrow2⟩, rfl, hs1.weakL (List.sublist_append_left _ _)⟩)
theorem Jsr (x : BS × BS) : YU x = (((x.1.length : Int) != 32) || ((x.2.length : Int) != 32)) := by
  have key : ∀ n : Nat, decide (n ≠ 32) = ((n : Int) != 32) := fun n => by
    by_cases h : n = 32
    · subst h; rfl
    · have h2 : ¬ (n : Int) = 32 := by omega
      simp [h, h2]
  unfold YU
  rw [key, key]
theorem Jxq (x : BS × BS) : Pure Tryz.prog 65 [vS x].toArray (.bool (YU x)) := by
  refine JC Tryz.func65 rfl rfl fun w => ?_; refine sR fun K1 hK1 => ?_; refine LN rfl fun r1 => ?_; refine Ji rfl (nK hK1 ?_); clear hK1 K1; refine sR fun K2 hK2 => ?_
  refine LS 2 [0] rfl rfl ?_; refine LR rfl (JT rfl rfl) ?_; refine LS 2 [] rfl rfl ?_
  refine JA 7 rfl (fun hb3 => ?_) (fun hb3 => ?_) <;> (try simp only [ZZ] at hb3) <;> first | (refine LR rfl (JL rfl rfl rfl) ?_) | (refine LK rfl ?_)
  all_goals refine LW 1 [0] rfl rfl ?_
  all_goals first
    | (refine LR rfl (JT rfl rfl) ?_)
    | (refine LK rfl ?_)
  all_goals refine LW 3 [] rfl rfl ?_
  all_goals refine Jg ?_
  all_goals (
   refine hK2 ?_; clear hK2 K2; refine Jb (pT rfl rfl rfl fun w1 hs1 => ?_); refine ⟨?_, hs1.keep⟩; rw [Jsr]
   simp_all [JP]
   skip)
theorem Jss (x : BS × BS) : Pure Tryz.prog 66 [vS x].toArray (.bool (WP x)) := by
  refine JC Tryz.func66 rfl rfl fun w => ?_; refine sR fun _ hK1 => ?_; refine LN rfl fun r1 => ?_; refine Ji rfl (nK hK1 ?_); refine sQ fun _ hK2 => ?_; refine Ka 5 (by kernel_rfl) (by kernel_rfl) ?_
  refine Jk rfl rfl rfl (JL rfl rfl rfl) ?_; refine Jk rfl rfl rfl (Jm rfl (kn 0 rfl) rfl rfl) ?_; refine Qm rfl rfl rfl Juo Jff ?_; refine Jk rfl rfl rfl (QT rfl rfl) ?_; refine Jk rfl rfl rfl (JN rfl) ?_; refine Kt ?_; refine nK hK2 (Jb ?_); refine pT rfl rfl rfl fun w1 hs1 => ?_; exact ⟨rfl, hs1.keep⟩
theorem qL {R : Jr} {xs : List (BS × BS)} {p : Pl} (hl : xs.length ≤ 9223372036854775807) (hs : Seg R xs.length (xs.flatMap QU) p) {g : FuncId} {caps : List Value} {pr : BS × BS → Bool} (eg : Enters Tryz.prog g) (hg : ∀ x ∈ xs, PureR Tryz.prog g (vS x :: caps).toArray (.bool (pr x)) R) :
    PureR Tryz.prog 67 [KM xs.length p, .func (.func g) #[] caps.toArray].toArray (.bool (xs.any pr)) R := by
  have h := yh hl hs eg hg
  refine Je Tryz.func67 rfl rfl fun w => ?_; refine sR fun _ hK1 => Ji rfl (nK hK1 ?_); refine sR fun _ hK2 => LS 2 [] rfl rfl ?_; refine Jh rfl rfl rfl Jun h (fun q hq => Or.inr hq) ?_; refine JZ rfl (Jy (congrArg Value.bool Jrp) (Ji rfl ?_)); refine nK hK2 (Jb ?_); refine pT rfl rfl rfl fun w1 hs1 => ?_; exact ⟨rfl, hs1.keep⟩
theorem Jfg {R : Jr} {a : AcL} (ha : a.In R) : PureR Tryz.prog 37 [a.val].toArray (.int .i64 (XE a.er)) R := by
  have h1 := qL (g := 65) (caps := []) ha.len ha.seg (enters_of Tryz.func65 (by kernel_rfl) rfl) (fun x _ => (Jxq x).toR)
  have h2 := qL (g := 66) (caps := []) ha.len ha.seg (enters_of Tryz.func66 (by kernel_rfl) rfl) (fun x _ => (Jss x).toR)
  have h3 := Jo4 ha.len ha.seg
  have hl := ha.len
  have hseg := ha.seg
  have hE : XE a.er = if ¬ ((a.addr.length : Int) = 20) ∨ a.slots.any YU = true then 2 else if QL Prod.fst a.slots = false then 11 else if (512 < (a.code.length : Int)) ∨ (16 < (a.slots.length : Int)) then 5 else if a.slots.any WP = true then 8 else 0 := by
    exact ite_congr (propext (or_congr (by show ¬ a.addr.length = 20 ↔ _; omega) Iff.rfl)) (fun _ => rfl) (fun _ => ite_congr rfl (fun _ => rfl) (fun _ => ite_congr (propext (or_congr (by show a.code.length > 512 ↔ _; omega) (by show a.slots.length > 16 ↔ _; omega))) (fun _ => rfl) (fun _ => rfl)))
  rw [hE]; clear hE
  generalize a.slots.any YU = oB at h1 ⊢
  generalize a.slots.any WP = sBo at h2 ⊢
  generalize QL Prod.fst a.slots = rB at h3 ⊢
  refine Je Tryz.func37 rfl rfl fun w => ?_; refine sR fun K1 hK1 => ?_; refine LN rfl fun r1 => ?_; refine Ji rfl (nK hK1 ?_); clear hK1 K1; refine sR fun K2 hK2 => Ji rfl (nK hK2 ?_); clear hK2 K2; refine sR fun K3 hK3 => Ji rfl (nK hK3 ?_); clear hK3 K3; refine sB fun K4 hK4 => sR fun K5 hK5 => ?_
  refine LS 2 [0] rfl rfl ?_; refine LR rfl (JT rfl rfl) ?_; refine LS 2 [] rfl rfl ?_
  refine JA 10 rfl (fun hb6 => ?_) (fun hb6 => ?_) <;> (try simp only [ZZ] at hb6) <;> first | (refine LR rfl (JL rfl rfl rfl) ?_) | (refine LK rfl ?_)
  all_goals refine LW 2 [0] rfl rfl ?_
  all_goals first
    | (refine Jh rfl rfl rfl (enters_of Tryz.func67 (by kernel_rfl) rfl) h1 (fun q hq => Or.inr hq) ?_)
    | (refine LK rfl ?_)
  all_goals refine LW 2 [] rfl rfl ?_
  all_goals refine Jg ?_
  all_goals (
   refine hK5 ?_; clear hK5 K5; refine Jc rfl (fun h10 => ?_) (fun h10 => ?_)
   try simp only [ZZ] at h10
   refine sR fun K11 hK11 => Ji rfl (nK hK11 ?_); clear hK11 K11; refine Jb (Jn (Jd ?_)); clear hK4 K4; refine pT rfl rfl rfl fun w1 hs1 => ?_; refine ⟨?_, hs1.keep⟩; simp only [JP]
   simp_all
   · try exact Bool.noConfusion h10
     all_goals try simp only [ZZ] at h10
     all_goals (
      refine sR fun K12 hK12 => ?_
      refine LS 2 [0] rfl rfl ?_; refine Jh rfl rfl rfl (enters_of Tryz.func68 (by kernel_rfl) rfl) h3 (fun q hq => Or.inr hq) ?_; refine LS 2 [] rfl rfl (nK hK12 ?_); clear hK12 K12; refine Jc rfl (fun h13 => ?_) (fun h13 => ?_)
      try simp only [ZZ] at h13
      refine sR fun K14 hK14 => Ji rfl (nK hK14 ?_); clear hK14 K14; refine Jb (Jn (Jd ?_)); clear hK4 K4; refine pT rfl rfl rfl fun w1 hs1 => ?_; refine ⟨?_, hs1.keep⟩; simp only [JP]
      simp_all
      · try simp only [ZZ] at h13
        refine sR fun K15 hK15 => ?_
        refine LS 2 [0] rfl rfl ?_; refine LR rfl (JT rfl rfl) ?_; refine LS 2 [] rfl rfl ?_
        refine JA 26 rfl (fun hb16 => ?_) (fun hb16 => ?_) <;> (try simp only [ZZ] at hb16) <;> first | (refine LR rfl (JL rfl rfl rfl) ?_) | (refine LK rfl ?_)
        all_goals refine LW 1 [0] rfl rfl ?_
        all_goals first
          | (refine LR rfl (J3 rfl hseg rfl) ?_)
          | (refine LK rfl ?_)
        all_goals refine LW 3 [] rfl rfl ?_
        all_goals refine Jg ?_
        all_goals (
         refine hK15 ?_; clear hK15 K15; refine Jc rfl (fun h20 => ?_) (fun h20 => ?_)
         try simp only [ZZ] at h20
         refine sR fun K21 hK21 => Ji rfl (nK hK21 ?_); clear hK21 K21; refine Jb (Jn (Jd ?_)); clear hK4 K4; refine pT rfl rfl rfl fun w1 hs1 => ?_; refine ⟨?_, hs1.keep⟩; simp only [JP]
         simp_all
         · try exact Bool.noConfusion h20
           all_goals try simp only [ZZ] at h20
           all_goals (
            refine sR fun K22 hK22 => ?_
            refine LS 3 [0] rfl rfl ?_; refine Jh rfl rfl rfl (enters_of Tryz.func67 (by kernel_rfl) rfl) h2 (fun q hq => Or.inr hq) ?_; refine Ji rfl (nK hK22 ?_); clear hK22 K22; refine Jc rfl (fun h23 => ?_) (fun h23 => ?_)
            try simp only [ZZ] at h23
            refine sR fun K24 hK24 => Ji rfl (nK hK24 ?_); clear hK24 K24; refine Jb (Jn (Jd ?_)); clear hK4 K4; refine pT rfl rfl rfl fun w1 hs1 => ?_; refine ⟨?_, hs1.keep⟩; simp only [JP]
            simp_all
            try simp only [ZZ] at h23
            refine Jf (Jj (hK4 ?_)); clear hK4 K4; refine sR fun K25 hK25 => Ji rfl (nK hK25 ?_); clear hK25 K25; refine Jb (pT rfl rfl rfl fun w1 hs1 => ?_); refine ⟨?_, hs1.keep⟩; simp only [JP]
            simp_all
            skip)
         skip)
      skip)
   skip)
theorem Jst {R : Jr} {rb e : Nat} {k : BS} (hb : (rb, Obj.cells #[J2 k] e (0, 0)) ∈ R) (a : AcL) : PureR Tryz.prog 35 [vA a, .pointer (some ⟨rb, 0, none⟩)].toArray (.bool (decide (a.addr = k))) R := by
  refine Je Tryz.func35 rfl rfl fun w => ?_; refine sR fun _ hK1 => ?_; refine LN rfl fun r1 => ?_; refine Ji rfl (nK hK1 ?_); refine sR fun _ hK2 => ?_
  refine LS 2 [0] rfl rfl ?_; refine LR rfl (Jm rfl (Or.inr hb) rfl rfl) ?_; refine LR rfl (QT rfl rfl) ?_; refine Ji rfl (nK hK2 ?_); refine Jb (pT rfl rfl rfl fun w1 hs1 => ?_); exact ⟨rfl, hs1.keep⟩
theorem Jsu {R : Jr} {rb e : Nat} {k : BS} (hb : (rb, Obj.cells #[J2 k] e (0, 0)) ∈ R) (x : BS × BS) : PureR Tryz.prog 41 [vS x, .pointer (some ⟨rb, 0, none⟩)].toArray (.bool (decide (x.1 = k))) R := by
  refine Je Tryz.func41 rfl rfl fun w => ?_; refine sR fun _ hK1 => ?_; refine LN rfl fun r1 => ?_; refine Ji rfl (nK hK1 ?_); refine sR fun _ hK2 => ?_
  refine LS 2 [0] rfl rfl ?_; refine LR rfl (Jm rfl (Or.inr hb) rfl rfl) ?_; refine LR rfl (QT rfl rfl) ?_; refine Ji rfl (nK hK2 ?_); refine Jb (pT rfl rfl rfl fun w1 hs1 => ?_); exact ⟨rfl, hs1.keep⟩
theorem Jv1 {R : Jr} {rb e : Nat} {k : BS} (hb : (rb, Obj.cells #[J2 k] e (0, 0)) ∈ R) (x : BS × BS) : PureR Tryz.prog 50 [vS x, .pointer (some ⟨rb, 0, none⟩)].toArray (.bool (decide (x.1 = k))) R := by
  refine Je Tryz.func50 rfl rfl fun w => ?_; refine sR fun _ hK1 => ?_; refine LN rfl fun r1 => ?_; refine Ji rfl (nK hK1 ?_); refine sR fun _ hK2 => ?_
  refine LS 2 [0] rfl rfl ?_; refine LR rfl (Jm rfl (Or.inr hb) rfl rfl) ?_; refine LR rfl (QT rfl rfl) ?_; refine Ji rfl (nK hK2 ?_); refine Jb (pT rfl rfl rfl fun w1 hs1 => ?_); exact ⟨rfl, hs1.keep⟩
theorem Jpa {R : Jr} {s : StL} (hs : s.In R) (k : BS) : PureR Tryz.prog 14 [s.val, J2 k].toArray (.tuple #[(VD s k).val, .bool (VS s k)]) R := by
  have hl := hs.len
  have hseg := hs.seg
  refine Je Tryz.func14 rfl rfl fun w => ?_; refine sR fun _ hK1 => ?_; refine LN rfl fun r1 => ?_; refine LN rfl fun r2 => ?_; refine LN rfl fun r3 => ?_; refine Ji rfl (nK hK1 ?_); refine sR fun _ hK2 => ?_
  refine LS 2 [2] rfl rfl ?_; refine LR rfl (Kv rfl rfl) ?_; refine Jh (Rl := (r2, Obj.cells #[J2 k] 9 (0, 0)) :: R) rfl rfl rfl (enters_of Tryz.func34 (by kernel_rfl) rfl) (Jo2 (caps := [.pointer (some ⟨r2, 0, none⟩)]) (pr := fun a => decide (a.addr = k)) hl (hseg.mono fun q hq => List.mem_cons_of_mem _ hq) (enters_of Tryz.func35 (by kernel_rfl) rfl) (fun a _ => Jst List.mem_cons_self a)) (fun q hq => (List.mem_cons.1 hq).elim (fun h => Or.inl (by rw [h]; simp)) Or.inr) ?_; refine Ji rfl (nK hK2 ?_); refine sQ fun _ hK3 => sR fun _ hK4 => ?_; refine LS 2 [] rfl rfl (nK hK4 ?_); refine Jc rfl (fun h5 => ?_) (fun h5 => ?_)
  try simp only [ZZ] at h5
  refine sQ fun _ hK6 => ?_
  have hf := wq (by assumption)
  refine Ja (LR rfl (JI (r := [_, _, _, _, _, _, _, _]) rfl rfl) ?_)
  refine LT 0 rfl rfl (Ji rfl ?_); refine nK hK6 (Jb (Jd ?_)); refine Jv rfl rfl (.cons (J6 (vs := [_, _, _, _, _, _, _, _]) rfl (kn 0 rfl) rfl rfl) (.cons (J4 rfl) .nil)) (fun w1 hs1 => ?_); refine ⟨?_, hs1.keep⟩; rw [(yS hf).1, (yS hf).2]; rfl
  · try simp only [ZZ] at h5
    refine Jf (hK3 ?_); refine sQ fun _ hK7 => ?_
    obtain ⟨i, a, hidx, ha, hf⟩ := Jgw (by assumption)
    refine Ja (LS 3 [2] rfl rfl ?_)
    refine LR rfl (Jp (j := i) rfl hseg rfl rfl rfl (by first | rfl | omega) (by have := (List.getElem?_eq_some_iff.1 ha).1; omega)) ?_; refine LR rfl (Ku AcL.len (fun q hq => Or.inr hq) rfl hseg ha rfl rfl) ?_
    refine LT 0 rfl rfl (Ji rfl ?_); refine nK hK7 (Jb ?_); refine Jv rfl rfl (.cons (J6 (vs := [_, _, _, _, _, _, _, _]) rfl (kn 0 rfl) rfl rfl) (.cons (J4 rfl) .nil)) (fun w1 hs1 => ?_); refine ⟨?_, hs1.keep⟩; rw [(Jci hf).1, (Jci hf).2]; rfl
theorem Wx {R : Jr} {s : StL} (hs : s.In R) : PureR Tryz.prog 19 [s.val].toArray (.int .i64 (Qv s.er)) R := by
  have hl : s.accts.length ≤ 9223372036854775807 := hs.len
  have hseg := hs.seg
  obtain ⟨hc5, hcg⟩ := Jg2 s
  refine Je Tryz.func19 rfl rfl fun w => ?_; refine sR fun K1 hK1 => ?_; refine LN rfl fun r1 => ?_; refine Ji rfl (nK hK1 ?_); clear hK1 K1; refine sQ fun K2 hK2 => sR fun K3 hK3 => ?_
  refine LS 2 [0] rfl rfl ?_; refine LR rfl (J3 rfl hseg rfl) ?_; refine JZ rfl (nK hK3 ?_); clear hK3 K3; refine Jc rfl (fun h4 => ?_) (fun h4 => ?_)
  try simp only [ZZ] at h4
  refine sR fun K5 hK5 => Ji rfl (nK hK5 ?_); clear hK5 K5; refine Jb (Jd ?_); clear hK2 K2; refine pT rfl rfl rfl fun w1 hs1 => ?_; refine ⟨?_, hs1.keep⟩; rw [hc5 (by assumption)]; rfl
  · try simp only [ZZ] at h4
    refine Jf (hK2 ?_); clear hK2 K2; refine sQ fun K6 hK6 => sR fun K7 hK7 => ?_
    refine LS 2 [0] rfl rfl ?_; refine LR rfl (J3 rfl hseg rfl) ?_; refine Ji rfl (nK hK7 ?_); clear hK7 K7; refine Ju (JG (σ := Nat) (fun i => i ≤ s.accts.length ∧ goS (WI s.er i) (s.er.drop i) = goS none s.er) (fun i => [(1, .pointer (some ⟨r1, 0, none⟩)), (11, KM s.accts.length s.p), (12, .int .i64 (s.accts.length : Int)), (13, .int .i64 (i : Int))]) (fun _ => [(r1, .cells s.cells.toArray 24 (0, 0))]) (fun _ _ _ => True) (fun i => s.accts.length - i) 0 ⟨Nat.zero_le _, rfl⟩ (.cons rfl (.cons rfl (.cons rfl (.cons rfl .nil)))) (List.Sublist.refl _) (fun _ _ h => h) ?_); rintro i ⟨hi1, hinv⟩; refine sR fun K8 hK8 => JZ rfl (nK hK8 ?_); clear hK8 K8; refine sQ fun K9 hK9 => ?_; refine Jc rfl (fun h10 => ?_) (fun h10 => ?_)
    · try simp only [ZZ] at h10
      refine Jf (hK9 ?_); clear hK9 K9; refine sB fun K11 hK11 => sQ fun K12 hK12 => ?_
      obtain ⟨a, ha, hma⟩ := QC (show i < s.accts.length by omega)
      rw [Jg0 (Wd ha)] at hinv; refine Ja (Ji rfl ?_)
      refine LR rfl (Jp (j := i) rfl hseg rfl rfl rfl (by first | rfl | omega) (by omega)) ?_; refine LR rfl (Ku AcL.len (fun q hq => Or.inr hq) rfl hseg ha rfl rfl) ?_; refine LN rfl fun r2 => ?_; refine Ji rfl (Jz (k := 0) (n := 8) (ys := a.cells) rfl rfl rfl rfl rfl a.len rfl a.one rfl ?_); refine nK hK12 ?_; clear hK12 K12; refine sR fun K13 hK13 => ?_; refine LR rfl (Jq (xs := a.cells) (n := 8) rfl (kn 0 rfl) rfl rfl a.len) ?_; refine Jh rfl rfl rfl Jum (Jfg (hs.accts a hma)) (fun q hq => Or.inr hq) ?_; refine Ji rfl (nK hK13 ?_); clear hK13 K13; refine sQ fun K14 hK14 => sR fun K15 hK15 => ?_; refine LS 3 [] rfl rfl ?_
      refine JA 22 rfl (fun hb16 => ?_) (fun hb16 => ?_) <;> (try simp only [ZZ] at hb16) <;> first | (refine Ji rfl ?_) | (refine LK rfl ?_)
      all_goals refine LW 3 [] rfl rfl ?_
      all_goals first
        | (refine LK rfl ?_)
        | (refine JA 26 rfl (fun hb18 => ?_) (fun hb18 => ?_) <;> (try simp only [ZZ] at hb18) <;> first | (refine LR rfl (JL rfl rfl rfl) ?_) | (refine LK rfl ?_))
      all_goals refine LW 2 [1] rfl rfl ?_
      all_goals first
        | (refine JZ rfl ?_; refine Jt (by omega) (by omega) ?_)
        | (refine LK rfl ?_)
      all_goals refine LW 1 [] rfl rfl ?_
      all_goals first
        | (refine JZ rfl ?_; refine Jt (by omega) (by omega) ?_)
        | (refine LK rfl ?_)
      all_goals first
        | (obtain ⟨x, hx, hmx⟩ := QC (show i - 1 < s.accts.length by omega); refine LR rfl (Ji2 (sz := 8) (a := i - 1) (b := i + 1) (m := 2) rfl hseg rfl rfl (by omega) (by omega) rfl rfl (by omega) (by omega) (by omega)) ?_; have hlast := xH hx (show i - 1 + 1 = i by omega))
        | (refine LK rfl ?_)
      all_goals first
        | (refine Jh rfl rfl rfl (enters_of Tryz.func38 (by kernel_rfl) rfl) (Jo3 (xs := [x, a]) (show 2 ≤ 9223372036854775807 by decide) (hseg.two AcL.len hx ha (by omega))) (fun q hq => Or.inr hq) ?_; refine Jy (congrArg Value.bool (Je1 x a)) ?_)
        | (refine LK rfl ?_)
      all_goals refine LW 2 [] rfl rfl ?_
      all_goals refine Jg ?_
      all_goals (
       refine hK15 ?_; clear hK15 K15; refine Jc rfl (fun h27 => ?_) (fun h27 => ?_)
       · try exact Bool.noConfusion h27
         all_goals try simp only [ZZ] at h27
         all_goals (
          refine Ja (Ji rfl ?_); refine nK hK14 ?_; clear hK14 K14; refine sQ fun K28 hK28 => ?_
          have hst : Vd (WI s.er i) a.er = 11 ∨ Vd (WI s.er i) a.er = XE a.er := by unfold Vd; split <;> simp
          have hst : Vd (WI s.er i) a.er = 11 := Jg1 (by assumption) hlast (by assumption)
          rw [hst] at hinv; refine Ja (LS 2 [] rfl rfl ?_); refine nK hK28 ?_; clear hK28 K28; refine Jc rfl (fun h29 => ?_) (fun h29 => ?_)
          try simp only [ZZ] at h29
          refine sR fun K30 hK30 => LS 2 [] rfl rfl (nK hK30 ?_); clear hK30 K30; refine Jb (Jn (Jd ?_)); clear hK11 K11; refine Jd (Jn (Jd ?_)); clear hK6 K6; refine pT rfl rfl rfl fun w1 hs1 => ?_; refine ⟨?_, hs1.keep⟩; rw [hcg (by omega), ← hinv, if_pos (by simp_all)]; rfl
          try exact Bool.noConfusion h29
          skip)
       · try simp only [ZZ] at h27
         refine Jf (hK14 ?_); clear hK14 K14; refine sQ fun K31 hK31 => ?_
         have hst : Vd (WI s.er i) a.er = 11 ∨ Vd (WI s.er i) a.er = XE a.er := by unfold Vd; split <;> simp
         have hst : Vd (WI s.er i) a.er = XE a.er := xG (by first | exact Or.inl (by assumption) | exact Or.inr (Or.inl (by rw [show i = 0 by omega]; rfl)) | exact Or.inr (Or.inr ⟨_, hlast, by assumption⟩))
         rw [hst] at hinv; refine Ja (LS 2 [] rfl rfl ?_); refine nK hK31 ?_; clear hK31 K31; refine Jc rfl (fun h32 => ?_) (fun h32 => ?_)
         try simp only [ZZ] at h32
         refine sR fun K33 hK33 => LS 2 [] rfl rfl (nK hK33 ?_); clear hK33 K33; refine Jb (Jn (Jd ?_)); clear hK11 K11; refine Jd (Jn (Jd ?_)); clear hK6 K6; refine pT rfl rfl rfl fun w1 hs1 => ?_; refine ⟨?_, hs1.keep⟩; rw [hcg (by omega), ← hinv, if_pos (by simp_all)]; rfl
         try simp only [ZZ] at h32
         refine Jf (Jj (hK11 ?_)); clear hK11 K11; refine Ja (JZ rfl (Jt (by omega) (by omega) ?_)); refine Ji rfl (Jg (J5 ?_)); exact J1 (i + 1) ⟨by omega, by rw [if_neg (by simp_all)] at hinv; exact hinv⟩ (by omega) (.cons rfl (.cons rfl (.cons rfl (.cons rfl .nil)))) (List.sublist_cons_self _ _) (fun _ _ h => h)
       skip)
    · try simp only [ZZ] at h10
      refine JE (Jl ?_); clear hK9 K9; refine Jl (J0 (hK6 ?_)); clear hK6 K6; refine sR fun K34 hK34 => Ji rfl (nK hK34 ?_); clear hK34 K34; refine Jb (pT rfl rfl rfl fun w1 hs1 => ?_); refine ⟨?_, hs1.keep⟩; rw [hcg (by omega), ← hinv, List.drop_of_length_le (by rw [s.er_len]; omega)]; rfl
theorem Jfh {R : Jr} {a : AcL} (ha : a.In R) (k : BS) : PureR Tryz.prog 20 [a.val, J2 k].toArray (J2 (KX a.er k)) R := by
  have hl : a.slots.length ≤ 9223372036854775807 := ha.len
  have hseg := ha.seg
  refine Je Tryz.func20 rfl rfl fun w => ?_; refine sR fun _ hK1 => ?_; refine LN rfl fun r1 => ?_; refine LN rfl fun r2 => ?_; refine Ji rfl (nK hK1 ?_); refine sR fun _ hK2 => ?_
  refine LS 2 [1] rfl rfl ?_; refine LR rfl (Kv rfl rfl) ?_; refine Jh (Rl := (r2, Obj.cells #[J2 k] 9 (0, 0)) :: R) rfl rfl rfl Jun (yh (caps := [.pointer (some ⟨r2, 0, none⟩)]) (pr := fun x => decide (x.1 = k)) hl (hseg.mono fun q hq => List.mem_cons_of_mem _ hq) (enters_of Tryz.func41 (by kernel_rfl) rfl) (fun x _ => Jsu List.mem_cons_self x)) (fun q hq => (List.mem_cons.1 hq).elim (fun h => Or.inl (by rw [h]; simp)) Or.inr) ?_; refine Ji rfl (nK hK2 ?_); refine sQ fun _ hK3 => sR fun _ hK4 => ?_; refine LS 2 [] rfl rfl (nK hK4 ?_); refine Jc rfl (fun h5 => ?_) (fun h5 => ?_)
  try simp only [ZZ] at h5
  refine sQ fun _ hK6 => ?_
  have hf := wq (by assumption)
  refine Ja (JD rfl rfl rfl Juo Jff (Ji rfl ?_)); refine nK hK6 (Jb (Jd ?_)); refine pT rfl rfl rfl fun w1 hs1 => ?_; refine ⟨?_, hs1.keep⟩; rw [Ji4 (a := a.er) hf]; rfl
  · try simp only [ZZ] at h5
    refine Jf (hK3 ?_); refine sQ fun _ hK7 => ?_
    obtain ⟨i, x, hidx, hx, hf⟩ := Jgw (by assumption)
    refine Ja (LS 3 [1] rfl rfl ?_)
    refine LR rfl (Jp (j := i) rfl hseg rfl rfl rfl (by first | rfl | omega) (by have := (List.getElem?_eq_some_iff.1 hx).1; omega)) ?_; refine LR rfl (JO (off' := XS a.p + (i * 2 + 1)) rfl rfl (by show XS a.p + i * 2 + 1 = _; omega)) ?_; refine LR rfl (QX JU (k := 1) (v := J2 x.2) (fun q hq => Or.inr hq) rfl hseg hx rfl rfl) ?_; refine Ji rfl (nK hK7 ?_); refine Jb (pT rfl rfl rfl fun w1 hs1 => ?_); refine ⟨?_, hs1.keep⟩; rw [Jmz (a := a.er) hf]; rfl
theorem Jpb {R : Jr} {xs : List (BS × BS)} {row : Vz} (hl : xs.length ≤ 1000) (hrow : rowOk 2 xs.length (xs.flatMap QU) row) {g : FuncId} {caps : List Value} {pr : BS × BS → Bool} (eg : Enters Tryz.prog g) (hg : ∀ x ∈ xs, PureR Tryz.prog g (vS x :: caps).toArray (.bool (pr x)) R) :
    PureT (α := { row' : Vz // rowOk 2 (xs.filter fun x => !pr x).length ((xs.filter fun x => !pr x).flatMap QU) row' }) Tryz.prog 49 [JF xs.length row, .func (.func g) #[] caps.toArray].toArray (fun x => JF (xs.filter fun x => !pr x).length x.1) (JY 59 (xs.flatMap QU) row) (fun x => JY 59 ((xs.filter fun x => !pr x).flatMap QU) x.1) R := by
  have hseg := Qg (e := 59) hrow (by decide)
  have hV := We xs.length row (fun h => by subst h; exact hrow.1)
  have hidx := yh (R := JY 59 (xs.flatMap QU) row ++ R) (by omega) (hseg.mono fun q hq => List.mem_append_left _ hq) eg (fun x hx => (hg x hx).mono fun q hq => List.mem_append_right _ hq)
  rw [hV] at hidx
  obtain ⟨m, hm⟩ : ∃ m, m = Yz pr xs := ⟨_, rfl⟩
  rw [← hm] at hidx; refine JH Tryz.func49 rfl rfl fun w => ?_; refine sR fun K1 hK1 => Ji rfl (nK hK1 ?_); clear hK1 K1; refine sR fun K2 hK2 => LS 2 [] rfl rfl ?_; refine Jh (Rl := JY 59 (xs.flatMap QU) row ++ R) rfl rfl rfl Jun hidx (fun q hq => (List.mem_append.1 hq).elim Or.inl Or.inr) ?_; refine Ji rfl (nK hK2 ?_); clear hK2 K2; refine sQ fun K3 hK3 => sR fun K4 hK4 => ?_; refine LS 2 [] rfl rfl (nK hK4 ?_); clear hK4 K4; refine Jc rfl (fun h5 => ?_) (fun h5 => ?_)
  try simp only [ZZ] at h5
  refine sR fun K6 hK6 => LS 2 [] rfl rfl (nK hK6 ?_); clear hK6 K6; refine Jb (Jd ?_); clear hK3 K3; refine pT rfl rfl rfl fun w1 hs1 => ?_
  (have hall := Jrs (pr := pr) (xs := xs) (by omega)
   rw [hall]
   exact ⟨⟨row, hrow⟩, rfl, hs1⟩)
  · try simp only [ZZ] at h5
    refine Jf (hK3 ?_); clear hK3 K3; refine sQ fun K7 hK7 => sQ fun K8 hK8 => ?_
    obtain ⟨i, e0⟩ : ∃ i : Nat, m = (i : Int) := by
      rcases wp (pr := pr) (xs := xs) with ⟨h, _⟩ | ⟨i, _, h, _⟩
      · unfold Yz at hm h; split at hm <;> split at h <;> first | omega | simp_all
      exact ⟨i, hm.trans h⟩
    subst e0
    obtain ⟨hil, hif⟩ := Jrr hm.symm
    obtain ⟨r, cap, sp, rfl⟩ := row_some hrow (by omega)
    obtain ⟨hr1, hr2⟩ := hrow
    obtain ⟨x0, hx0, _⟩ := QC hil
    have hsplit : xs.flatMap QU ++ sp = ((xs.take (i + 1)).filter fun x => !pr x).flatMap QU ++ (QU x0 ++ ((xs.drop (i + 1)).flatMap QU ++ sp)) := by
      rw [hif, ← List.append_assoc (QU x0), ← Jcj hx0, ← List.append_assoc, ← List.flatMap_append, List.take_append_drop]
    change HC _ _ _ [(r, .cells (xs.flatMap QU ++ sp).toArray 59 (0, 0))] _ _ _; rw [hsplit]
    have hcap : xs.length ≤ cap := by omega
    have hi1 : ((xs.take (i + 1)).filter fun x => !pr x).length = i := by rw [hif, List.length_take]; omega
    refine Ja (LS 2 [] rfl rfl (Jt (by omega) (by omega) ?_)); refine Ji rfl (nK hK8 ?_); clear hK8 K8; refine Ju ?_; refine JG (σ := Nat × List Value) (fun s => s.1 ≤ xs.length ∧ ((xs.take s.1).filter fun x => !pr x).length < s.1 ∧ s.2.length + ((xs.take s.1).filter fun x => !pr x).length * 2 = s.1 * 2) (fun s => [(0, .slice (some ⟨r, 0, none⟩) xs.length cap), (1, .func (.func g) #[] caps.toArray), (5, .int .i64 (((xs.take s.1).filter fun x => !pr x).length : Nat)), (6, .int .i64 (s.1 : Int))]) (fun s => [(r, .cells (((xs.take s.1).filter fun x => !pr x).flatMap QU ++ (s.2 ++ ((xs.drop s.1).flatMap QU ++ sp))).toArray 59 (0, 0))]) (fun _ _ _ => True) (fun s => xs.length - s.1) (i + 1, QU x0) ⟨by simp only; omega, by simp only; omega, by simp only [JU]; omega⟩ (.cons rfl (.cons rfl (.cons (by rw [hi1]; rfl) (.cons rfl .nil)))) (List.Sublist.refl _) (fun _ _ h => h) ?_; rintro ⟨j, G⟩ ⟨hj1, hj2, hG⟩; simp only at hj1 hj2 hG; change HC _ _ [(0, _), (1, _), (5, .int .i64 (((xs.take j).filter fun x => !pr x).length : Nat)), (6, .int .i64 (j : Int))] [(r, .cells (((xs.take j).filter fun x => !pr x).flatMap QU ++ (G ++ ((xs.drop j).flatMap QU ++ sp))).toArray 59 (0, 0))] _ _ _; refine sQ fun K9 hK9 => sR fun K10 hK10 => ?_; refine LS 2 [] rfl rfl ?_; refine LR rfl (KI rfl rfl) ?_; refine JZ rfl (nK hK10 ?_); clear hK10 K10; refine Jc rfl (fun h11 => ?_) (fun h11 => ?_)
    try simp only [ZZ] at h11
    refine Jf (hK9 ?_); clear hK9 K9; refine sB fun K12 hK12 => sQ fun K13 hK13 => ?_
    obtain ⟨x, hx, hmx⟩ := QC (show j < xs.length by omega)
    rw [Jcj hx, List.append_assoc (QU x)]; refine Ja (LS 2 [] rfl rfl (LR rfl (Ki (j := j) (m := 2) rfl rfl rfl rfl rfl (by omega) rfl) ?_)); refine LR rfl (Jx (n := 2) (vs := QU x) rfl (kn 0 rfl) rfl rfl (by simp only [List.toList_toArray]; rw [← List.append_assoc, List.drop_left' (by rw [List.length_append, KU JU]; omega), List.take_left' (JU x)]) rfl) ?_; refine LN rfl fun r1 => ?_; refine Jz (k := 0) (n := 2) (ys := QU x) rfl rfl rfl rfl rfl rfl rfl rfl rfl ?_; refine nK hK13 ?_; clear hK13 K13; refine sR fun K14 hK14 => Ji rfl (LR rfl (Jq (xs := QU x) (n := 2) rfl (kn 0 rfl) rfl rfl rfl) (Jh rfl rfl rfl eg (hg x hmx) (fun q hq => Or.inr hq) ?_)); refine JZ rfl (nK hK14 ?_); clear hK14 K14; refine Jc rfl (fun h15 => ?_) (fun h15 => ?_)
    try simp only [ZZ] at h15
    refine sQ fun K16 hK16 => ?_
    obtain ⟨M, G2, hcut, lM⟩ := cut (l := G ++ QU x) (a := 2) (by rw [List.length_append, JU]; omega)
    have lG2 : G2.length = G.length := by have := congrArg List.length hcut; simp only [List.length_append, JU] at this; omega
    have hkeep := Yd (pr := fun x => !pr x) hx
    rw [if_pos (by simp_all)] at hkeep; refine Ja (LS 2 [] rfl rfl (LR rfl (Jq (xs := QU x) (n := 2) rfl (kn 0 rfl) rfl rfl rfl) ?_)); refine LR rfl (Ki (j := ((xs.take j).filter fun x => !pr x).length) (m := 2) rfl rfl rfl rfl rfl (by omega) rfl) ?_; refine QV (k := 1) (n := 2) (vs := (QU x).toArray) (cs' := (((xs.take j).filter fun x => !pr x).flatMap QU ++ (QU x ++ (G2 ++ ((xs.drop (j + 1)).flatMap QU ++ sp)))).toArray) rfl rfl rfl rfl rfl rfl rfl (by simp only [List.size_toArray, List.length_append, KU JU]; omega) (by apply Array.toList_inj.1; simp only [List.toList_toArray, Nat.zero_add]; rw [show G ++ (QU x ++ ((xs.drop (j + 1)).flatMap QU ++ sp)) = M ++ (G2 ++ ((xs.drop (j + 1)).flatMap QU ++ sp)) by rw [← List.append_assoc, hcut, List.append_assoc]]; exact Xs (KU JU _) lM) rfl ?_; refine nK hK16 ?_; clear hK16 K16; refine Ja (LS 2 [] rfl rfl (Jt (by omega) (by omega) ?_)); refine Ji rfl (Jg ?_); refine Jj (hK12 ?_); clear hK12 K12; refine Ja (LS 2 [] rfl rfl (Jt (by omega) (by omega) ?_)); refine Ji rfl (Jg (J5 ?_)); exact J1 (j + 1, G2) ⟨by simp only; omega, by simp only; rw [hkeep, List.length_append, List.length_singleton]; omega, by simp only; rw [hkeep, List.length_append, List.length_singleton]; omega⟩ (by simp only; omega) (.cons rfl (.cons rfl (.cons (by simp only [Vs]; rw [hkeep, List.length_append, List.length_singleton]; rfl) (.cons rfl .nil)))) (by simp only [hkeep, List.flatMap_append, List.flatMap_singleton, List.append_assoc]; exact List.sublist_cons_self _ _) (fun _ _ h => h)
    try simp only [ZZ] at h15
    refine Jf (Jj (hK12 ?_)); clear hK12 K12; refine Ja (LS 2 [] rfl rfl (Jt (by omega) (by omega) ?_)); refine Ji rfl (Jg (J5 ?_))
    (have hdel := Yd (pr := fun x => !pr x) hx
     rw [if_neg (by simp_all), List.append_nil] at hdel
     exact J1 (j + 1, G ++ QU x) ⟨by simp only; omega, by simp only; rw [hdel]; omega, by simp only [List.length_append, JU]; rw [hdel]; omega⟩ (by simp only; omega) (.cons rfl (.cons rfl (.cons (by simp only [Vs]; rw [hdel]; try rfl) (.cons rfl .nil)))) (by simp only [hdel, List.append_assoc]; exact List.sublist_cons_self _ _) (fun _ _ h => h))
    · try simp only [ZZ] at h11
      refine JE (Jl ?_); clear hK9 K9; refine Jl (J0 (hK7 ?_)); clear hK7 K7; refine sQ fun K17 hK17 => ?_
      have hjn : j = xs.length := by omega
      have hdrop : (xs.drop j).flatMap QU = [] := by rw [List.drop_of_length_le (by omega)]; rfl
      rw [hdrop, List.nil_append]; refine Ja (LS 2 [] rfl rfl ?_); refine LR rfl (JR (sz := 2) (m := ((xs.take j).filter fun x => !pr x).length) (kl := some ((xs.take j).filter fun x => !pr x).length) (kh := none) (km := none) (q := xs.length) (z := cap) (off' := ((xs.take j).filter fun x => !pr x).length * 2) rfl rfl rfl ⟨_, rfl⟩ trivial trivial rfl rfl rfl (by omega) (by omega) (by omega) (fun _ => rfl) (by rw [if_neg (by omega)]; omega)) ?_; refine Jiw (k := 0) (sz := 2) rfl rfl rfl rfl rfl rfl rfl (by decide) (by simp only [List.size_toArray, List.length_append, KU JU, List.length_drop]; omega) (Xs (P := ((xs.take j).filter fun x => !pr x).flatMap QU) (M := G) (S := sp) (KU JU _) (by omega)) rfl ?_; refine nK hK17 ?_; clear hK17 K17; refine sR fun K18 hK18 => LS 2 [] rfl rfl ?_
      refine LR rfl (JR (sz := 2) (q := ((xs.take j).filter fun x => !pr x).length) (kl := none) (kh := some ((xs.take j).filter fun x => !pr x).length) (km := none) (m := 0) (z := cap) (off' := 0) rfl rfl rfl trivial ⟨_, rfl⟩ trivial rfl rfl rfl (by omega) (by omega) (by omega) (fun h => by cases h) (by split <;> omega)) ?_; refine Ji rfl (nK hK18 ?_); clear hK18 K18; refine Jb (pT rfl rfl rfl fun w1 hs1 => ?_)
      (have hfull : (xs.take j).filter (fun x => !pr x) = xs.filter fun x => !pr x := by rw [hjn, List.take_length]
       rw [hfull] at hs1 ⊢; refine ⟨⟨some (r, cap, _), KU JU _, ?_⟩, rfl, hs1.weakL (by simp only [JY]; exact List.Sublist.refl _)⟩
       have hz : ∀ n, (Builtin.zeroCells (Value.agg #[Value.string ⟨#[]⟩, Value.string ⟨#[]⟩]).cells n).toList.length = n * 2 := fun n => by rw [Array.length_toList, size_zeroCells]; rfl
       rw [List.length_append, hz]
       have := List.length_filter_le (fun x => !pr x) xs
       omega)
theorem Jt8 {R : Jr} {a : AcL} (ha : a.In R) (k v : BS) : PureT (α := AcRes R (wg a.er k v)) Tryz.prog 25 [a.val, J2 k, J2 v].toArray (fun x => x.val) [] (fun x => x.L) R := by
  have hlk := Jfg ha
  have hl := ha.len
  have hseg := ha.seg
  have hset : wg a.er k v = if XE a.er ≠ 0 then (a.er, XE a.er) else if k.length ≠ 32 ∨ v.length ≠ 32 then (a.er, 2) else if (Qf a.slots k v).length > 16 then (a.er, 5) else (⟨a.addr, a.nonce, a.bal, a.code, Qf a.slots k v⟩, 0) := rfl
  refine JH Tryz.func25 rfl rfl fun w => ?_; refine sR fun _ hK1 => ?_; refine LN rfl fun r1 => ?_; refine LN rfl fun r2 => ?_; refine LN rfl fun r3 => ?_; refine Ji rfl (nK hK1 ?_); refine sQ fun _ hK2 => sR fun _ hK3 => ?_; refine LR rfl (Jx (vs := [_, _, _, _, _, _, _, _]) rfl (kn 2 rfl) rfl rfl rfl rfl) ?_; refine Jh rfl rfl rfl Jum hlk (fun q hq => Or.inr hq) ?_; refine Ji rfl (nK hK3 ?_); refine sR fun _ hK4 => LS 2 [] rfl rfl (nK hK4 ?_); refine Jc rfl (fun h5 => ?_) (fun h5 => ?_)
  try simp only [ZZ] at h5
  refine sR fun _ hK6 => LS 2 [2] rfl rfl ?_
  refine LT 0 rfl rfl (Ji rfl ?_); refine nK hK6 (Jb (Jd ?_)); refine Jv rfl rfl (.cons (J6 (vs := [_, _, _, _, _, _, _, _]) rfl (kn 0 rfl) rfl rfl) (.cons (J4 rfl) .nil)) (fun w1 hs1 => ?_); rw [hset, if_pos (by omega)]; exact ⟨⟨a, XE a.er, [], ha, rfl⟩, rfl, hs1.weakL (List.nil_sublist _)⟩
  · try simp only [ZZ] at h5
    refine Jf (hK2 ?_); refine sQ fun _ hK7 => sR fun _ hK8 => ?_; refine LR rfl (Jm rfl (kn 1 rfl) rfl rfl) ?_; refine LR rfl (JT rfl rfl) ?_; refine LS 2 [] rfl rfl ?_
    refine JA 19 rfl (fun hb9 => ?_) (fun hb9 => ?_) <;> (try simp only [ZZ] at hb9) <;> first | (refine Ji rfl ?_) | (refine LK rfl ?_)
    all_goals first
      | (refine LR rfl (JT rfl rfl) ?_)
      | (refine LK rfl ?_)
    all_goals refine LW 2 [] rfl rfl ?_
    all_goals refine Jg ?_
    all_goals (
     refine hK8 ?_; refine Jc rfl (fun h12 => ?_) (fun h12 => ?_)
     try simp only [ZZ] at h12
     refine sR fun _ hK13 => ?_; refine LR rfl (Jx (vs := [_, _, _, _, _, _, _, _]) rfl (kn 2 rfl) rfl rfl rfl rfl) ?_
     refine LT 0 rfl rfl (Ji rfl ?_); refine nK hK13 (Jb (Jd ?_)); refine Jv rfl rfl (.cons (J6 (vs := [_, _, _, _, _, _, _, _]) rfl (kn 0 rfl) rfl rfl) (.cons (J4 rfl) .nil)) (fun w1 hs1 => ?_); rw [hset, if_neg (by omega), if_pos (by omega)]; exact ⟨⟨a, 2, [], ha, rfl⟩, rfl, hs1.weakL (List.nil_sublist _)⟩
     · try exact Bool.noConfusion h12
       all_goals try simp only [ZZ] at h12
       all_goals (
        refine Jf (hK7 ?_); refine sQ fun _ hK14 => ?_
        have hok : KE Prod.fst a.slots ∧ a.slots.length ≤ 16 := ⟨(WW (a := a.er) (by omega)).2.2.1, (WW (a := a.er) (by omega)).2.2.2.2⟩
        have hinl : (Q0 Prod.fst (k, v) a.slots).length ≤ 17 := by
          have := hok.2
          rw [Jgo hok.1]
          split <;> omega
        refine Ja ?_
        refine LS 4 [2, 1] rfl rfl ?_; refine LR rfl (JI (r := [_, _]) rfl rfl) ?_; refine Qr rfl rfl rfl (enters_of Tryz.func47 (by kernel_rfl) rfl) (Jsq (by have := hok.2; omega) hseg hok.1 (k, v)) (fun q hq => Or.inr hq) fun x => ?_
        obtain ⟨row, hrow⟩ := x
        refine KH List.perm_append_comm ?_; change HL _ _ ((30, JF (Q0 Prod.fst (k, v) a.slots).length row) :: _) ((r3, _) :: (r2, _) :: (r1, _) :: JY _ _ row) _ _ _ _; refine Ji rfl (nK hK14 ?_); refine sQ fun _ hK15 => sR fun _ hK16 => ?_; refine Ji rfl (JD rfl rfl rfl Juo Jff (LR rfl (QT rfl rfl) ?_)); refine nK hK16 ?_; refine Jc rfl (fun h17 => ?_) (fun h17 => ?_)
        try simp only [ZZ] at h17
        have hdC := Jpb (R := [(r2, Obj.cells #[J2 k] 9 (0, 0))]) (caps := [.pointer (some ⟨r2, 0, none⟩)]) (pr := fun x => decide (x.1 = k)) (by omega) hrow (enters_of Tryz.func50 (by kernel_rfl) rfl) (fun x _ => Jv1 List.mem_cons_self x)
        rw [Je2, show qf Prod.fst k a.slots = Qf a.slots k v from by unfold Qf; rw [if_pos (by assumption)]] at hdC; refine Ja (Ji rfl (LR rfl (Kv rfl rfl) ?_)); refine Vn (T := JY _ _ row) (L0 := [(r3, _), (r2, _), (r1, _)]) (Rl := [(r2, Obj.cells #[J2 k] 9 (0, 0))]) (List.perm_append_comm (l₁ := [_, _, _])) rfl rfl rfl (enters_of Tryz.func49 (by kernel_rfl) rfl) hdC (fun q hq => Or.inl (by rw [List.mem_singleton.1 hq]; exact List.mem_cons_of_mem _ List.mem_cons_self)) fun x => ?_
        obtain ⟨row2, hrow2⟩ := x
        refine KH List.perm_append_comm ?_; change HL _ _ ((36, JF (Qf a.slots k v).length row2) :: _) ((r3, _) :: (r2, _) :: (r1, _) :: JY _ _ row2) _ _ _ _; refine Ji rfl (nK hK15 ?_); refine sQ fun _ hK18 => sQ fun _ hK19 => ?_
        try rw [show Q0 Prod.fst (k, v) a.slots = Qf a.slots k v from by unfold Qf; rw [if_neg (by assumption)]] at hrow ⊢
        refine Ja (Ji rfl (LR rfl (Xk rfl hrow2.zero rfl) ?_)); refine JZ rfl (nK hK19 ?_); refine Jc rfl (fun h20 => ?_) (fun h20 => ?_)
        try simp only [ZZ] at h20
        refine sR fun _ hK21 => ?_; refine LR rfl (Jx (vs := [_, _, _, _, _, _, _, _]) rfl (kn 2 rfl) rfl rfl rfl rfl) ?_
        refine LT 0 rfl rfl (Ji rfl ?_); refine nK hK21 (Jb (Jd ?_)); refine Jv rfl rfl (.cons (J6 (vs := [_, _, _, _, _, _, _, _]) rfl (kn 0 rfl) rfl rfl) (.cons (J4 rfl) .nil)) (fun w1 hs1 => ?_); rw [hset, if_neg (by omega), if_neg (by omega), if_pos (by omega)]; exact ⟨⟨a, 5, [], ha, rfl⟩, rfl, hs1.weakL (List.nil_sublist _)⟩
        try simp only [ZZ] at h20
        refine Jf (hK18 ?_); refine sR fun _ hK22 => Ji rfl ?_
        refine LS 1 [] rfl rfl ?_; refine Kz (k := 2) (cs' := #[J2 a.addr, uV a.nonce, uV a.bal.a, uV a.bal.b, uV a.bal.c, uV a.bal.d, J2 a.code, JF (Qf a.slots k v).length row2]) rfl rfl rfl rfl rfl (YV _ _) rfl rfl rfl rfl ?_; refine nK hK22 (sR fun _ hK23 => ?_); refine LR rfl (Jx (vs := [_, _, _, _, _, _, _, _]) rfl (kn 2 rfl) rfl rfl rfl rfl) ?_; refine QV (k := 0) (n := 8) (cs' := #[J2 a.addr, uV a.nonce, uV a.bal.a, uV a.bal.b, uV a.bal.c, uV a.bal.d, J2 a.code, JF (Qf a.slots k v).length row2]) (vs := #[_, _, _, _, _, _, _, _]) rfl rfl rfl rfl rfl rfl (by show (QR (JF _ _) && true) = true; rw [YV]; rfl) (by exact Nat.le_of_ble_eq_true rfl) rfl rfl ?_; refine Ji rfl (nK hK23 ?_); refine Jb ?_; refine Jv rfl rfl (.cons (J6 (vs := [_, _, _, _, _, _, _, _]) rfl (kn 0 rfl) rfl rfl) (.cons (J4 rfl) .nil)) (fun w1 hs1 => ?_)
        (rw [hset, if_neg (by omega), if_neg (by omega), if_neg (by omega)]
         exact ⟨⟨⟨a.addr, a.nonce, a.bal, a.code, Qf a.slots k v, Vo row2⟩, 0, JY 59 ((Qf a.slots k v).flatMap QU) row2, ws ha (by omega) (by omega) (by omega) (Qg hrow2 (by decide)), rfl⟩, by show Ending.returned _ = Ending.returned (Value.tuple #[Value.agg #[J2 a.addr, uV a.nonce, uV a.bal.a, uV a.bal.b, uV a.bal.c, uV a.bal.d, J2 a.code, KM (Qf a.slots k v).length (Vo row2)], .int .i64 0]); rw [We _ _ hrow2.zero]; rfl, hs1.weakL (List.sublist_append_right [_, _, _] _)⟩)
        try simp only [ZZ] at h17
        refine Jf (hK15 ?_); refine sQ fun _ hK24 => sQ fun _ hK25 => ?_
        try rw [show Q0 Prod.fst (k, v) a.slots = Qf a.slots k v from by unfold Qf; rw [if_neg (by assumption)]] at hrow ⊢
        refine Ja (Ji rfl (LR rfl (Xk rfl hrow.zero rfl) ?_)); refine JZ rfl (nK hK25 ?_); refine Jc rfl (fun h26 => ?_) (fun h26 => ?_)
        try simp only [ZZ] at h26
        refine sR fun _ hK27 => ?_; refine LR rfl (Jx (vs := [_, _, _, _, _, _, _, _]) rfl (kn 2 rfl) rfl rfl rfl rfl) ?_
        refine LT 0 rfl rfl (Ji rfl ?_); refine nK hK27 (Jb (Jd ?_)); refine Jv rfl rfl (.cons (J6 (vs := [_, _, _, _, _, _, _, _]) rfl (kn 0 rfl) rfl rfl) (.cons (J4 rfl) .nil)) (fun w1 hs1 => ?_); rw [hset, if_neg (by omega), if_neg (by omega), if_pos (by omega)]; exact ⟨⟨a, 5, [], ha, rfl⟩, rfl, hs1.weakL (List.nil_sublist _)⟩
        try simp only [ZZ] at h26
        refine Jf (hK24 ?_); refine sR fun _ hK28 => Ji rfl ?_
        refine LS 1 [] rfl rfl ?_; refine Kz (k := 2) (cs' := #[J2 a.addr, uV a.nonce, uV a.bal.a, uV a.bal.b, uV a.bal.c, uV a.bal.d, J2 a.code, JF (Qf a.slots k v).length row]) rfl rfl rfl rfl rfl (YV _ _) rfl rfl rfl rfl ?_; refine nK hK28 (sR fun _ hK29 => ?_); refine LR rfl (Jx (vs := [_, _, _, _, _, _, _, _]) rfl (kn 2 rfl) rfl rfl rfl rfl) ?_; refine QV (k := 0) (n := 8) (cs' := #[J2 a.addr, uV a.nonce, uV a.bal.a, uV a.bal.b, uV a.bal.c, uV a.bal.d, J2 a.code, JF (Qf a.slots k v).length row]) (vs := #[_, _, _, _, _, _, _, _]) rfl rfl rfl rfl rfl rfl (by show (QR (JF _ _) && true) = true; rw [YV]; rfl) (by exact Nat.le_of_ble_eq_true rfl) rfl rfl ?_; refine Ji rfl (nK hK29 ?_); refine Jb ?_; refine Jv rfl rfl (.cons (J6 (vs := [_, _, _, _, _, _, _, _]) rfl (kn 0 rfl) rfl rfl) (.cons (J4 rfl) .nil)) (fun w1 hs1 => ?_)
        (rw [hset, if_neg (by omega), if_neg (by omega), if_neg (by omega)]
         exact ⟨⟨⟨a.addr, a.nonce, a.bal, a.code, Qf a.slots k v, Vo row⟩, 0, JY 59 ((Qf a.slots k v).flatMap QU) row, ws ha (by omega) (by omega) (by omega) (Qg hrow (by decide)), rfl⟩, by show Ending.returned _ = Ending.returned (Value.tuple #[Value.agg #[J2 a.addr, uV a.nonce, uV a.bal.a, uV a.bal.b, uV a.bal.c, uV a.bal.d, J2 a.code, KM (Qf a.slots k v).length (Vo row)], .int .i64 0]); rw [We _ _ hrow.zero]; rfl, hs1.weakL (List.sublist_append_right [_, _, _] _)⟩)
        skip)
     skip)
theorem Jxr {R : Jr} {s : StL} {a : AcL} (hs : s.In R) (ha : a.In R) : PureT (α := StRes R (Jrh s.er a.er)) Tryz.prog 23 [s.val, a.val].toArray (fun x => x.val) [] (fun x => x.L) R := by
  have hc := Wx hs
  have hlk := Jfg ha
  have hl := hs.len
  have hseg := hs.seg
  have hput : Jrh s.er a.er = if Qv s.er ≠ 0 then (s.er, Qv s.er) else if XE a.er ≠ 0 then (s.er, XE a.er) else if (Q0 AcE.addr a.er s.er).length > 32 then (s.er, 5) else (Q0 AcE.addr a.er s.er, 0) := rfl
  have hil : (Q0 AcE.addr a.er s.er).length = (Q0 AcL.addr a s.accts).length := by unfold StL.er; rw [← Je3, List.length_map]
  rw [hil] at hput; refine JH Tryz.func23 rfl rfl fun w => ?_; refine sR fun _ hK1 => ?_; refine LN rfl fun r1 => ?_; refine LN rfl fun r2 => ?_; refine LN rfl fun r3 => ?_; refine Ji rfl (nK hK1 ?_); refine sQ fun _ hK2 => sR fun _ hK3 => ?_; refine LR rfl (Jx (vs := [_]) rfl (kn 2 rfl) rfl rfl rfl rfl) ?_; refine Jh rfl rfl rfl Jed hc (fun q hq => Or.inr hq) ?_; refine Ji rfl (nK hK3 ?_); refine sR fun _ hK4 => LS 2 [] rfl rfl (nK hK4 ?_); refine Jc rfl (fun h5 => ?_) (fun h5 => ?_)
  try simp only [ZZ] at h5
  refine sR fun _ hK6 => LS 2 [2] rfl rfl ?_
  refine LT 0 rfl rfl (Ji rfl ?_); refine nK hK6 (Jb (Jd ?_)); refine Jv rfl rfl (.cons (J6 (vs := [_]) rfl (kn 0 rfl) rfl rfl) (.cons (J4 rfl) .nil)) (fun w1 hs1 => ?_); rw [hput, if_pos (by omega)]; exact ⟨⟨s, Qv s.er, [], hs, rfl⟩, rfl, hs1.weakL (List.nil_sublist _)⟩
  · try simp only [ZZ] at h5
    refine Jf (hK2 ?_); refine sQ fun _ hK7 => sR fun _ hK8 => ?_; refine LR rfl (Jx (vs := [_, _, _, _, _, _, _, _]) rfl (kn 1 rfl) rfl rfl rfl rfl) ?_; refine Jh rfl rfl rfl Jum hlk (fun q hq => Or.inr hq) ?_; refine Ji rfl (nK hK8 ?_); refine sR fun _ hK9 => LS 2 [] rfl rfl (nK hK9 ?_); refine Jc rfl (fun h10 => ?_) (fun h10 => ?_)
    try simp only [ZZ] at h10
    refine sR fun _ hK11 => LS 2 [2] rfl rfl ?_
    refine LT 0 rfl rfl (Ji rfl ?_); refine nK hK11 (Jb (Jd ?_)); refine Jv rfl rfl (.cons (J6 (vs := [_]) rfl (kn 0 rfl) rfl rfl) (.cons (J4 rfl) .nil)) (fun w1 hs1 => ?_); rw [hput, if_neg (by omega), if_pos (by omega)]; exact ⟨⟨s, XE a.er, [], hs, rfl⟩, rfl, hs1.weakL (List.nil_sublist _)⟩
    · try simp only [ZZ] at h10
      refine Jf (hK7 ?_); refine sQ fun _ hK12 => ?_
      have hok : s.accts.length ≤ 32 ∧ KE AcL.addr s.accts := by
        have h := xz.1 (show Qv s.er = 0 by omega)
        rw [s.er_len] at h; exact ⟨h.1, (Ji5 s).2 h.2.2⟩
      refine Ja ?_
      refine LS 3 [2, 1] rfl rfl ?_; refine Qr rfl rfl rfl (enters_of Tryz.func46 (by kernel_rfl) rfl) (Jsp (by omega) hseg hok.2 a) (fun q hq => Or.inr hq) fun x => ?_
      obtain ⟨row, hrow⟩ := x
      refine KH List.perm_append_comm ?_; change HL _ _ ((24, JF (Q0 AcL.addr a s.accts).length row) :: _) ((r3, _) :: (r2, _) :: (r1, _) :: JY _ _ row) _ _ _ _; refine Ji rfl (nK hK12 ?_); refine sQ fun _ hK13 => sR fun _ hK14 => ?_; refine Ji rfl (LR rfl (Xk rfl hrow.zero rfl) (JZ rfl ?_)); refine nK hK14 ?_; refine Jc rfl (fun h15 => ?_) (fun h15 => ?_)
      try simp only [ZZ] at h15
      refine sR fun _ hK16 => ?_; refine LR rfl (Jx (vs := [_]) rfl (kn 2 rfl) rfl rfl rfl rfl) ?_
      refine LT 0 rfl rfl (Ji rfl ?_); refine nK hK16 (Jb (Jd ?_)); refine Jv rfl rfl (.cons (J6 (vs := [_]) rfl (kn 0 rfl) rfl rfl) (.cons (J4 rfl) .nil)) (fun w1 hs1 => ?_); rw [hput, if_neg (by omega), if_neg (by omega), if_pos (by omega)]; exact ⟨⟨s, 5, [], hs, rfl⟩, rfl, hs1.weakL (List.nil_sublist _)⟩
      · try simp only [ZZ] at h15
        refine Jf (hK13 ?_); refine sR fun _ hK17 => Ji rfl ?_
        refine LR rfl (JI (r := [JF _ row]) rfl (by cases row <;> rfl)) ?_; refine QV (k := 0) (n := 1) (cs' := #[JF (Q0 AcL.addr a s.accts).length row]) (vs := #[_]) rfl rfl rfl rfl rfl rfl (by show (QR (JF _ _) && true) = true; rw [YV]; rfl) (by exact Nat.le_of_ble_eq_true rfl) rfl rfl ?_; refine Ji rfl (nK hK17 ?_); refine Jb ?_; refine Jv rfl rfl (.cons (J6 (vs := [_]) rfl (kn 0 rfl) rfl rfl) (.cons (J4 rfl) .nil)) (fun w1 hs1 => ?_)
        (rw [hput, if_neg (by omega), if_neg (by omega), if_neg (by omega)]
         exact ⟨⟨⟨Q0 AcL.addr a s.accts, Vo row⟩, 0, JY 34 ((Q0 AcL.addr a s.accts).flatMap AcL.cells) row, ⟨by show (Q0 AcL.addr a s.accts).length ≤ 9223372036854775807; omega, (Qg hrow (by decide)).mono fun q hq => List.mem_append_left _ hq, fun x hx => ((vm hx).elim (fun e => by rw [e]; exact ha) (hs.accts x)).mono fun q hq => List.mem_append_right _ hq⟩, by unfold StL.er; rw [Je3]⟩, by show Ending.returned _ = Ending.returned (Value.tuple #[Value.agg #[KM (Q0 AcL.addr a s.accts).length (Vo row)], .int .i64 0]); rw [We _ _ hrow.zero]; rfl, hs1.weakL (List.sublist_append_right [_, _, _] _)⟩)
theorem Jpc {R : Jr} {xs ys : List (BS × BS)} {p q : Pl} (hl : xs.length ≤ 9223372036854775807) (hl2 : ys.length ≤ 9223372036854775807) (hs : Seg R xs.length (xs.flatMap QU) p) (hs' : Seg R ys.length (ys.flatMap QU) q) :
    PureR Tryz.prog 44 [KM xs.length p, KM ys.length q].toArray (.bool (decide (xs = ys))) R := by
  refine Je Tryz.func44 rfl rfl fun w => ?_; refine sR fun K1 hK1 => Ji rfl (nK hK1 ?_); clear hK1 K1; refine sQ fun K2 hK2 => sR fun K3 hK3 => ?_; refine Ji rfl (LR rfl (J3 rfl hs rfl) ?_); refine Ji rfl (LR rfl (J3 rfl hs' rfl) (JZ rfl ?_)); refine nK hK3 ?_; clear hK3 K3; refine Jc rfl (fun h4 => ?_) (fun h4 => ?_)
  try simp only [ZZ] at h4
  refine sR fun K5 hK5 => Ji rfl (nK hK5 ?_); clear hK5 K5; refine Jb (Jd ?_); clear hK2 K2; refine pT rfl rfl rfl fun w1 hs1 => ?_; refine ⟨?_, hs1.keep⟩; rw [decide_eq_false (show ¬ xs = ys from fun e => by have := congrArg List.length e; omega)]; rfl
  · try simp only [ZZ] at h4
    refine Jf (hK2 ?_); clear hK2 K2; refine sQ fun K6 hK6 => sR fun K7 hK7 => ?_; refine Ji rfl (LR rfl (J3 rfl hs rfl) (Ji rfl ?_)); refine nK hK7 ?_; clear hK7 K7; refine Ju ?_
    have hll : xs.length = ys.length := by omega
    refine JG (σ := Nat) (fun i => i ≤ xs.length ∧ ∀ j, j < i → xs[j]? = ys[j]?) (fun i => [(0, KM xs.length p), (1, KM ys.length q), (12, .int .i64 (xs.length : Int)), (13, .int .i64 (i : Int))]) (fun _ => []) (fun _ _ _ => True) (fun i => xs.length - i) 0 ⟨by omega, fun j hj => absurd hj (by omega)⟩ (.cons rfl (.cons rfl (.cons rfl (.cons rfl .nil)))) (List.nil_sublist _) (fun _ _ h => h) ?_; rintro i ⟨hi1, hinv⟩; refine sR fun K8 hK8 => JZ rfl (nK hK8 ?_); clear hK8 K8; refine sQ fun K9 hK9 => ?_; refine Jc rfl (fun h10 => ?_) (fun h10 => ?_)
    try simp only [ZZ] at h10
    refine Jf (hK9 ?_); clear hK9 K9; refine sB fun K11 hK11 => sR fun K12 hK12 => ?_; refine LS 2 [] rfl rfl (nK hK12 ?_); clear hK12 K12; refine sQ fun K13 hK13 => ?_
    obtain ⟨x, hx, hmx⟩ := QC (show i < xs.length by omega)
    obtain ⟨y, hy, hmy⟩ := QC (show i < ys.length by omega)
    refine Ka 9 (by kernel_rfl) (by kernel_rfl) ?_; refine Jk rfl rfl rfl (Jo rfl) ?_; refine Jk rfl rfl rfl (Jo rfl) ?_
    refine Jk rfl rfl rfl (Jp (j := i) rfl hs rfl rfl rfl (by first | rfl | omega) (by omega)) ?_; refine Jk rfl rfl rfl (Ku JU (fun q hq => Or.inr hq) rfl hs hx rfl rfl) ?_; refine Jk rfl rfl rfl (Jo rfl) ?_; refine Jk rfl rfl rfl (Jo rfl) ?_
    refine Jk rfl rfl rfl (Jp (j := i) rfl hs' rfl rfl rfl (by first | rfl | omega) (by omega)) ?_; refine Jk rfl rfl rfl (Ku JU (fun q hq => Or.inr hq) rfl hs' hy rfl rfl) ?_; refine Jk rfl rfl rfl (Jg3 rfl rfl rfl (by kernel_rfl) (by kernel_rfl) (.scal (by decide) rfl rfl rfl rfl rfl (.scal (by decide) rfl rfl rfl rfl rfl .nil))) ?_; refine Qk (congrArg (fun b => Value.bool (!b)) (Jg5 x y)) ?_; refine Kt ?_; refine nK hK13 ?_; clear hK13 K13; refine Jc rfl (fun h14 => ?_) (fun h14 => ?_)
    try simp only [ZZ] at h14
    refine sR fun K15 hK15 => Ji rfl (nK hK15 ?_); clear hK15 K15; refine Jb (Jn (Jd ?_)); clear hK11 K11; refine Jd (Jn (Jd ?_)); clear hK6 K6; refine pT rfl rfl rfl fun w1 hs1 => ?_; refine ⟨?_, hs1.keep⟩; rw [decide_eq_false (Jm1 hx hy (by simp_all))]; rfl
    try simp only [ZZ] at h14
    refine Jf (Jj (hK11 ?_)); clear hK11 K11; refine Ja (JZ rfl (Jt (by omega) (by omega) ?_)); refine Ji rfl (Jg (J5 ?_))
    exact J1 (i + 1) ⟨by omega, fun j hj => by
      rcases Nat.lt_succ_iff_lt_or_eq.1 hj with hj | rfl
      exact hinv j hj
      rw [hx, hy]; simp_all⟩ (by omega) (.cons rfl (.cons rfl (.cons rfl (.cons rfl .nil)))) (List.nil_sublist _) (fun _ _ h => h)
    · try simp only [ZZ] at h10
      refine JE (Jl ?_); clear hK9 K9; refine Jl (J0 (hK6 ?_)); clear hK6 K6; refine sR fun K16 hK16 => Ji rfl (nK hK16 ?_); clear hK16 K16; refine Jb (pT rfl rfl rfl fun w1 hs1 => ?_); refine ⟨?_, hs1.keep⟩; rw [decide_eq_true (Jm0 hll (by omega) hinv)]; rfl
theorem Jsv (a b : AcL) : a.er = b.er ↔ a.addr = b.addr ∧ a.nonce = b.nonce ∧ a.bal = b.bal ∧ a.code = b.code ∧ a.slots = b.slots := by
  unfold AcL.er
  simp
theorem Jsw {R : Jr} {a b : AcL} (ha : a.In R) (hb : b.In R) : PureR Tryz.prog 43 [vA a, vA b].toArray (.bool (decide (a.er = b.er))) R := by
  have heq := Jpc ha.len hb.len ha.seg hb.seg
  have hE : decide (a.er = b.er) = (decide (a.addr = b.addr) && (decide (a.nonce = b.nonce) && (decide (a.bal = b.bal) && (decide (a.code = b.code) && decide (a.slots = b.slots))))) := by
    rw [Bool.eq_iff_iff]; simp only [decide_eq_true_eq, Bool.and_eq_true]; exact Jsv a b
  rw [hE]; refine Je Tryz.func43 rfl rfl fun w => ?_; refine sR fun K1 hK1 => ?_; refine LN rfl fun r1 => ?_; refine LN rfl fun r2 => ?_; refine Ji rfl (nK hK1 ?_); clear hK1 K1; refine sR fun K2 hK2 => LS 2 [1] rfl rfl ?_
  refine LS 2 [0] rfl rfl ?_; refine LR rfl (QT rfl rfl) ?_; refine Ji rfl ?_
  refine JA 10 rfl (fun hb3 => ?_) (fun hb3 => ?_) <;> (try simp only [ZZ] at hb3) <;> first | (refine LR rfl (JL rfl rfl rfl) ?_) | (refine LK rfl ?_)
  all_goals refine LW 1 [1] rfl rfl ?_
  all_goals first
    | (refine LR rfl (JL rfl rfl rfl) ?_)
    | (refine LK rfl ?_)
  all_goals refine LW 2 [0] rfl rfl ?_
  all_goals first | (refine Jy (congrArg Value.bool (eqU a.nonce b.nonce)) ?_) | skip
  all_goals refine LW 2 [] rfl rfl ?_
  all_goals first
    | (refine LK rfl ?_)
    | (refine JA 17 rfl (fun hb8 => ?_) (fun hb8 => ?_) <;> (try simp only [ZZ] at hb8) <;> first | (refine LR rfl (JL rfl rfl rfl) ?_) | (refine LK rfl ?_))
  all_goals refine LW 1 [1] rfl rfl ?_
  all_goals first
    | (refine LR rfl (JL rfl rfl rfl) ?_)
    | (refine LK rfl ?_)
  all_goals refine LW 1 [0] rfl rfl ?_
  all_goals first
    | (refine LR rfl (zG rfl rfl rfl rfl rfl (by kernel_rfl) rfl rfl rfl rfl) ?_)
    | (refine LK rfl ?_)
  all_goals first | (refine Jy (congrArg Value.bool (eqW a.bal b.bal)) ?_) | skip
  all_goals refine LW 2 [] rfl rfl ?_
  all_goals first
    | (refine LK rfl ?_)
    | (refine JA 24 rfl (fun hb13 => ?_) (fun hb13 => ?_) <;> (try simp only [ZZ] at hb13) <;> first | (refine LR rfl (JL rfl rfl rfl) ?_) | (refine LK rfl ?_))
  all_goals refine LW 1 [1] rfl rfl ?_
  all_goals first
    | (refine LR rfl (JL rfl rfl rfl) ?_)
    | (refine LK rfl ?_)
  all_goals refine LW 1 [0] rfl rfl ?_
  all_goals first
    | (refine LR rfl (QT rfl rfl) ?_)
    | (refine LK rfl ?_)
  all_goals refine LW 2 [] rfl rfl ?_
  all_goals first
    | (refine LK rfl ?_)
    | (refine JA 31 rfl (fun hb18 => ?_) (fun hb18 => ?_) <;> (try simp only [ZZ] at hb18) <;> first | (refine LR rfl (JL rfl rfl rfl) ?_) | (refine LK rfl ?_))
  all_goals refine LW 1 [1] rfl rfl ?_
  all_goals first
    | (refine LR rfl (JL rfl rfl rfl) ?_)
    | (refine LK rfl ?_)
  all_goals refine LW 1 [0] rfl rfl ?_
  all_goals first
    | (refine Jh rfl rfl rfl (enters_of Tryz.func44 (by kernel_rfl) rfl) heq (fun q hq => Or.inr hq) ?_)
    | (refine LK rfl ?_)
  all_goals refine LW 2 [] rfl rfl ?_
  all_goals refine Jg ?_
  all_goals (
   refine hK2 ?_; clear hK2 K2; refine Jb (pT rfl rfl rfl fun w1 hs1 => ?_); refine ⟨?_, hs1.keep⟩
   simp_all [JP]
   skip)
theorem qv {s t : StL} : s.er = t.er ↔ s.accts.length = t.accts.length ∧ ∀ (i : Nat) a b, s.accts[i]? = some a → t.accts[i]? = some b → a.er = b.er := by
  constructor
  · intro h
    refine ⟨by have := congrArg List.length h; rwa [s.er_len, t.er_len] at this, fun i a b ha hb => ?_⟩
    have h1 := Wd ha
    have h2 := Wd hb
    rw [h, h2] at h1; exact (Option.some.inj h1).symm
  · rintro ⟨h1, h2⟩
    apply List.ext_getElem?
    intro i
    by_cases hi : i < s.accts.length
    · obtain ⟨a, ha, _⟩ := QC hi
      obtain ⟨b, hb, _⟩ := QC (show i < t.accts.length by omega)
      rw [Wd ha, Wd hb, h2 i a b ha hb]
    · rw [List.getElem?_eq_none (by rw [s.er_len]; omega), List.getElem?_eq_none (by rw [t.er_len]; omega)]
theorem Jpd {R : Jr} {s t : StL} (hs : s.In R) (ht : t.In R) :
    PureR Tryz.prog 45 [KM s.accts.length s.p, KM t.accts.length t.p, fV 43].toArray (.bool (decide (s.er = t.er))) R := by
  have hl : s.accts.length ≤ 9223372036854775807 := hs.len
  have hl2 : t.accts.length ≤ 9223372036854775807 := ht.len
  have h1 := hs.seg
  have h2 := ht.seg
  refine Je Tryz.func45 rfl rfl fun w => ?_; refine sR fun K1 hK1 => Ji rfl (nK hK1 ?_); clear hK1 K1; refine sQ fun K2 hK2 => sR fun K3 hK3 => ?_; refine Ji rfl (LR rfl (J3 rfl h1 rfl) ?_); refine Ji rfl (LR rfl (J3 rfl h2 rfl) (JZ rfl ?_)); refine nK hK3 ?_; clear hK3 K3; refine Jc rfl (fun h4 => ?_) (fun h4 => ?_)
  try simp only [ZZ] at h4
  refine sR fun K5 hK5 => Ji rfl (nK hK5 ?_); clear hK5 K5; refine Jb (Jd ?_); clear hK2 K2; refine pT rfl rfl rfl fun w1 hs1 => ?_; refine ⟨?_, hs1.keep⟩; rw [decide_eq_false (show ¬ s.er = t.er from fun e => by have := (qv.1 e).1; omega)]; rfl
  · try simp only [ZZ] at h4
    refine Jf (hK2 ?_); clear hK2 K2; refine sQ fun K6 hK6 => sR fun K7 hK7 => ?_; refine Ji rfl (LR rfl (J3 rfl h1 rfl) (Ji rfl ?_)); refine nK hK7 ?_; clear hK7 K7; refine Ju ?_
    have hll : s.accts.length = t.accts.length := by omega
    refine JG (σ := Nat) (fun i => i ≤ s.accts.length ∧ ∀ q, q < i → ∀ a b, s.accts[q]? = some a → t.accts[q]? = some b → a.er = b.er) (fun i => [(1, KM t.accts.length t.p), (2, fV 43), (15, KM s.accts.length s.p), (16, .int .i64 (s.accts.length : Int)), (17, .int .i64 (i : Int))]) (fun _ => []) (fun _ _ _ => True) (fun i => s.accts.length - i) 0 ⟨by omega, fun j hj => absurd hj (by omega)⟩ (.cons rfl (.cons rfl (.cons rfl (.cons rfl (.cons rfl .nil))))) (List.nil_sublist _) (fun _ _ h => h) ?_; rintro i ⟨hi1, hinv⟩; refine sR fun K8 hK8 => JZ rfl (nK hK8 ?_); clear hK8 K8; refine sQ fun K9 hK9 => ?_; refine Jc rfl (fun h10 => ?_) (fun h10 => ?_)
    try simp only [ZZ] at h10
    refine Jf (hK9 ?_); clear hK9 K9; refine sB fun K11 hK11 => sQ fun K12 hK12 => ?_
    obtain ⟨x, hx, hmx⟩ := QC (show i < s.accts.length by omega)
    obtain ⟨y, hy, hmy⟩ := QC (show i < t.accts.length by omega)
    refine Ja (Ji rfl ?_)
    refine LR rfl (Jp (j := i) rfl h1 rfl rfl rfl (by first | rfl | omega) (by omega)) ?_; refine LR rfl (Ku AcL.len (fun q hq => Or.inr hq) rfl h1 hx rfl rfl) ?_; refine LN rfl fun r1 => ?_; refine Ji rfl (Jz (k := 0) (n := 8) (ys := x.cells) rfl rfl rfl rfl rfl x.len rfl x.one rfl ?_); refine nK hK12 ?_; clear hK12 K12; refine sR fun K13 hK13 => LS 2 [] rfl rfl ?_
    refine LR rfl (Jp (j := i) rfl h2 rfl rfl rfl (by first | rfl | omega) (by omega)) ?_; refine LR rfl (Ku AcL.len (fun q hq => Or.inr hq) rfl h2 hy rfl rfl) ?_; refine LN rfl fun r2 => ?_; refine Jz (k := 0) (n := 8) (ys := y.cells) rfl rfl rfl rfl rfl y.len rfl y.one rfl ?_; refine nK hK13 ?_; clear hK13 K13; refine sR fun K14 hK14 => ?_; refine Ji rfl (LR rfl (Jq (xs := x.cells) (n := 8) rfl (kn 1 rfl) rfl rfl x.len) (LR rfl (Jq (xs := y.cells) (n := 8) rfl (kn 0 rfl) rfl rfl y.len) ?_)); refine Jh rfl rfl rfl (enters_of Tryz.func43 (by kernel_rfl) rfl) (Jsw (hs.accts x hmx) (ht.accts y hmy)) (fun q hq => Or.inr hq) ?_; refine JZ rfl (nK hK14 ?_); clear hK14 K14; refine Jc rfl (fun h15 => ?_) (fun h15 => ?_)
    try simp only [ZZ] at h15
    refine sR fun K16 hK16 => Ji rfl (nK hK16 ?_); clear hK16 K16; refine Jb (Jn (Jd ?_)); clear hK11 K11; refine Jd (Jn (Jd ?_)); clear hK6 K6; refine pT rfl rfl rfl fun w1 hs1 => ?_; refine ⟨?_, hs1.keep⟩; rw [decide_eq_false (show ¬ s.er = t.er from fun e => by have := (qv.1 e).2 i x y hx hy; simp_all)]; rfl
    try simp only [ZZ] at h15
    refine Jf (Jj (hK11 ?_)); clear hK11 K11; refine Ja (JZ rfl (Jt (by omega) (by omega) ?_)); refine Ji rfl (Jg (J5 ?_))
    exact J1 (i + 1) ⟨by omega, fun q hq u v hu hv => by
      rcases Nat.lt_succ_iff_lt_or_eq.1 hq with hq | rfl
      exact hinv q hq u v hu hv
      rw [hx] at hu; rw [hy] at hv; cases hu; cases hv; simp_all⟩ (by omega) (.cons rfl (.cons rfl (.cons rfl (.cons rfl (.cons rfl .nil))))) (List.nil_sublist _) (fun _ _ h => h)
    · try simp only [ZZ] at h10
      refine JE (Jl ?_); clear hK9 K9; refine Jl (J0 (hK6 ?_)); clear hK6 K6; refine sR fun K17 hK17 => Ji rfl (nK hK17 ?_); clear hK17 K17; refine Jb (pT rfl rfl rfl fun w1 hs1 => ?_); refine ⟨?_, hs1.keep⟩; rw [decide_eq_true (qv.2 ⟨hll, fun q a b ha hb => hinv q (by have := (List.getElem?_eq_some_iff.1 ha).1; omega) a b ha hb⟩)]; rfl
theorem Jdq {R : Jr} {s t : StL} (hs : s.In R) (ht : t.In R) : PureR Tryz.prog 21 [s.val, t.val].toArray (.bool (decide (s.er = t.er))) R := by
  have h := Jpd hs ht
  refine Je Tryz.func21 rfl rfl fun w => ?_; refine sR fun _ hK1 => ?_; refine LN rfl fun r1 => ?_; refine LN rfl fun r2 => ?_; refine Ji rfl (nK hK1 ?_); refine sR fun _ hK2 => Ji rfl (nK hK2 ?_); refine sR fun _ hK3 => LS 2 [1] rfl rfl ?_
  refine LS 3 [0] rfl rfl ?_; refine Jh rfl rfl rfl (enters_of Tryz.func45 (by kernel_rfl) rfl) h (fun q hq => Or.inr hq) ?_; refine Ji rfl (nK hK3 ?_); refine Jb (pT rfl rfl rfl fun w1 hs1 => ?_); exact ⟨rfl, hs1.keep⟩
def jL (a : AcE) : Bool := !((decide (100 < a.addr.length) || (decide (60 < a.code.length) && decide (a.code.length ≤ 512))) || decide (20 < a.slots.length)) && a.slots.all fun x => !(decide (100 < x.1.length) || decide (100 < x.2.length))
def qU : Nat → Int → List AcE → Bool × Int
  | _, n, [] => (true, n)
  | i, n, a :: l => if 40 < i then (true, n) else if jL a = false then (false, n) else qU (i + 1) (n + (a.slots.length : Int)) l
def Jpe (s : List AcE) : Bool := (qU 0 0 s).1 && (decide (s.length ≤ 40) && decide ((qU 0 0 s).2 ≤ 40))
theorem Jsx {a : AcE} {i : Nat} {x : BS × BS} (hx : a.slots[i]? = some x) (h : x.1.length > 100 ∨ x.2.length > 100) : jL a = false := by
  unfold jL
  have : (a.slots.all fun x => !(decide (100 < x.1.length) || decide (100 < x.2.length))) = false := by
    rw [List.all_eq_false]
    exact ⟨x, List.mem_of_getElem? hx, by rcases h with h | h <;> simp [h]⟩
  rw [this, Bool.and_false]
theorem Jsy {a : AcE} (h : jL a = true) : a.slots.length ≤ 20 := by
  unfold jL at h
  simp only [Bool.and_eq_true, Bool.not_eq_true', Bool.or_eq_false_iff, decide_eq_false_iff_not] at h; omega
theorem Jpf {i : Nat} {n : Int} {s : List AcE} {a : AcE} (h : s[i]? = some a) (hi : i ≤ 40) (hf : jL a = true) : qU i n (s.drop i) = qU (i + 1) (n + (a.slots.length : Int)) (s.drop (i + 1)) := by
  obtain ⟨hlt, e⟩ := List.getElem?_eq_some_iff.1 h
  rw [List.drop_eq_getElem_cons hlt, e]
  unfold qU
  rw [if_neg (by omega), if_neg (by rw [hf]; simp)]
  cases s.drop (i + 1) <;> rfl
theorem Jpg {i : Nat} {n : Int} {s : List AcE} (h : 40 < i ∨ s.length ≤ i) : qU i n (s.drop i) = (true, n) := by
  rcases h with h | h
  · cases s.drop i with
    | nil => rfl
    | cons a l => unfold qU; rw [if_pos h]
  · rw [List.drop_of_length_le h]; rfl
theorem Jph {i : Nat} {n : Int} {s : List AcE} {a : AcE} (h : s[i]? = some a) (hi : i ≤ 40) (hf : jL a = false) : (qU i n (s.drop i)).1 = false := by
  obtain ⟨hlt, e⟩ := List.getElem?_eq_some_iff.1 h
  rw [List.drop_eq_getElem_cons hlt, e]
  unfold qU
  rw [if_neg (by omega), if_pos hf]
theorem Jj2 {R : Jr} {a : AcL} (ha : a.In R) : PureR Tryz.prog 22 [a.val].toArray (.bool (jL a.er)) R := by
  have hl := ha.len
  have hseg := ha.seg
  obtain ⟨res, hres⟩ : ∃ b, b = jL a.er := ⟨_, rfl⟩
  rw [← hres]
  have h1 : (100 < (a.addr.length : Int) ∨ (60 < (a.code.length : Int) ∧ (a.code.length : Int) ≤ 512) ∨ 20 < (a.slots.length : Int)) → res = false := fun h => by
    rw [hres]; unfold jL
    have : ((decide (100 < a.addr.length) || (decide (60 < a.code.length) && decide (a.code.length ≤ 512))) || decide (20 < a.slots.length)) = true := by
      simp only [Bool.or_eq_true, Bool.and_eq_true, decide_eq_true_eq]; omega
    show (!((decide (100 < a.addr.length) || (decide (60 < a.code.length) && decide (a.code.length ≤ 512))) || decide (20 < a.slots.length)) && _) = false
    rw [this]; rfl
  have h2 : ¬ (100 < (a.addr.length : Int) ∨ (60 < (a.code.length : Int) ∧ (a.code.length : Int) ≤ 512) ∨ 20 < (a.slots.length : Int)) → (∀ (j : Nat) (x : BS × BS), a.slots[j]? = some x → x.1.length ≤ 100 ∧ x.2.length ≤ 100) → res = true := fun h h' => by
    rw [hres]; unfold jL
    have e : ((decide (100 < a.addr.length) || (decide (60 < a.code.length) && decide (a.code.length ≤ 512))) || decide (20 < a.slots.length)) = false := by
      simp only [Bool.or_eq_false_iff, Bool.and_eq_false_iff, decide_eq_false_iff_not]; omega
    show (!((decide (100 < a.addr.length) || (decide (60 < a.code.length) && decide (a.code.length ≤ 512))) || decide (20 < a.slots.length)) && _) = true
    rw [e]; simp only [Bool.not_false, Bool.true_and, List.all_eq_true]; intro x hx
    obtain ⟨j, hj⟩ := List.getElem?_of_mem hx
    obtain ⟨g1, g2⟩ := h' j x hj
    simp; omega
  refine Je Tryz.func22 rfl rfl fun w => ?_; refine sR fun K1 hK1 => ?_; refine Qi (cs := a.cells.toArray) rfl rfl rfl rfl fun r1 => ?_; refine Ji rfl (nK hK1 ?_); clear hK1 K1; refine sQ fun K2 hK2 => sR fun K3 hK3 => ?_
  refine LS 2 [0] rfl rfl ?_; refine LR rfl (JT rfl rfl) ?_; refine LS 2 [] rfl rfl ?_
  refine JA 8 rfl (fun hb4 => ?_) (fun hb4 => ?_) <;> (try simp only [ZZ] at hb4) <;> first | (refine LR rfl (JL rfl rfl rfl) ?_) | (refine LK rfl ?_)
  all_goals refine LW 1 [0] rfl rfl ?_
  all_goals first
    | (refine LR rfl (JT rfl rfl) ?_)
    | (refine LK rfl ?_)
  all_goals refine LW 2 [] rfl rfl ?_
  all_goals first
    | (refine LK rfl ?_)
    | (refine JA 13 rfl (fun hb9 => ?_) (fun hb9 => ?_) <;> (try simp only [ZZ] at hb9) <;> first | (refine LR rfl (JL rfl rfl rfl) ?_) | (refine LK rfl ?_))
  all_goals refine LW 1 [0] rfl rfl ?_
  all_goals first
    | (refine LR rfl (JT rfl rfl) ?_)
    | (refine LK rfl ?_)
  all_goals refine LW 4 [] rfl rfl ?_
  all_goals first
    | (refine LR rfl (JL rfl rfl rfl) ?_)
    | (refine LK rfl ?_)
    | (refine JA 20 rfl (fun hb14 => ?_) (fun hb14 => ?_) <;> (try simp only [ZZ] at hb14) <;> first | (refine LR rfl (JL rfl rfl rfl) ?_) | (refine LK rfl ?_))
  all_goals refine LW 1 [0] rfl rfl ?_
  all_goals first
    | (refine LR rfl (J3 rfl hseg rfl) ?_)
    | (refine LK rfl ?_)
  all_goals refine LW 2 [] rfl rfl ?_
  all_goals refine Jg ?_
  all_goals (
   refine hK3 ?_; clear hK3 K3; refine Jc rfl (fun h18 => ?_) (fun h18 => ?_)
   try simp only [ZZ] at h18
   refine sR fun K19 hK19 => Ji rfl (nK hK19 ?_); clear hK19 K19; refine Jb (Jd ?_); clear hK2 K2; refine pT rfl rfl rfl fun w1 hs1 => ?_; rw [h1 (by omega)]; exact ⟨rfl, hs1.keep⟩
   · try exact Bool.noConfusion h18
     all_goals try simp only [ZZ] at h18
     all_goals (
      refine Jf (hK2 ?_); clear hK2 K2; refine sQ fun K20 hK20 => sR fun K21 hK21 => ?_; refine Ji rfl (nK hK21 ?_); clear hK21 K21; refine Ju ?_
      have h0 : ¬ (100 < (a.addr.length : Int) ∨ (60 < (a.code.length : Int) ∧ (a.code.length : Int) ≤ 512) ∨ 20 < (a.slots.length : Int)) := by
        simp_all
        all_goals first | done | omega | trace_state
      refine JG (σ := Nat) (fun i => i ≤ a.slots.length ∧ ∀ (j : Nat) (x : BS × BS), j < i → a.slots[j]? = some x → x.1.length ≤ 100 ∧ x.2.length ≤ 100) (fun i => [(1, .pointer (some ⟨r1, 0, none⟩)), (3, .int .i64 (i : Int))]) (fun _ => [(r1, .cells a.cells.toArray 34 (0, 0))]) (fun _ _ _ => True) (fun i => a.slots.length - i) 0 ⟨Nat.zero_le _, fun _ _ h => absurd h (Nat.not_lt_zero _)⟩ (.cons rfl (.cons rfl .nil)) (List.Sublist.refl _) (fun _ _ h => h) ?_; rintro i ⟨hi1, hinv⟩; refine sQ fun K22 hK22 => sR fun K23 hK23 => ?_; refine Ji rfl ?_
      refine LS 2 [0] rfl rfl ?_; refine LR rfl (J3 rfl hseg rfl) ?_; refine JZ rfl (nK hK23 ?_); clear hK23 K23; refine Jc rfl (fun h24 => ?_) (fun h24 => ?_)
      · try simp only [ZZ] at h24
        refine Jf (hK22 ?_); clear hK22 K22; refine sB fun K25 hK25 => sQ fun K26 hK26 => ?_
        obtain ⟨x, hx, hmx⟩ := QC (show i < a.slots.length by omega)
        have hxl := ha.slots x hmx
        refine Ja (LS 3 [0] rfl rfl ?_)
        refine LR rfl (Jp (j := i) rfl hseg rfl rfl rfl (by first | rfl | omega) (by omega)) ?_; refine LR rfl (JO (off' := XS a.p + (i * 2 + 0)) rfl rfl (by show XS a.p + i * 2 + 0 = _; omega)) ?_; refine LR rfl (QX JU (k := 0) (v := J2 x.1) (fun q hq => Or.inr hq) rfl hseg hx rfl rfl) ?_; refine LR rfl (JT rfl rfl) ?_; refine LS 2 [] rfl rfl ?_
        refine JA 41 rfl (fun hb27 => ?_) (fun hb27 => ?_) <;> (try simp only [ZZ] at hb27) <;> first | (refine LR rfl (JL rfl rfl rfl) ?_) | (refine LK rfl ?_)
        all_goals refine LW 2 [0] rfl rfl ?_
        all_goals first
          | (refine LR rfl (Jp (j := i) rfl hseg rfl rfl rfl (by first | rfl | omega) (by omega)) ?_)
          | (refine LK rfl ?_)
        all_goals first
          | (refine LR rfl (JO (off' := XS a.p + (i * 2 + 1)) rfl rfl (by show XS a.p + i * 2 + 1 = _; omega)) ?_)
          | (refine LK rfl ?_)
        all_goals first
          | (refine LR rfl (QX JU (k := 1) (v := J2 x.2) (fun q hq => Or.inr hq) rfl hseg hx rfl rfl) ?_)
          | (refine LK rfl ?_)
        all_goals first
          | (refine LR rfl (JT rfl rfl) ?_)
          | (refine LK rfl ?_)
        all_goals refine LW 2 [] rfl rfl ?_
        all_goals refine Jg ?_
        all_goals (
         refine hK26 ?_; clear hK26 K26; refine Jc rfl (fun h35 => ?_) (fun h35 => ?_)
         try simp only [ZZ] at h35
         refine sR fun K36 hK36 => Ji rfl (nK hK36 ?_); clear hK36 K36; refine Jb (Jn (Jd ?_)); clear hK25 K25; refine Jd (Jn (Jd ?_)); clear hK20 K20; refine pT rfl rfl rfl fun w1 hs1 => ?_; rw [hres, Jsx hx (by omega)]; exact ⟨rfl, hs1.keep⟩
         · try exact Bool.noConfusion h35
           all_goals try simp only [ZZ] at h35
           all_goals (
            refine Jf (Jj (hK25 ?_)); clear hK25 K25; refine Ja (LS 2 [] rfl rfl (Jt (by omega) (by omega) ?_)); refine Ji rfl (Jg (J5 ?_))
            exact J1 (i + 1) ⟨by omega, fun j y hj hy => by
              rcases Nat.lt_succ_iff_lt_or_eq.1 hj with h | rfl
              exact hinv j y h hy
              · obtain rfl := Option.some.inj (hx.symm.trans hy); simp_all; all_goals first | done | omega | trace_state⟩ (by omega) (.cons rfl (.cons rfl .nil)) (List.Sublist.refl _) (fun _ _ h => h)
            skip)
         skip)
      try simp only [ZZ] at h24
      refine JE (Jl ?_); clear hK22 K22; refine Jl (J0 (hK20 ?_)); clear hK20 K20; refine sR fun K37 hK37 => Ji rfl (nK hK37 ?_); clear hK37 K37; refine Jb (pT rfl rfl rfl fun w1 hs1 => ?_); rw [h2 h0 (fun j y hy => hinv j y (by have := (List.getElem?_eq_some_iff.1 hy).1; omega) hy)]; exact ⟨rfl, hs1.keep⟩
      skip)
   skip)
theorem Jh6 {R : Jr} {s : StL} (hs : s.In R) : PureR Tryz.prog 12 [s.val].toArray (.bool (Jpe s.er)) R := by
  have hl := hs.len
  have hseg := hs.seg
  obtain ⟨⟨rb, rn⟩, hres⟩ : ∃ b, b = qU 0 0 s.er := ⟨_, rfl⟩
  have hfs : Jpe s.er = (rb && (decide (s.accts.length ≤ 40) && decide (rn ≤ 40))) := by unfold Jpe; rw [← hres, s.er_len]
  rw [hfs]; refine Je Tryz.func12 rfl rfl fun w => ?_; refine sR fun K1 hK1 => ?_; refine Qi (cs := s.cells.toArray) rfl rfl rfl rfl fun r1 => ?_; refine Ji rfl (nK hK1 ?_); clear hK1 K1; refine sR fun K2 hK2 => Ji rfl (nK hK2 ?_); clear hK2 K2; refine sQ fun K3 hK3 => sR fun K4 hK4 => ?_; refine Ji rfl (nK hK4 ?_); clear hK4 K4; refine Ju (JG (σ := Nat × Int) (fun q => q.1 ≤ s.accts.length ∧ 0 ≤ q.2 ∧ q.2 ≤ 20 * q.1 ∧ q.1 ≤ 41 ∧ qU q.1 q.2 (s.er.drop q.1) = (rb, rn)) (fun q => [(1, .pointer (some ⟨r1, 0, none⟩)), (3, .int .i64 q.2), (4, .int .i64 (q.1 : Int))]) (fun _ => [(r1, .cells s.cells.toArray 24 (0, 0))]) (fun _ _ _ => True) (fun q => s.accts.length - q.1) (0, 0) ⟨Nat.zero_le _, by omega, by omega, by omega, hres.symm⟩ (.cons rfl (.cons rfl (.cons rfl .nil))) (List.Sublist.refl _) (fun _ _ h => h) ?_); rintro ⟨i, n⟩ ⟨hi1, hn0, hn1, hi41, hinv⟩; simp only at hi1 hn0 hn1 hi41 hinv; change HC _ _ [(1, _), (3, .int .i64 n), (4, .int .i64 (i : Int))] _ _ _ _; refine sQ fun K5 hK5 => sR fun K6 hK6 => ?_; refine Ji rfl ?_
  refine LS 2 [0] rfl rfl ?_; refine LR rfl (J3 rfl hseg rfl) ?_; refine LS 2 [] rfl rfl ?_
  refine JA 11 rfl (fun hb7 => ?_) (fun hb7 => ?_) <;> (try simp only [ZZ] at hb7) <;> first | (refine Ji rfl ?_) | (refine LK rfl ?_)
  all_goals refine LW 2 [] rfl rfl ?_
  all_goals refine Jg ?_
  all_goals (
   refine hK6 ?_; clear hK6 K6; refine Jc rfl (fun h9 => ?_) (fun h9 => ?_)
   · try exact Bool.noConfusion h9
     all_goals try simp only [ZZ] at h9
     all_goals (
      refine Jf (hK5 ?_); clear hK5 K5; refine sB fun K10 hK10 => sQ fun K11 hK11 => ?_
      obtain ⟨a, ha, hma⟩ := QC (show i < s.accts.length by omega)
      have ha2 := hs.accts a hma
      have hi40 : i ≤ 40 := by simp_all <;> omega
      refine Ja (LS 3 [0] rfl rfl ?_)
      refine LR rfl (Jp (j := i) rfl hseg rfl rfl rfl (by first | rfl | omega) (by omega)) ?_; refine LR rfl (Ku AcL.len (fun q hq => Or.inr hq) rfl hseg ha rfl rfl) ?_; refine Jh rfl rfl rfl (enters_of Tryz.func22 (by kernel_rfl) rfl) (Jj2 ha2) (fun q hq => Or.inr hq) ?_; refine Ji rfl (nK hK11 ?_); clear hK11 K11; refine sQ fun K12 hK12 => sR fun K13 hK13 => ?_; refine LS 2 [] rfl rfl (nK hK13 ?_); clear hK13 K13; refine Jc rfl (fun h14 => ?_) (fun h14 => ?_)
      try simp only [ZZ] at h14
      refine sR fun K15 hK15 => Ji rfl (nK hK15 ?_); clear hK15 K15; refine Jb (Jd ?_); clear hK12 K12; refine Jn (Jd ?_); clear hK10 K10; refine Jd (Jn (Jd ?_)); clear hK3 K3; refine pT rfl rfl rfl fun w1 hs1 => ?_
      (have hff : jL a.er = false := by simp_all
       have h1 := Jph (n := n) (Wd ha) hi40 hff
       rw [hinv] at h1
       rw [show rb = false from h1]; exact ⟨rfl, hs1.keep⟩)
      try simp only [ZZ] at h14
      refine Jf (hK12 ?_); clear hK12 K12
      have hft : jL a.er = true := by simp_all
      have h20 := Jsy hft
      have h20 : a.slots.length ≤ 20 := h20
      rw [Jpf (Wd ha) hi40 hft] at hinv; refine Ja (LS 4 [0] rfl rfl ?_)
      refine LR rfl (Jp (j := i) rfl hseg rfl rfl rfl (by first | rfl | omega) (by omega)) ?_; refine LR rfl (JO (off' := XS s.p + (i * 8 + 7)) rfl rfl (by show XS s.p + i * 8 + 7 = _; omega)) ?_; refine LR rfl (QX AcL.len (k := 7) (v := KM a.slots.length a.p) (fun q hq => Or.inr hq) rfl hseg ha rfl rfl) ?_; refine LR rfl (J3 rfl ha2.seg rfl) ?_; refine JZ rfl (Jt (by omega) (by omega) ?_); refine Ji rfl (Jg ?_); refine Jj (hK10 ?_); clear hK10 K10; refine Ja (LS 2 [] rfl rfl (Jt (by omega) (by omega) ?_)); refine Ji rfl (Jg (J5 ?_)); exact J1 (i + 1, n + (a.slots.length : Int)) ⟨by simp only; omega, by simp only; omega, by simp only; omega, by simp only; omega, hinv⟩ (by simp only; omega) (.cons rfl (.cons rfl (.cons rfl .nil))) (List.Sublist.refl _) (fun _ _ h => h)
      skip)
   · try simp only [ZZ] at h9
     refine JE (Jl ?_); clear hK5 K5; refine Jl (J0 (hK3 ?_)); clear hK3 K3; refine sR fun K16 hK16 => ?_
     refine LS 2 [0] rfl rfl ?_; refine LR rfl (J3 rfl hseg rfl) ?_; refine LS 2 [] rfl rfl ?_
     refine JA 38 rfl (fun hb17 => ?_) (fun hb17 => ?_) <;> (try simp only [ZZ] at hb17) <;> first | (refine Ji rfl ?_) | (refine LK rfl ?_)
     all_goals refine LW 3 [] rfl rfl ?_
     all_goals refine Jg ?_
     all_goals (
      refine hK16 ?_; clear hK16 K16; refine Jb (pT rfl rfl rfl fun w1 hs1 => ?_)
      first
        | (have hff : jL a.er = false := by simp_all
           have h1 := Jph (n := n) (Wd ha) hi40 hff
           rw [hinv] at h1
           rw [show rb = false from h1]; exact ⟨rfl, hs1.keep⟩)
        | (rw [Jpg (by rw [s.er_len]; omega)] at hinv
           obtain ⟨rfl, rfl⟩ := Prod.mk.inj hinv
           refine ⟨?_, hs1.keep⟩
           simp [JP]
           all_goals first | done | omega | trace_state)
        | trace_state
      skip)
   skip)
theorem yi (a b : AcL) : a.er = b.er ↔ a.addr = b.addr ∧ a.nonce = b.nonce ∧ a.bal = b.bal ∧ a.code = b.code ∧ a.slots = b.slots := by
  unfold AcL.er
  simp
theorem jM {a b : AcL} (h : ¬ a.addr = b.addr ∨ ¬ a.nonce = b.nonce ∨ ¬ a.bal = b.bal ∨ ¬ a.code = b.code ∨ ¬ a.slots.length = b.slots.length) : ¬ a.er = b.er := fun e => by
  obtain ⟨h1, h2, h3, h4, h5⟩ := (yi a b).1 e
  rcases h with h | h | h | h | h
  · exact h h1
  · exact h h2
  · exact h h3
  · exact h h4
  · exact h (by rw [h5])
theorem Y6 {R : Jr} {a b : AcL} (ha : a.In R) (hb : b.In R) : PureR Tryz.prog 16 [a.val, b.val].toArray (.bool (decide (a.er = b.er))) R := by
  have hl : a.slots.length ≤ 9223372036854775807 := ha.len
  have hl2 : b.slots.length ≤ 9223372036854775807 := hb.len
  have h1 := ha.seg
  have h2 := hb.seg
  refine Je Tryz.func16 rfl rfl fun w => ?_; refine sR fun K1 hK1 => ?_; refine Qi (cs := a.cells.toArray) rfl rfl rfl rfl fun ra => ?_; refine Qi (cs := b.cells.toArray) rfl rfl rfl rfl fun rb => ?_; refine Ji rfl (nK hK1 ?_); clear hK1 K1; refine sQ fun K2 hK2 => sR fun K3 hK3 => ?_; refine LS 2 [1] rfl rfl ?_
  refine LS 2 [0] rfl rfl ?_; refine LR rfl (Zj rfl rfl) ?_; refine Ji rfl ?_
  refine JA 11 rfl (fun hb4 => ?_) (fun hb4 => ?_) <;> (try simp only [ZZ] at hb4) <;> first | (refine LR rfl (JL rfl rfl rfl) ?_) | (refine LK rfl ?_)
  all_goals refine LW 1 [1] rfl rfl ?_
  all_goals first
    | (refine LR rfl (JL rfl rfl rfl) ?_)
    | (refine LK rfl ?_)
  all_goals refine LW 2 [0] rfl rfl ?_
  all_goals first | (refine Jy (congrArg (fun b => Value.bool (!b)) (eqU a.nonce b.nonce)) ?_) | skip
  all_goals refine LW 2 [] rfl rfl ?_
  all_goals first
    | (refine LK rfl ?_)
    | (refine JA 18 rfl (fun hb9 => ?_) (fun hb9 => ?_) <;> (try simp only [ZZ] at hb9) <;> first | (refine LR rfl (JL rfl rfl rfl) ?_) | (refine LK rfl ?_))
  all_goals refine LW 1 [1] rfl rfl ?_
  all_goals first
    | (refine LR rfl (JL rfl rfl rfl) ?_)
    | (refine LK rfl ?_)
  all_goals refine LW 1 [0] rfl rfl ?_
  all_goals first
    | (refine LR rfl (Jfq rfl rfl rfl rfl rfl (by kernel_rfl) rfl rfl rfl rfl) ?_)
    | (refine LK rfl ?_)
  all_goals first | (refine Jy (congrArg (fun b => Value.bool (!b)) (eqW a.bal b.bal)) ?_) | skip
  all_goals refine LW 2 [] rfl rfl ?_
  all_goals first
    | (refine LK rfl ?_)
    | (refine JA 25 rfl (fun hb14 => ?_) (fun hb14 => ?_) <;> (try simp only [ZZ] at hb14) <;> first | (refine LR rfl (JL rfl rfl rfl) ?_) | (refine LK rfl ?_))
  all_goals refine LW 1 [1] rfl rfl ?_
  all_goals first
    | (refine LR rfl (JL rfl rfl rfl) ?_)
    | (refine LK rfl ?_)
  all_goals refine LW 1 [0] rfl rfl ?_
  all_goals first
    | (refine LR rfl (Zj rfl rfl) ?_)
    | (refine LK rfl ?_)
  all_goals refine LW 2 [] rfl rfl ?_
  all_goals first
    | (refine LK rfl ?_)
    | (refine JA 32 rfl (fun hb19 => ?_) (fun hb19 => ?_) <;> (try simp only [ZZ] at hb19) <;> first | (refine LR rfl (JL rfl rfl rfl) ?_) | (refine LK rfl ?_))
  all_goals refine LW 1 [1] rfl rfl ?_
  all_goals first
    | (refine LR rfl (J3 rfl h1 rfl) ?_)
    | (refine LK rfl ?_)
  all_goals first
    | (refine LR rfl (JL rfl rfl rfl) ?_)
    | (refine LK rfl ?_)
  all_goals refine LW 1 [0] rfl rfl ?_
  all_goals first
    | (refine LR rfl (J3 rfl h2 rfl) ?_)
    | (refine LK rfl ?_)
  all_goals refine LW 2 [] rfl rfl ?_
  all_goals refine Jg ?_
  all_goals (
   refine hK3 ?_; clear hK3 K3; refine Jc rfl (fun h26 => ?_) (fun h26 => ?_)
   try simp only [ZZ] at h26
   refine sR fun K27 hK27 => Ji rfl (nK hK27 ?_); clear hK27 K27; refine Jb (Jd ?_); clear hK2 K2; refine pT rfl rfl rfl fun w1 hs1 => ?_; refine ⟨?_, hs1.keep⟩
   first
     | (rw [decide_eq_false (jM (.inl (by assumption)))]; rfl)
     | (rw [decide_eq_false (jM (.inr (.inl (by assumption))))]; rfl)
     | (rw [decide_eq_false (jM (.inr (.inr (.inl (by assumption)))))]; rfl)
     | (rw [decide_eq_false (jM (.inr (.inr (.inr (.inl (by assumption))))))]; rfl)
     | (rw [decide_eq_false (jM (.inr (.inr (.inr (.inr (by omega))))))]; rfl)
   · try exact Bool.noConfusion h26
     all_goals try simp only [ZZ] at h26
     all_goals (
      refine Jf (hK2 ?_); clear hK2 K2; refine sQ fun K28 hK28 => sR fun K29 hK29 => ?_; refine Ji rfl (nK hK29 ?_); clear hK29 K29; refine Ju ?_
      have hll : a.slots.length = b.slots.length := by omega
      have hflat : a.addr = b.addr ∧ a.nonce = b.nonce ∧ a.bal = b.bal ∧ a.code = b.code := by simp_all
      refine JG (σ := Nat) (fun i => i ≤ a.slots.length ∧ ∀ j, j < i → a.slots[j]? = b.slots[j]?) (fun i => [(2, Value.pointer (some ⟨ra, 0, none⟩)), (3, Value.pointer (some ⟨rb, 0, none⟩)), (5, .int .i64 (i : Int))]) (fun _ => [(rb, .cells b.cells.toArray 34 (0, 0)), (ra, .cells a.cells.toArray 34 (0, 0))]) (fun _ _ _ => True) (fun i => a.slots.length - i) 0 ⟨by omega, fun j hj => absurd hj (by omega)⟩ (.cons rfl (.cons rfl (.cons rfl .nil))) (List.Sublist.refl _) (fun _ _ h => h) ?_; rintro i ⟨hi1, hinv⟩; refine sQ fun K30 hK30 => sR fun K31 hK31 => ?_; refine Ji rfl ?_
      refine LS 2 [1] rfl rfl ?_; refine LR rfl (J3 rfl h1 rfl) ?_; refine JZ rfl (nK hK31 ?_); clear hK31 K31; refine Jc rfl (fun h32 => ?_) (fun h32 => ?_)
      try simp only [ZZ] at h32
      refine Jf (hK30 ?_); clear hK30 K30; refine sB fun K33 hK33 => sQ fun K34 hK34 => ?_
      obtain ⟨x, hx, hmx⟩ := QC (show i < a.slots.length by omega)
      obtain ⟨y, hy, hmy⟩ := QC (show i < b.slots.length by omega)
      refine Ka 11 (by kernel_rfl) (by kernel_rfl) ?_
      refine Jk rfl rfl rfl (JL rfl rfl rfl) ?_; refine Jk rfl rfl rfl (Jm rfl (kn 1 rfl) rfl rfl) ?_; refine Jk rfl rfl rfl (Jo rfl) ?_
      refine Jk rfl rfl rfl (Jp (j := i) rfl h1 rfl rfl rfl (by first | rfl | omega) (by omega)) ?_; refine Jk rfl rfl rfl (Ku JU (fun q hq => Or.inr hq) rfl h1 hx rfl rfl) ?_
      refine Jk rfl rfl rfl (JL rfl rfl rfl) ?_; refine Jk rfl rfl rfl (Jm rfl (kn 0 rfl) rfl rfl) ?_; refine Jk rfl rfl rfl (Jo rfl) ?_
      refine Jk rfl rfl rfl (Jp (j := i) rfl h2 rfl rfl rfl (by first | rfl | omega) (by omega)) ?_; refine Jk rfl rfl rfl (Ku JU (fun q hq => Or.inr hq) rfl h2 hy rfl rfl) ?_; refine Jk rfl rfl rfl (Jg3 rfl rfl rfl (by kernel_rfl) (by kernel_rfl) (.scal (by decide) rfl rfl rfl rfl rfl (.scal (by decide) rfl rfl rfl rfl rfl .nil))) ?_; refine Qk (congrArg (fun b => Value.bool (!b)) (Jg5 x y)) ?_; refine Kt ?_; refine nK hK34 ?_; clear hK34 K34; refine Jc rfl (fun h35 => ?_) (fun h35 => ?_)
      try simp only [ZZ] at h35
      refine sR fun K36 hK36 => Ji rfl (nK hK36 ?_); clear hK36 K36; refine Jb (Jn (Jd ?_)); clear hK33 K33; refine Jd (Jn (Jd ?_)); clear hK28 K28; refine pT rfl rfl rfl fun w1 hs1 => ?_; refine ⟨?_, hs1.keep⟩; rw [decide_eq_false (show ¬ a.er = b.er from fun e => Jm1 hx hy (by simp_all) ((yi a b).1 e).2.2.2.2)]; rfl
      try simp only [ZZ] at h35
      refine Jf (Jj (hK33 ?_)); clear hK33 K33; refine Ja (LS 2 [] rfl rfl (Jt (by omega) (by omega) ?_)); refine Ji rfl (Jg (J5 ?_))
      exact J1 (i + 1) ⟨by omega, fun j hj => by
        rcases Nat.lt_succ_iff_lt_or_eq.1 hj with hj | rfl
        exact hinv j hj
        rw [hx, hy]; simp_all⟩ (by omega) (.cons rfl (.cons rfl (.cons rfl .nil))) (List.Sublist.refl _) (fun _ _ h => h)
      try simp only [ZZ] at h32
      refine JE (Jl ?_); clear hK30 K30; refine Jl (J0 (hK28 ?_)); clear hK28 K28; refine sR fun K37 hK37 => Ji rfl (nK hK37 ?_); clear hK37 K37; refine Jb (pT rfl rfl rfl fun w1 hs1 => ?_); refine ⟨?_, hs1.keep⟩; rw [decide_eq_true ((yi a b).2 ⟨hflat.1, hflat.2.1, hflat.2.2.1, hflat.2.2.2, Jm0 hll (by omega) hinv⟩)]; rfl
      skip)
   skip)
structure Stay (s t : StL) (a key : BS) : Prop where
  there : VS s a = true → VS t a = true
  oth : a ≠ A0 → a ≠ A1 → VS s a = VS t a ∧ (VD s a).er = (VD t a).er
  nonce : (VD s a).nonce = (VD t a).nonce
  bal : (VD s a).bal = (VD t a).bal
  slot : (a = A0 → ¬ Jey key) → KX (VD s a).er key = KX (VD t a).er key
theorem Ym {a b : Bool} (h : a = b) : Value.bool a = .bool b := congrArg _ h
theorem Jh7 : Pure Tryz.prog 36 [].toArray (J2 Vc) := by
  refine JC Tryz.func36 rfl rfl fun w => ?_; refine sR fun _ hK1 => Ji rfl (nK hK1 ?_); refine sR fun _ hK2 => ?_; refine Wz (n := 32) (b := 1) rfl rfl rfl rfl rfl rfl rfl rfl rfl (by decide) (by decide) fun r1 => ?_; refine LR rfl (QH (b := Vc) (row := some (r1, 32, [])) (e := 5) rfl ⟨rfl, rfl⟩ (fun p hp => .inl (by rw [List.mem_singleton.1 hp]; exact List.mem_cons_self)) rfl rfl rfl) ?_; refine Ji rfl (nK hK2 ?_); refine Jb (pT rfl rfl rfl fun w1 hs1 => ?_); exact ⟨rfl, hs1.keep⟩
theorem Jsz {R : Jr} {a : AcL} (ha : a.In R) (k : BS) : PureR Tryz.prog 17 [a.val, J2 k].toArray (J2 (KX a.er k)) R := by
  have hl : a.slots.length ≤ 9223372036854775807 := ha.len
  have hseg := ha.seg
  have hz : KX a.er k = ((Vb Prod.fst k a.slots).map Prod.snd).getD Vc := by
    show (match Vb Prod.fst k a.slots with | some x => x.2 | none => Vc) = _
    cases Vb Prod.fst k a.slots <;> rfl
  rw [hz]
  obtain ⟨res, hres⟩ : ∃ r, r = Vb Prod.fst k a.slots := ⟨_, rfl⟩
  rw [← hres]; refine Je Tryz.func17 rfl rfl fun w => ?_; refine sR fun _ hK1 => ?_; refine Qi (cs := a.cells.toArray) rfl rfl rfl rfl fun ra => ?_; refine Ji rfl (nK hK1 ?_); refine sQ fun _ hK2 => sR fun _ hK3 => ?_; refine Ji rfl (nK hK3 ?_); refine Ju (JG (σ := Nat) (fun i => i ≤ a.slots.length ∧ res = Vb Prod.fst k (a.slots.drop i)) (fun i => [(1, J2 k), (2, Value.pointer (some ⟨ra, 0, none⟩)), (5, .int .i64 (i : Int))]) (fun _ => [(ra, .cells a.cells.toArray 34 (0, 0))]) (fun _ _ _ => True) (fun i => a.slots.length - i) 0 ⟨Nat.zero_le _, hres⟩ (.cons rfl (.cons rfl (.cons rfl .nil))) (List.Sublist.refl _) (fun _ _ h => h) ?_); rintro i ⟨hi1, hinv⟩; refine sQ fun _ hK4 => sR fun _ hK5 => ?_; refine Ji rfl ?_
  refine LS 2 [0] rfl rfl ?_; refine LR rfl (J3 rfl hseg rfl) ?_; refine JZ rfl (nK hK5 ?_); refine Jc rfl (fun h6 => ?_) (fun h6 => ?_)
  try simp only [ZZ] at h6
  refine Jf (hK4 ?_); refine sB fun _ hK7 => sQ fun _ hK8 => ?_
  obtain ⟨x, hx, hmx⟩ := QC (show i < a.slots.length by omega)
  rw [Y9 hx, Qu] at hinv; refine Ja (LS 3 [0] rfl rfl ?_)
  refine LR rfl (Jp (j := i) rfl hseg rfl rfl rfl (by first | rfl | omega) (by omega)) ?_; refine LR rfl (JO (off' := XS a.p + (i * 2 + 0)) rfl rfl (by show XS a.p + i * 2 + 0 = _; omega)) ?_; refine LR rfl (QX JU (k := 0) (v := J2 x.1) (fun q hq => Or.inr hq) rfl hseg hx rfl rfl) ?_; refine Ji rfl (LR rfl (QT rfl rfl) ?_); refine nK hK8 ?_; refine Jc rfl (fun h9 => ?_) (fun h9 => ?_)
  try simp only [ZZ] at h9
  refine sR fun _ hK10 => LS 3 [0] rfl rfl ?_
  refine LR rfl (Jp (j := i) rfl hseg rfl rfl rfl (by first | rfl | omega) (by omega)) ?_; refine LR rfl (JO (off' := XS a.p + (i * 2 + 1)) rfl rfl (by show XS a.p + i * 2 + 1 = _; omega)) ?_; refine LR rfl (QX JU (k := 1) (v := J2 x.2) (fun q hq => Or.inr hq) rfl hseg hx rfl rfl) ?_; refine Ji rfl (nK hK10 ?_); refine Jb (Jn (Jd ?_)); refine Jd (Jn (Jd ?_)); refine pT rfl rfl rfl fun w1 hs1 => ?_; refine ⟨?_, hs1.keep⟩; rw [if_pos (by assumption)] at hinv; rw [hinv]; rfl
  try simp only [ZZ] at h9
  refine Jf (Jj (hK7 ?_)); refine Ja (LS 2 [] rfl rfl (Jt (by omega) (by omega) ?_)); refine Ji rfl (Jg (J5 ?_)); rw [if_neg (by assumption)] at hinv; exact J1 (i + 1) ⟨by omega, hinv⟩ (by omega) (.cons rfl (.cons rfl (.cons rfl .nil))) (List.Sublist.refl _) (fun _ _ h => h)
  · try simp only [ZZ] at h6
    refine JE (Jl ?_); refine Jl (J0 (hK2 ?_)); refine sR fun _ hK11 => ?_; refine JD rfl rfl rfl (enters_of Tryz.func36 (by kernel_rfl) rfl) Jh7 ?_; refine Ji rfl (nK hK11 ?_); refine Jb (pT rfl rfl rfl fun w1 hs1 => ?_); refine ⟨?_, hs1.keep⟩; rw [List.drop_of_length_le (by omega)] at hinv; rw [hinv]; rfl
theorem Js0 {R : Jr} {s : StL} (hs : s.In R) (k : BS) : PureR Tryz.prog 15 [s.val, J2 k].toArray (.tuple #[(VD s k).val, .bool (VS s k)]) R := by
  have hl : s.accts.length ≤ 9223372036854775807 := hs.len
  have hseg := hs.seg
  unfold VD VS
  obtain ⟨res, hres⟩ : ∃ r, r = s.accts.find? fun a => decide (a.addr = k) := ⟨_, rfl⟩
  rw [← hres]; refine Je Tryz.func15 rfl rfl fun w => ?_; refine sR fun _ hK1 => ?_; refine Qi (cs := s.cells.toArray) rfl rfl rfl rfl fun rs => ?_; refine LN rfl fun r1 => ?_; refine Ji rfl (nK hK1 ?_); refine sQ fun _ hK2 => sR fun _ hK3 => ?_; refine Ji rfl (nK hK3 ?_); refine Ju ?_; refine JG (σ := Nat) (fun i => i ≤ s.accts.length ∧ res = (s.accts.drop i).find? fun a => decide (a.addr = k)) (fun i => [(1, J2 k), (2, Value.pointer (some ⟨rs, 0, none⟩)), (4, Value.pointer (some ⟨r1, 0, none⟩)), (6, .int .i64 (i : Int))]) (fun _ => [(r1, .cells ac0L.cells.toArray 34 (0, 0)), (rs, .cells s.cells.toArray 24 (0, 0))]) (fun _ _ _ => True) (fun i => s.accts.length - i) 0 ⟨Nat.zero_le _, hres⟩ (.cons rfl (.cons rfl (.cons rfl (.cons rfl .nil)))) (List.Sublist.refl _) (fun _ _ h => h) ?_; rintro i ⟨hi1, hinv⟩; refine sQ fun _ hK4 => sR fun _ hK5 => ?_; refine Ji rfl ?_
  refine LS 2 [1] rfl rfl ?_; refine LR rfl (J3 rfl hseg rfl) ?_; refine JZ rfl (nK hK5 ?_); refine Jc rfl (fun h6 => ?_) (fun h6 => ?_)
  try simp only [ZZ] at h6
  refine Jf (hK4 ?_); refine sB fun _ hK7 => sQ fun _ hK8 => ?_
  obtain ⟨a, ha, hma⟩ := QC (show i < s.accts.length by omega)
  rw [Y9 ha, List.find?_cons] at hinv; refine Ja (LS 3 [1] rfl rfl ?_)
  refine LR rfl (Jp (j := i) rfl hseg rfl rfl rfl (by first | rfl | omega) (by omega)) ?_; refine LR rfl (JO (off' := XS s.p + (i * 8 + 0)) rfl rfl (by show XS s.p + i * 8 + 0 = _; omega)) ?_; refine LR rfl (QX AcL.len (k := 0) (v := J2 a.addr) (fun q hq => Or.inr hq) rfl hseg ha rfl rfl) ?_; refine Ji rfl (LR rfl (QT rfl rfl) ?_); refine nK hK8 ?_; refine Jc rfl (fun h9 => ?_) (fun h9 => ?_)
  try simp only [ZZ] at h9
  refine sR fun _ hK10 => LS 3 [1] rfl rfl ?_
  refine LR rfl (Jp (j := i) rfl hseg rfl rfl rfl (by first | rfl | omega) (by omega)) ?_; refine LR rfl (Ku AcL.len (fun q hq => Or.inr hq) rfl hseg ha rfl rfl) ?_; refine Jz (k := 0) (n := 8) (ys := (a).cells) rfl rfl rfl rfl rfl rfl rfl rfl rfl ?_; refine Ji rfl (nK hK10 ?_); refine Jb (Jn (Jd ?_)); refine Jd (Jn (Jd ?_)); refine Jv rfl rfl (.cons (J6 (vs := [_, _, _, _, _, _, _, _]) rfl (kn 0 rfl) rfl rfl) (.cons (J4 rfl) .nil)) (fun w1 hs1 => ?_); refine ⟨?_, hs1.keep⟩; rw [show decide (a.addr = k) = true from decide_eq_true (by assumption)] at hinv; rw [hinv]; rfl
  try simp only [ZZ] at h9
  refine Jf (Jj (hK7 ?_)); refine Ja (LS 2 [] rfl rfl (Jt (by omega) (by omega) ?_)); refine Ji rfl (Jg (J5 ?_)); rw [show decide (a.addr = k) = false from decide_eq_false (by assumption)] at hinv; exact J1 (i + 1) ⟨by omega, hinv⟩ (by omega) (.cons rfl (.cons rfl (.cons rfl (.cons rfl .nil)))) (List.Sublist.refl _) (fun _ _ h => h)
  · try simp only [ZZ] at h6
    refine JE (Jl ?_); refine Jl (J0 (hK2 ?_)); refine sR fun _ hK11 => ?_; refine LR rfl (JI (r := [_, _, _, _, _, _, _, _]) rfl rfl) ?_; refine Jz (k := 0) (n := 8) (ys := (ac0L).cells) rfl rfl rfl rfl rfl rfl rfl rfl rfl ?_; refine Ji rfl (nK hK11 ?_); refine Jb ?_; refine Jv rfl rfl (.cons (J6 (vs := [_, _, _, _, _, _, _, _]) rfl (kn 0 rfl) rfl rfl) (.cons (J4 rfl) .nil)) (fun w1 hs1 => ?_); refine ⟨?_, hs1.keep⟩; rw [List.drop_of_length_le (by omega)] at hinv; rw [hinv]; rfl
def Jpi (p : Option BS) (a : AcE) : Bool := p.isNone || Op.bytesLess (p.getD []) a.addr
theorem zr (p : Option BS) (a : AcE) : Vd p a = if a.slots.any YU = true ∨ a.addr.length ≠ 20 then 2 else if (Jpi p a && QL Prod.fst a.slots) = false then 11 else if a.code.length > 512 ∨ a.slots.length > 16 then 5 else if a.slots.any WP = true then 8 else 0 := by
  by_cases h : a.slots.any YU = true ∨ a.addr.length ≠ 20
  · have e : XE a = 2 := by unfold XE; rw [if_pos (h.elim Or.inr Or.inl)]
    rw [if_pos h, xG (.inl e), e]
  rw [if_neg h]
  have h' : ¬ (a.addr.length ≠ 20 ∨ a.slots.any YU = true) := fun hh => h (hh.elim Or.inr Or.inl)
  have e : XE a = if QL Prod.fst a.slots = false then 11 else if a.code.length > 512 ∨ a.slots.length > 16 then 5 else if a.slots.any WP = true then 8 else 0 := by unfold XE; rw [if_neg h']
  cases hr : QL Prod.fst a.slots
  · rw [hr, if_pos rfl] at e
    rw [Bool.and_false, if_pos rfl]
    unfold Vd
    split
    · rfl
    · exact e
  rw [hr, if_neg (by simp)] at e
  have h2 : XE a ≠ 2 := by
    rw [e]
    split
    · decide
    · split <;> decide
  cases p with
  | none =>
    rw [Jiv, e]
    rfl
  | some b =>
    show Vd (some b) a = if ((false || Op.bytesLess b a.addr) && true) = false then 11 else _
    cases hb : Op.bytesLess b a.addr
    · rw [Jg1 h2 rfl hb]; rfl
    · rw [xG (.inr (.inr ⟨b, rfl, hb⟩)), e]; rfl
theorem Jpj {α : Type} {p : α → Bool} {l : List α} {j : Nat} {x : α} (h : l[j]? = some x) (hp : p x = true) : l.any p = true := List.any_eq_true.2 ⟨x, List.mem_of_getElem? h, hp⟩
theorem Jpk {α : Type} {p : α → Bool} {l : List α} (h : ∀ (j : Nat) x, l[j]? = some x → p x = false) : l.any p = false := by
  rw [List.any_eq_false]; intro x hx
  obtain ⟨j, hj⟩ := List.getElem?_of_mem hx
  rw [h j x hj]; simp
structure RackI (a : AcL) (rb : Bool) (i : Nat) (rs sp : Bool) : Prop where
  le : i ≤ a.slots.length
  odd : ∀ (j : Nat) x, j < i → a.slots[j]? = some x → YU x = false
  rs : rs = true ↔ rb = true ∧ ∀ (j : Nat) x y, j + 1 < i → a.slots[j]? = some x → a.slots[j + 1]? = some y → Op.bytesLess x.1 y.1 = true
  sp : sp = true ↔ ∃ (j : Nat) (x : BS × BS), j < i ∧ a.slots[j]? = some x ∧ x.2 = Vc
theorem RackI.zero (a : AcL) (rb : Bool) : RackI a rb 0 rb false := ⟨Nat.zero_le _, fun _ _ h => absurd h (Nat.not_lt_zero _), by simp, by simp⟩
theorem RackI.next {a : AcL} {rb : Bool} {i : Nat} {rs sp rs' sp' : Bool} {x : BS × BS} (h : RackI a rb i rs sp) (hx : a.slots[i]? = some x) (ho : x.1.length = 32 ∧ x.2.length = 32)
    (hr : rs' = (rs && (decide (i = 0) || Op.bytesLess ((a.slots[i - 1]?.map Prod.fst).getD []) x.1))) (hp : sp' = (sp || decide (x.2 = Vc))) : RackI a rb (i + 1) rs' sp' := by
  have hlt := (List.getElem?_eq_some_iff.1 hx).1
  refine ⟨hlt, fun j y hj hy => ?_, ?_, ?_⟩
  · rcases Nat.lt_succ_iff_lt_or_eq.1 hj with hj | rfl
    · exact h.odd j y hj hy
    · rw [hx] at hy; cases hy
      unfold YU; simp [ho.1, ho.2]
  · rw [hr, Bool.and_eq_true, h.rs, Bool.or_eq_true, decide_eq_true_eq]
    constructor
    · rintro ⟨⟨h1, h2⟩, h3⟩
      refine ⟨h1, fun j u v hj hu hv => ?_⟩
      rcases Nat.lt_succ_iff_lt_or_eq.1 hj with hj | hj
      · exact h2 j u v hj hu hv
      · subst hj
        rw [hx] at hv; cases hv; rw [show j + 1 - 1 = j by omega, hu] at h3; exact h3.resolve_left (by omega)
    · rintro ⟨h1, h2⟩
      refine ⟨⟨h1, fun j u v hj hu hv => h2 j u v (by omega) hu hv⟩, ?_⟩
      rcases Nat.eq_zero_or_pos i with h0 | h0
      · exact .inl h0
      · obtain ⟨j, rfl⟩ : ∃ j, i = j + 1 := ⟨i - 1, by omega⟩
        obtain ⟨u, hu, -⟩ := QC (show j < a.slots.length by omega)
        rw [show j + 1 - 1 = j by omega, hu]; exact .inr (h2 j u x (by omega) hu hx)
  · rw [hp, Bool.or_eq_true, h.sp, decide_eq_true_eq]
    constructor
    · rintro (⟨j, u, hj, hu, e⟩ | e)
      · exact ⟨j, u, by omega, hu, e⟩
      · exact ⟨i, x, by omega, hx, e⟩
    · rintro ⟨j, u, hj, hu, e⟩
      rcases Nat.lt_succ_iff_lt_or_eq.1 hj with hj | rfl
      · exact .inl ⟨j, u, hj, hu, e⟩
      · rw [hx] at hu; cases hu; exact .inr e
theorem RackI.done {a : AcL} {rb : Bool} {rs sp : Bool} (h : RackI a rb a.slots.length rs sp) : a.slots.any YU = false ∧ rs = (rb && QL Prod.fst a.slots) ∧ sp = a.slots.any WP := by
  have hlt : ∀ (j : Nat) (x : BS × BS), a.slots[j]? = some x → j < a.slots.length := fun j x hx => (List.getElem?_eq_some_iff.1 hx).1
  refine ⟨Jpk fun j x hx => h.odd j x (hlt j x hx) hx, ?_, ?_⟩
  · rw [Bool.eq_iff_iff, h.rs, Bool.and_eq_true]
    refine and_congr_right fun _ => ⟨fun hh => Zt fun j x y hx hy => hh j x y (hlt _ _ hy) hx hy, fun hh j x y _ hx hy => ?_⟩
    cases hb : Op.bytesLess x.1 y.1
    · rw [j0 hx hy hb] at hh; cases hh
    · rfl
  · rw [Bool.eq_iff_iff, h.sp]
    constructor
    · rintro ⟨j, x, _, hx, e⟩
      exact Jpj hx (by unfold WP; rw [e]; simp)
    · intro hh
      obtain ⟨x, hx, e⟩ := List.any_eq_true.1 hh
      obtain ⟨j, hj⟩ := List.getElem?_of_mem hx
      exact ⟨j, x, hlt j x hj, hj, by simpa [WP] using e⟩
theorem Jpl {a : AcL} {j : Nat} {x : BS × BS} (p : Option BS) (hx : a.slots[j]? = some x) (h : ¬ (x.1.length = 32 ∧ x.2.length = 32)) : Vd p a.er = 2 := by
  rw [zr, if_pos (.inl (Jpj (l := a.er.slots) hx (by unfold YU; rw [Bool.or_eq_true, decide_eq_true_eq, decide_eq_true_eq]; omega)))]
theorem Jpm {a : AcL} {p : Option BS} {rs sp : Bool} (h : RackI a (Jpi p a.er) a.slots.length rs sp) : Vd p a.er = if (a.addr.length : Int) ≠ 20 then 2 else if rs = false then 11 else if (a.code.length : Int) > 512 ∨ (a.slots.length : Int) > 16 then 5 else if sp = true then 8 else 0 := by
  obtain ⟨h1, h2, h3⟩ := h.done
  rw [zr, h2, h3, show a.er.slots.any YU = false from h1]; refine ite_congr (propext ⟨fun hh => ?_, fun hh => ?_⟩) (fun _ => rfl) fun _ => ite_congr rfl (fun _ => rfl) fun _ => ite_congr (propext ⟨fun hh => ?_, fun hh => ?_⟩) (fun _ => rfl) fun _ => rfl
  · have hh : a.addr.length ≠ 20 := hh.elim (fun h => by cases h) id
    omega
  · exact .inr (show a.addr.length ≠ 20 by omega)
  · have hh : a.code.length > 512 ∨ a.slots.length > 16 := hh
    omega
  · show a.code.length > 512 ∨ a.slots.length > 16
    omega
set_option maxHeartbeats 1000000 in
theorem Js1 {R : Jr} {a : AcL} (ha : a.In R) (p : Option BS) : PureR Tryz.prog 33 [a.val, .bool p.isNone, J2 (p.getD [])].toArray (.int .i64 (Vd p a.er)) R := by
  have hl : a.slots.length ≤ 9223372036854775807 := ha.len
  have hseg := ha.seg
  obtain ⟨rb, hrb⟩ : ∃ b, b = Jpi p a.er := ⟨_, rfl⟩
  have hrb2 : rb = (p.isNone || Op.bytesLess (p.getD []) a.addr) := hrb
  obtain ⟨first, hfirst⟩ : ∃ b, b = p.isNone := ⟨_, rfl⟩
  obtain ⟨last, hlast⟩ : ∃ b, b = p.getD [] := ⟨_, rfl⟩
  rw [← hfirst, ← hlast] at hrb2; rw [← hfirst, ← hlast]; refine Je Tryz.func33 rfl rfl fun w => ?_; refine sR fun K1 hK1 => ?_; refine Qi (cs := a.cells.toArray) rfl rfl rfl rfl fun ra => ?_; refine Ji rfl (nK hK1 ?_); clear hK1 K1; refine sR fun K2 hK2 => LS 2 [] rfl rfl ?_
  refine JA 11 rfl (fun hb3 => ?_) (fun hb3 => ?_) <;> (try simp only [ZZ] at hb3) <;> first | (refine LR rfl (JL rfl rfl rfl) ?_) | (refine LK rfl ?_)
  all_goals refine LW 2 [0] rfl rfl ?_
  all_goals first
    | (refine LR rfl (xF (a := a.addr) (b := last) rfl rfl) ?_)
    | (refine LK rfl ?_)
  all_goals refine LW 1 [] rfl rfl ?_
  all_goals first
    | (refine Jy (Ym (show true = rb by rw [hrb2]; simp_all)) ?_)
    | (refine Jy (Ym (show Op.bytesLess last a.addr = rb by rw [hrb2]; simp_all)) ?_)
  all_goals refine Ji rfl ?_
  all_goals refine Jg ?_
  all_goals (
   refine hK2 ?_; clear hK2 K2; refine sR fun K7 hK7 => Ji rfl (nK hK7 ?_); clear hK7 K7; refine sQ fun K8 hK8 => sR fun K9 hK9 => ?_; refine Ji rfl (nK hK9 ?_); clear hK9 K9; refine Ju (JG (σ := Nat × Bool × Bool) (fun q => RackI a rb q.1 q.2.1 q.2.2) (fun q => [(3, Value.pointer (some ⟨ra, 0, none⟩)), (7, .bool q.2.1), (8, .bool q.2.2), (9, .int .i64 (q.1 : Int))]) (fun _ => [(ra, .cells a.cells.toArray 34 (0, 0))]) (fun _ _ _ => True) (fun q => a.slots.length - q.1) (0, rb, false) (RackI.zero a rb) (.cons rfl (.cons rfl (.cons rfl (.cons rfl .nil)))) (List.Sublist.refl _) (fun _ _ h => h) ?_); rintro ⟨i, rs, sp⟩ hinv; simp only at hinv; change HC _ _ [(3, _), (7, .bool rs), (8, .bool sp), (9, .int .i64 (i : Int))] _ _ _ _; refine sQ fun K10 hK10 => sR fun K11 hK11 => ?_; refine Ji rfl ?_
   refine LS 2 [0] rfl rfl ?_; refine LR rfl (J3 rfl hseg rfl) ?_; refine JZ rfl (nK hK11 ?_); clear hK11 K11; refine Jc rfl (fun h12 => ?_) (fun h12 => ?_)
   · try simp only [ZZ] at h12
     refine Jf (hK10 ?_); clear hK10 K10; refine sB fun K13 hK13 => sQ fun K14 hK14 => ?_; refine sQ fun K15 hK15 => ?_
     obtain ⟨x, hx, hmx⟩ := QC (show i < a.slots.length by omega)
     refine Ja (LS 3 [0] rfl rfl ?_)
     refine LR rfl (Jp (j := i) rfl hseg rfl rfl rfl (by first | rfl | omega) (by omega)) ?_; refine LR rfl (JO (off' := XS a.p + (i * 2 + 0)) rfl rfl (by show XS a.p + i * 2 + 0 = _; omega)) ?_; refine LR rfl (QX JU (k := 0) (v := J2 x.1) (fun q hq => Or.inr hq) rfl hseg hx rfl rfl) ?_; refine LR rfl (JT rfl rfl) ?_; refine LS 2 [] rfl rfl ?_
     refine JA 32 rfl (fun hb16 => ?_) (fun hb16 => ?_) <;> (try simp only [ZZ] at hb16) <;> first | (refine LR rfl (JL rfl rfl rfl) ?_) | (refine LK rfl ?_)
     all_goals refine LW 2 [0] rfl rfl ?_
     all_goals first
       | (refine LR rfl (Jp (j := i) rfl hseg rfl rfl rfl (by first | rfl | omega) (by omega)) ?_)
       | (refine LK rfl ?_)
     all_goals first
       | (refine LR rfl (JO (off' := XS a.p + (i * 2 + 1)) rfl rfl (by show XS a.p + i * 2 + 1 = _; omega)) ?_)
       | (refine LK rfl ?_)
     all_goals first
       | (refine LR rfl (QX JU (k := 1) (v := J2 x.2) (fun q hq => Or.inr hq) rfl hseg hx rfl rfl) ?_)
       | (refine LK rfl ?_)
     all_goals first
       | (refine LR rfl (JT rfl rfl) ?_)
       | (refine LK rfl ?_)
     all_goals refine LW 2 [] rfl rfl ?_
     all_goals refine Jg ?_
     all_goals (
      refine hK15 ?_; clear hK15 K15; refine Jc rfl (fun h24 => ?_) (fun h24 => ?_)
      try simp only [ZZ] at h24
      refine sR fun K25 hK25 => Ji rfl (nK hK25 ?_); clear hK25 K25; refine Jb (Jd ?_); clear hK14 K14; refine Jn (Jd ?_); clear hK13 K13; refine Jd (Jn (Jd ?_)); clear hK8 K8; refine pT rfl rfl rfl fun w1 hs1 => ?_; refine ⟨?_, hs1.keep⟩; rw [Jpl p hx (by omega)]; rfl
      · try exact Bool.noConfusion h24
        all_goals try simp only [ZZ] at h24
        all_goals (
         refine Jf (hK14 ?_); clear hK14 K14; refine sQ fun K26 hK26 => ?_
         have hxo : x.1.length = 32 ∧ x.2.length = 32 := by omega
         obtain ⟨nv, hnv⟩ : ∃ b, b = decide (x.2 = Vc) := ⟨_, rfl⟩
         refine Ka 22 (by kernel_rfl) (by kernel_rfl) ?_; refine Jk rfl rfl rfl (Jo rfl) ?_; refine Jk rfl rfl rfl (Jo rfl) ?_
         refine je 43 rfl (fun hb27 => ?_) (fun hb27 => ?_) <;> (try simp only [ZZ] at hb27) <;> first | (refine Jk rfl rfl rfl (Jo rfl) ?_) | (refine JX rfl rfl rfl ?_)
         all_goals first
           | (refine Jk rfl rfl rfl (J9 rfl rfl rfl) ?_; refine Qk (Ym (show _ = decide (i = 0) from by rw [Bool.eq_iff_iff]; simp)) ?_)
           | (refine JX rfl rfl rfl ?_)
         all_goals first
           | (refine Jk rfl rfl rfl (Jo rfl) ?_)
           | (refine JX rfl rfl rfl ?_)
         all_goals first
           | (refine JX rfl rfl rfl ?_)
           | (refine je 46 rfl (fun hb30 => ?_) (fun hb30 => ?_) <;> (try simp only [ZZ] at hb30) <;> first | (refine Jk rfl rfl rfl (JL rfl rfl rfl) ?_) | (refine JX rfl rfl rfl ?_))
         all_goals first
           | (refine Jk rfl rfl rfl (Jm rfl (kn 0 rfl) rfl rfl) ?_)
           | (refine JX rfl rfl rfl ?_)
         all_goals first
           | (refine Jk rfl rfl rfl (Jo rfl) ?_)
           | (refine JX rfl rfl rfl ?_)
         all_goals first
           | (refine Jk rfl rfl rfl (Jp (j := i) rfl hseg rfl rfl rfl (by first | rfl | omega) (by omega)) ?_)
           | (refine JX rfl rfl rfl ?_)
         all_goals first
           | (refine Jk rfl rfl rfl (JO (off' := XS a.p + (i * 2 + 0)) rfl rfl (by show XS a.p + i * 2 + 0 = _; omega)) ?_)
           | (refine JX rfl rfl rfl ?_)
         all_goals first
           | (refine Jk rfl rfl rfl (QX JU (k := 0) (v := J2 x.1) (fun q hq => Or.inr hq) rfl hseg hx rfl rfl) ?_)
           | (refine JX rfl rfl rfl ?_)
         all_goals first
           | (refine Jk rfl rfl rfl (JL rfl rfl rfl) ?_)
           | (refine JX rfl rfl rfl ?_)
         all_goals first
           | (refine Jk rfl rfl rfl (Jm rfl (kn 0 rfl) rfl rfl) ?_)
           | (refine JX rfl rfl rfl ?_)
         all_goals first
           | (refine Jk rfl rfl rfl (Jo rfl) ?_)
           | (refine JX rfl rfl rfl ?_)
         all_goals first
           | (refine Jk rfl rfl rfl (J9 rfl rfl rfl) ?_; refine VT (by omega) (by omega) ?_)
           | (refine JX rfl rfl rfl ?_)
         all_goals first
           | (obtain ⟨y, hy, hmy⟩ := QC (show i - 1 < a.slots.length by omega); refine Jk rfl rfl rfl (Jp (j := (i - 1)) rfl hseg rfl rfl rfl (by first | rfl | omega) (by omega)) ?_)
           | (refine JX rfl rfl rfl ?_)
         all_goals first
           | (refine Jk rfl rfl rfl (JO (off' := XS a.p + ((i - 1) * 2 + 0)) rfl rfl (by show XS a.p + (i - 1) * 2 + 0 = _; omega)) ?_)
           | (refine JX rfl rfl rfl ?_)
         all_goals first
           | (refine Jk rfl rfl rfl (QX JU (k := 0) (v := J2 y.1) (fun q hq => Or.inr hq) rfl hseg hy rfl rfl) ?_)
           | (refine JX rfl rfl rfl ?_)
         all_goals first
           | (refine Jk rfl rfl rfl (xF (a := x.1) (b := y.1) rfl rfl) ?_; refine Qk (Ym (show Op.bytesLess y.1 x.1 = Op.bytesLess ((a.slots[i - 1]?.map Prod.fst).getD []) x.1 by rw [hy]; rfl)) ?_)
           | (refine JX rfl rfl rfl ?_)
         all_goals first
           | (refine Jk rfl rfl rfl (Yp rfl rfl) ?_)
           | (refine Jk rfl rfl rfl (Yq rfl rfl) ?_)
           | (refine JX rfl rfl rfl ?_)
         all_goals first
           | (refine Jk rfl rfl rfl (Yp rfl rfl) ?_)
           | (refine Jk rfl rfl rfl (Yq rfl rfl) ?_)
         all_goals refine Jk rfl rfl rfl (JN rfl) ?_
         all_goals refine Kt ?_
         all_goals refine Jg ?_
         all_goals (
          refine hK26 ?_; clear hK26 K26; refine Ka 12 (by kernel_rfl) (by kernel_rfl) ?_; refine Jk rfl rfl rfl (Jo rfl) ?_; refine Jk rfl rfl rfl (Jo rfl) ?_
          refine je 64 rfl (fun hb45 => ?_) (fun hb45 => ?_) <;> (try simp only [ZZ] at hb45) <;> first | (refine Jk rfl rfl rfl (JL rfl rfl rfl) ?_) | (refine JX rfl rfl rfl ?_)
          all_goals first
            | (refine Jk rfl rfl rfl (Jm rfl (kn 0 rfl) rfl rfl) ?_)
            | (refine JX rfl rfl rfl ?_)
          all_goals first
            | (refine Jk rfl rfl rfl (Jo rfl) ?_)
            | (refine JX rfl rfl rfl ?_)
          all_goals first
            | (refine Jk rfl rfl rfl (Jp (j := i) rfl hseg rfl rfl rfl (by first | rfl | omega) (by omega)) ?_)
            | (refine JX rfl rfl rfl ?_)
          all_goals first
            | (refine Jk rfl rfl rfl (JO (off' := XS a.p + (i * 2 + 1)) rfl rfl (by show XS a.p + i * 2 + 1 = _; omega)) ?_)
            | (refine JX rfl rfl rfl ?_)
          all_goals first
            | (refine Jk rfl rfl rfl (QX JU (k := 1) (v := J2 x.2) (fun q hq => Or.inr hq) rfl hseg hx rfl rfl) ?_)
            | (refine JX rfl rfl rfl ?_)
          all_goals first
            | (refine Qm rfl rfl rfl (enters_of Tryz.func36 (by kernel_rfl) rfl) Jh7 ?_)
            | (refine JX rfl rfl rfl ?_)
          all_goals first
            | (refine Jk rfl rfl rfl (QT (a := x.2) (b := Vc) rfl rfl) ?_; refine Qk (Ym hnv.symm) ?_)
            | (refine JX rfl rfl rfl ?_)
          all_goals first
            | (refine Jk rfl rfl rfl (Yp rfl rfl) ?_)
            | (refine Jk rfl rfl rfl (Yq rfl rfl) ?_)
          all_goals refine Jk rfl rfl rfl (JN rfl) ?_
          all_goals refine Kt ?_
          all_goals refine Jg ?_
          all_goals (
           refine Jj (hK13 ?_); clear hK13 K13; refine Ja (LS 2 [] rfl rfl (Jt (by omega) (by omega) ?_)); refine Ji rfl (Jg (J5 ?_)); refine J1 (i + 1, _, _) (RackI.next hinv hx hxo ?_ ?_) (by simp only; omega) (.cons rfl (.cons rfl (.cons rfl (.cons rfl .nil)))) (List.Sublist.refl _) (fun _ _ h => h)
           simp_all
           simp_all
           skip)
          skip)
         skip)
      skip)
   · try simp only [ZZ] at h12
     refine JE (Jl ?_); clear hK10 K10; refine Jl (J0 (hK8 ?_)); clear hK8 K8; refine sQ fun K53 hK53 => sQ fun K54 hK54 => ?_
     obtain rfl : i = a.slots.length := by have := hinv.le; omega
     have hE := Jpm (p := p) (hrb ▸ hinv)
     refine Ja ?_
     refine LS 2 [0] rfl rfl ?_; refine LR rfl (JT rfl rfl) ?_; refine JZ rfl (nK hK54 ?_); clear hK54 K54; refine Jc rfl (fun h55 => ?_) (fun h55 => ?_)
     try simp only [ZZ] at h55
     refine sR fun K56 hK56 => Ji rfl (nK hK56 ?_); clear hK56 K56; refine Jb (Jd ?_); clear hK53 K53; refine pT rfl rfl rfl fun w1 hs1 => ?_; refine ⟨?_, hs1.keep⟩; rw [hE, if_pos (by omega)]; rfl
     · try simp only [ZZ] at h55
       refine Jf (hK53 ?_); clear hK53 K53; refine sQ fun K57 hK57 => sR fun K58 hK58 => ?_; refine LS 2 [] rfl rfl (nK hK58 ?_); clear hK58 K58; refine Jc rfl (fun h59 => ?_) (fun h59 => ?_)
       try simp only [ZZ] at h59
       refine sR fun K60 hK60 => Ji rfl (nK hK60 ?_); clear hK60 K60; refine Jb (Jd ?_); clear hK57 K57; refine pT rfl rfl rfl fun w1 hs1 => ?_; refine ⟨?_, hs1.keep⟩; rw [hE, if_neg (by omega), if_pos (by assumption)]; rfl
       · try simp only [ZZ] at h59
         refine Jf (hK57 ?_); clear hK57 K57; refine sQ fun K61 hK61 => sR fun K62 hK62 => ?_
         refine LS 2 [0] rfl rfl ?_; refine LR rfl (JT rfl rfl) ?_; refine LS 2 [] rfl rfl ?_
         refine JA 84 rfl (fun hb63 => ?_) (fun hb63 => ?_) <;> (try simp only [ZZ] at hb63) <;> first | (refine LR rfl (JL rfl rfl rfl) ?_) | (refine LK rfl ?_)
         all_goals refine LW 1 [0] rfl rfl ?_
         all_goals first
           | (refine LR rfl (J3 rfl hseg rfl) ?_)
           | (refine LK rfl ?_)
         all_goals refine LW 2 [] rfl rfl ?_
         all_goals refine Jg ?_
         all_goals (
          refine hK62 ?_; clear hK62 K62; refine Jc rfl (fun h67 => ?_) (fun h67 => ?_)
          try simp only [ZZ] at h67
          refine sR fun K68 hK68 => Ji rfl (nK hK68 ?_); clear hK68 K68; refine Jb (Jd ?_); clear hK61 K61; refine pT rfl rfl rfl fun w1 hs1 => ?_; refine ⟨?_, hs1.keep⟩; rw [hE, if_neg (by omega), if_neg (by simp_all), if_pos (by omega)]; rfl
          · try exact Bool.noConfusion h67
            all_goals try simp only [ZZ] at h67
            all_goals (
             refine Jf (hK61 ?_); clear hK61 K61; refine sQ fun K69 hK69 => sR fun K70 hK70 => ?_; refine Ji rfl (nK hK70 ?_); clear hK70 K70; refine Jc rfl (fun h71 => ?_) (fun h71 => ?_)
             try simp only [ZZ] at h71
             refine sR fun K72 hK72 => Ji rfl (nK hK72 ?_); clear hK72 K72; refine Jb (Jd ?_); clear hK69 K69; refine pT rfl rfl rfl fun w1 hs1 => ?_; refine ⟨?_, hs1.keep⟩; rw [hE, if_neg (by omega), if_neg (by simp_all), if_neg (by omega), if_pos (by assumption)]; rfl
             try simp only [ZZ] at h71
             refine Jf (hK69 ?_); clear hK69 K69; refine sR fun K73 hK73 => Ji rfl (nK hK73 ?_); clear hK73 K73; refine Jb (pT rfl rfl rfl fun w1 hs1 => ?_); refine ⟨?_, hs1.keep⟩; rw [hE, if_neg (by omega), if_neg (by simp_all), if_neg (by omega), if_neg (by simp_all)]; rfl
             skip)
          skip)
   skip)
theorem Jj3 {s : StL} {i : Nat} (hi : i ≤ s.accts.length) : ((i : Int) == 0) = (WI s.er i).isNone := by
  cases i with
  | zero => rfl
  | succ j =>
    obtain ⟨a, ha, -⟩ := QC (show j < s.accts.length by omega)
    rw [xH ha rfl]; exact Jx9 (by omega)
theorem Jpn {R : Jr} {s : StL} (hs : s.In R) : PureR Tryz.prog 13 [s.val].toArray (.int .i64 (Qv s.er)) R := by
  have hl : s.accts.length ≤ 9223372036854775807 := hs.len
  have hseg := hs.seg
  obtain ⟨hc5, hcg⟩ := Jg2 s
  refine Je Tryz.func13 rfl rfl fun w => ?_; refine sR fun K1 hK1 => ?_; refine Qi (cs := s.cells.toArray) rfl rfl rfl rfl fun rs => ?_; refine Ji rfl (nK hK1 ?_); clear hK1 K1; refine sQ fun K2 hK2 => sR fun K3 hK3 => ?_
  refine LS 2 [0] rfl rfl ?_; refine LR rfl (J3 rfl hseg rfl) ?_; refine JZ rfl (nK hK3 ?_); clear hK3 K3; refine Jc rfl (fun h4 => ?_) (fun h4 => ?_)
  try simp only [ZZ] at h4
  refine sR fun K5 hK5 => Ji rfl (nK hK5 ?_); clear hK5 K5; refine Jb (Jd ?_); clear hK2 K2; refine pT rfl rfl rfl fun w1 hs1 => ?_; refine ⟨?_, hs1.keep⟩; rw [hc5 (by assumption)]; rfl
  · try simp only [ZZ] at h4
    refine Jf (hK2 ?_); clear hK2 K2; refine sR fun K6 hK6 => Ji rfl (nK hK6 ?_); clear hK6 K6; refine sQ fun K7 hK7 => sR fun K8 hK8 => ?_; refine Ji rfl (nK hK8 ?_); clear hK8 K8; refine Ju (JG (σ := Nat) (fun i => i ≤ s.accts.length ∧ goS (WI s.er i) (s.er.drop i) = goS none s.er) (fun i => [(1, Value.pointer (some ⟨rs, 0, none⟩)), (3, J2 ((WI s.er i).getD [])), (4, .int .i64 (i : Int))]) (fun _ => [(rs, .cells s.cells.toArray 24 (0, 0))]) (fun _ _ _ => True) (fun i => s.accts.length - i) 0 ⟨Nat.zero_le _, rfl⟩ (.cons rfl (.cons rfl (.cons rfl .nil))) (List.Sublist.refl _) (fun _ _ h => h) ?_); rintro i ⟨hi1, hinv⟩; refine sQ fun K9 hK9 => sR fun K10 hK10 => ?_; refine Ji rfl ?_
    refine LS 2 [0] rfl rfl ?_; refine LR rfl (J3 rfl hseg rfl) ?_; refine JZ rfl (nK hK10 ?_); clear hK10 K10; refine Jc rfl (fun h11 => ?_) (fun h11 => ?_)
    try simp only [ZZ] at h11
    refine Jf (hK9 ?_); clear hK9 K9; refine sB fun K12 hK12 => sQ fun K13 hK13 => ?_
    obtain ⟨a, ha, hma⟩ := QC (show i < s.accts.length by omega)
    rw [Jg0 (Wd ha)] at hinv; refine Ja (LS 3 [0] rfl rfl ?_)
    refine LR rfl (Jp (j := i) rfl hseg rfl rfl rfl (by first | rfl | omega) (by omega)) ?_; refine LR rfl (Ku AcL.len (fun q hq => Or.inr hq) rfl hseg ha rfl rfl) ?_; refine LS 2 [] rfl rfl ?_; refine Jy (Ym (Jj3 hi1)) ?_; refine Ji rfl (Jh rfl rfl rfl (enters_of Tryz.func33 (by kernel_rfl) rfl) (Js1 (hs.accts a hma) (WI s.er i)) (fun q hq => Or.inr hq) (Ji rfl ?_)); refine nK hK13 ?_; clear hK13 K13; refine sQ fun K14 hK14 => sR fun K15 hK15 => ?_; refine LS 2 [] rfl rfl (nK hK15 ?_); clear hK15 K15; refine Jc rfl (fun h16 => ?_) (fun h16 => ?_)
    try simp only [ZZ] at h16
    refine sR fun K17 hK17 => LS 2 [] rfl rfl (nK hK17 ?_); clear hK17 K17; refine Jb (Jd ?_); clear hK14 K14; refine Jn (Jd ?_); clear hK12 K12; refine Jd (Jn (Jd ?_)); clear hK7 K7; refine pT rfl rfl rfl fun w1 hs1 => ?_; refine ⟨?_, hs1.keep⟩; rw [hcg (by omega), ← hinv, if_pos (by simp_all)]; rfl
    try simp only [ZZ] at h16
    refine Jf (hK14 ?_); clear hK14 K14; refine Ja (LS 3 [0] rfl rfl ?_)
    refine LR rfl (Jp (j := i) rfl hseg rfl rfl rfl (by first | rfl | omega) (by omega)) ?_; refine LR rfl (JO (off' := XS s.p + (i * 8 + 0)) rfl rfl (by show XS s.p + i * 8 + 0 = _; omega)) ?_; refine LR rfl (QX AcL.len (k := 0) (v := J2 a.addr) (fun q hq => Or.inr hq) rfl hseg ha rfl rfl) ?_; refine Ji rfl (Jg ?_); refine Jj (hK12 ?_); clear hK12 K12; refine Ja (LS 2 [] rfl rfl (Jt (by omega) (by omega) ?_)); refine Ji rfl (Jg (J5 ?_)); exact J1 (i + 1) ⟨by omega, by rw [if_neg (by simp_all)] at hinv; exact hinv⟩ (by omega) (.cons rfl (.cons (by rw [xH ha rfl]; rfl) (.cons rfl .nil))) (List.Sublist.refl _) (fun _ _ h => h)
    · try simp only [ZZ] at h11
      refine JE (Jl ?_); clear hK9 K9; refine Jl (J0 (hK7 ?_)); clear hK7 K7; refine sR fun K18 hK18 => Ji rfl (nK hK18 ?_); clear hK18 K18; refine Jb (pT rfl rfl rfl fun w1 hs1 => ?_); refine ⟨?_, hs1.keep⟩; rw [hcg (by omega), ← hinv, List.drop_of_length_le (by rw [s.er_len]; omega)]; rfl
theorem yj {s t : StL} : s.er = t.er ↔ s.accts.length = t.accts.length ∧ ∀ (i : Nat) a b, s.accts[i]? = some a → t.accts[i]? = some b → a.er = b.er := by
  constructor
  · intro h
    refine ⟨by have := congrArg List.length h; rwa [s.er_len, t.er_len] at this, fun i a b ha hb => ?_⟩
    have h1 := Wd ha
    have h2 := Wd hb
    rw [h, h2] at h1; exact (Option.some.inj h1).symm
  · rintro ⟨h1, h2⟩
    apply List.ext_getElem?
    intro i
    by_cases hi : i < s.accts.length
    · obtain ⟨a, ha, _⟩ := QC hi
      obtain ⟨b, hb, _⟩ := QC (show i < t.accts.length by omega)
      rw [Wd ha, Wd hb, h2 i a b ha hb]
    · rw [List.getElem?_eq_none (by rw [s.er_len]; omega), List.getElem?_eq_none (by rw [t.er_len]; omega)]
theorem Js2 {R : Jr} {s t : StL} (hs : s.In R) (ht : t.In R) : PureR Tryz.prog 18 [s.val, t.val].toArray (.bool (decide (s.er = t.er))) R := by
  have hl : s.accts.length ≤ 9223372036854775807 := hs.len
  have hl2 : t.accts.length ≤ 9223372036854775807 := ht.len
  have h1 := hs.seg
  have h2 := ht.seg
  refine Je Tryz.func18 rfl rfl fun w => ?_; refine sR fun K1 hK1 => ?_; refine Qi (cs := s.cells.toArray) rfl rfl rfl rfl fun rs => ?_; refine Qi (cs := t.cells.toArray) rfl rfl rfl rfl fun rt => ?_; refine Ji rfl (nK hK1 ?_); clear hK1 K1; refine sQ fun K2 hK2 => sR fun K3 hK3 => ?_
  refine LS 2 [1] rfl rfl ?_; refine LR rfl (J3 rfl h1 rfl) ?_
  refine LS 2 [0] rfl rfl ?_; refine LR rfl (J3 rfl h2 rfl) ?_; refine JZ rfl (nK hK3 ?_); clear hK3 K3; refine Jc rfl (fun h4 => ?_) (fun h4 => ?_)
  try simp only [ZZ] at h4
  refine sR fun K5 hK5 => Ji rfl (nK hK5 ?_); clear hK5 K5; refine Jb (Jd ?_); clear hK2 K2; refine pT rfl rfl rfl fun w1 hs1 => ?_; refine ⟨?_, hs1.keep⟩; rw [decide_eq_false (show ¬ s.er = t.er from fun e => by have := (yj.1 e).1; omega)]; rfl
  · try simp only [ZZ] at h4
    refine Jf (hK2 ?_); clear hK2 K2; refine sQ fun K6 hK6 => sR fun K7 hK7 => ?_; refine Ji rfl (nK hK7 ?_); clear hK7 K7; refine Ju ?_
    have hll : s.accts.length = t.accts.length := by omega
    refine JG (σ := Nat) (fun i => i ≤ s.accts.length ∧ ∀ q, q < i → ∀ a b, s.accts[q]? = some a → t.accts[q]? = some b → a.er = b.er) (fun i => [(2, Value.pointer (some ⟨rs, 0, none⟩)), (3, Value.pointer (some ⟨rt, 0, none⟩)), (5, .int .i64 (i : Int))]) (fun _ => [(rt, .cells t.cells.toArray 24 (0, 0)), (rs, .cells s.cells.toArray 24 (0, 0))]) (fun _ _ _ => True) (fun i => s.accts.length - i) 0 ⟨by omega, fun j hj => absurd hj (by omega)⟩ (.cons rfl (.cons rfl (.cons rfl .nil))) (List.Sublist.refl _) (fun _ _ h => h) ?_; rintro i ⟨hi1, hinv⟩; refine sQ fun K8 hK8 => sR fun K9 hK9 => ?_; refine Ji rfl ?_
    refine LS 2 [1] rfl rfl ?_; refine LR rfl (J3 rfl h1 rfl) ?_; refine JZ rfl (nK hK9 ?_); clear hK9 K9; refine Jc rfl (fun h10 => ?_) (fun h10 => ?_)
    try simp only [ZZ] at h10
    refine Jf (hK8 ?_); clear hK8 K8; refine sB fun K11 hK11 => sQ fun K12 hK12 => ?_
    obtain ⟨x, hx, hmx⟩ := QC (show i < s.accts.length by omega)
    obtain ⟨y, hy, hmy⟩ := QC (show i < t.accts.length by omega)
    refine Ka 12 (by kernel_rfl) (by kernel_rfl) ?_
    refine Jk rfl rfl rfl (JL rfl rfl rfl) ?_; refine Jk rfl rfl rfl (Jm rfl (kn 1 rfl) rfl rfl) ?_; refine Jk rfl rfl rfl (Jo rfl) ?_
    refine Jk rfl rfl rfl (Jp (j := i) rfl h1 rfl rfl rfl (by first | rfl | omega) (by omega)) ?_; refine Jk rfl rfl rfl (Ku AcL.len (fun q hq => Or.inr hq) rfl h1 hx rfl rfl) ?_
    refine Jk rfl rfl rfl (JL rfl rfl rfl) ?_; refine Jk rfl rfl rfl (Jm rfl (kn 0 rfl) rfl rfl) ?_; refine Jk rfl rfl rfl (Jo rfl) ?_
    refine Jk rfl rfl rfl (Jp (j := i) rfl h2 rfl rfl rfl (by first | rfl | omega) (by omega)) ?_; refine Jk rfl rfl rfl (Ku AcL.len (fun q hq => Or.inr hq) rfl h2 hy rfl rfl) ?_; refine Xn rfl rfl rfl Jqj (Y6 (hs.accts x hmx) (ht.accts y hmy)) (fun q hq => Or.inr hq) ?_; refine Jk rfl rfl rfl (J9 rfl rfl rfl) ?_; refine Kt ?_; refine nK hK12 ?_; clear hK12 K12; refine Jc rfl (fun h13 => ?_) (fun h13 => ?_)
    try simp only [ZZ] at h13
    refine sR fun K14 hK14 => Ji rfl (nK hK14 ?_); clear hK14 K14; refine Jb (Jn (Jd ?_)); clear hK11 K11; refine Jd (Jn (Jd ?_)); clear hK6 K6; refine pT rfl rfl rfl fun w1 hs1 => ?_; refine ⟨?_, hs1.keep⟩; rw [decide_eq_false (show ¬ s.er = t.er from fun e => by have := (yj.1 e).2 i x y hx hy; simp_all)]; rfl
    try simp only [ZZ] at h13
    refine Jf (Jj (hK11 ?_)); clear hK11 K11; refine Ja (LS 2 [] rfl rfl (Jt (by omega) (by omega) ?_)); refine Ji rfl (Jg (J5 ?_))
    exact J1 (i + 1) ⟨by omega, fun q hq u v hu hv => by
      rcases Nat.lt_succ_iff_lt_or_eq.1 hq with hq | rfl
      exact hinv q hq u v hu hv
      rw [hx] at hu; rw [hy] at hv; cases hu; cases hv; simp_all⟩ (by omega) (.cons rfl (.cons rfl (.cons rfl .nil))) (List.Sublist.refl _) (fun _ _ h => h)
    · try simp only [ZZ] at h10
      refine JE (Jl ?_); clear hK8 K8; refine Jl (J0 (hK6 ?_)); clear hK6 K6; refine sR fun K15 hK15 => Ji rfl (nK hK15 ?_); clear hK15 K15; refine Jb (pT rfl rfl rfl fun w1 hs1 => ?_); refine ⟨?_, hs1.keep⟩; rw [decide_eq_true (yj.2 ⟨hll, fun q a b ha hb => hinv q (by have := (List.getElem?_eq_some_iff.1 ha).1; omega) a b ha hb⟩)]; rfl
structure OutI {α : Type} (f : α → List Value) (sz : Nat) (acc : List α) (n : Nat) (xs : List Value) (row : Vz) : Prop where
  num : n = acc.length
  cells : xs = acc.flatMap f
  ok : rowOk sz n xs row
theorem OutI.nil {α : Type} {f : α → List Value} {sz : Nat} : OutI f sz [] 0 [] none := ⟨rfl, rfl, rfl, rfl⟩
open Go.Proofs (Enters enters_of)
theorem jN {k n : Int} {p : Pl} {x : Ty} {l : List Vl} (hk : (k = 3 ∧ (l.length : Int) = n) ∨ (k = 4 ∧ (l.length : Int) ≤ n)) (h : ∀ v ∈ l, Kq v x = 0) : Kq (KJ l 0) (.mk k n p [x]) = 0 := by
  have hL : ∀ (l : List Vl) (i : Nat), (∀ v ∈ l, Kq v x = 0) → Qq l k 0 [x] i = 0 := by
    intro l
    induction l with
    | nil => intro i _; rw [Qq]
    | cons v l ih =>
      intro i h
      have e : JK k 0 [x] i = x := by unfold JK VY; rcases hk with ⟨rfl, _⟩ | ⟨rfl, _⟩ <;> rfl
      rw [Qq, e, if_pos (h v (by simp)), ih _ (fun w hw => h w (by simp [hw]))]
  unfold KJ
  rw [Wt ?_ ?_, hL l 0 h]
  · rcases hk with ⟨rfl, h1⟩ | ⟨rfl, h1⟩ <;> simp <;> omega
  · rw [Qo k n _ 0 0 0 0 [] none l none 0 _ rfl]
    rcases hk with ⟨rfl, h1⟩ | ⟨rfl, h1⟩ <;> simp [Qe, h1]
theorem yl {a b c d : Nat} {n : Int} {p : Pl} (h : ((Ws [a, b, c, d]).length : Int) ≤ n) : Kq (.mk a b c d [] none [] none 0) (.mk 1 n p []) = 0 := by
  rw [Wt (by simp) (by rw [Qo 1 n _ a b c d [] none [] none 0 _ rfl]; simp [Qe, h]), Qq]
theorem Jv2 : ∀ i : Fin 256, (Ws [i.val, 0, 0, 0]).length ≤ 1 := by decide +kernel
theorem Jpo (b : UInt8) : Kq (jG b) byT = 0 := yl (by have := Jv2 ⟨b.toNat, Vu b⟩; simp only at this; omega)
theorem Jan {s : BS} {n : Int} (h : (s.length : Int) = n) : Kq (wW s) (WL 3 n) = 0 := jN (.inl ⟨rfl, by rw [List.length_map]; exact h⟩) fun v hv => by obtain ⟨b, _, rfl⟩ := List.mem_map.1 hv; exact Jpo b
theorem Js3 {s : BS} {n : Int} (h : (s.length : Int) ≤ n) : Kq (wW s) (WL 4 n) = 0 := jN (.inr ⟨rfl, by rw [List.length_map]; exact h⟩) fun v hv => by obtain ⟨b, _, rfl⟩ := List.mem_map.1 hv; exact Jpo b
theorem Js4 {x : BS × BS} (h1 : x.1.length = 32) (h2 : x.2.length = 32) : Kq (jI x) qr = 0 := by
  unfold jI qr KJ
  rw [Wt (by simp) (by rw [Qo 7 0 _ 0 0 0 0 [] none _ none 0 _ rfl]; simp [Qe]), Qq, show JK 7 0 [WL 3 32, WL 3 32] 0 = WL 3 32 from rfl, if_pos (Jan (by omega)), Qq, show JK 7 0 [WL 3 32, WL 3 32] (0 + 1) = WL 3 32 from rfl, if_pos (Jan (by omega)), Qq]
theorem Js5 {n : Nat} (h : X5 n) : (Ws [n, 0, 0, 0]).length ≤ 8 := by
  have h1 := yH (l := [n, 0, 0, 0]) (Ju1 h)
  rw [Jbs] at h1; exact of_decide_eq_true h1.symm
theorem Jv3 {a : AcE} (h : XE a = 0) (hn : X5 a.nonce) : Kq (acV a) acT = 0 := by
  obtain ⟨h1, h2, _, h4, h5⟩ := WW h
  obtain ⟨I, hI⟩ : ∃ I, I = [WL 3 20, .mk 1 8 none [], .mk 1 32 none [], WL 4 512, .mk 4 16 none [qr]] := ⟨_, rfl⟩
  have e0 : JK 7 0 I 0 = WL 3 20 := by rw [hI]; rfl
  have e1 : JK 7 0 I (0 + 1) = .mk 1 8 none [] := by rw [hI]; rfl
  have e2 : JK 7 0 I (0 + 1 + 1) = .mk 1 32 none [] := by rw [hI]; rfl
  have e3 : JK 7 0 I (0 + 1 + 1 + 1) = WL 4 512 := by rw [hI]; rfl
  have e4 : JK 7 0 I (0 + 1 + 1 + 1 + 1) = .mk 4 16 none [qr] := by rw [hI]; rfl
  have hl : I.length = 5 := by rw [hI]; rfl
  have hsl : Kq (Vl.mk 0 0 0 0 [] none (a.slots.map jI) none 0) (.mk 4 16 none [qr]) = 0 := jN (.inr ⟨rfl, by rw [List.length_map]; omega⟩) fun v hv => by
    obtain ⟨x, hx, rfl⟩ := List.mem_map.1 hv
    exact Js4 (h2 x hx).1 (h2 x hx).2.1
  unfold acV acT KJ
  rw [← hI, Wt (by simp) (by rw [hl, Qo 7 0 _ 0 0 0 0 [] none _ none 0 _ rfl]; simp [Qe]), Qq, e0, if_pos (Jan (by omega)), Qq, e1, if_pos (yl (by have := Js5 hn; omega)), Qq, e2, if_pos (yl (by have := Jeo [a.bal.a, a.bal.b, a.bal.c, a.bal.d]; omega)),
    Qq, e3, if_pos (Js3 (by omega)), Qq, e4, if_pos hsl, Qq]
theorem Js6 {l : List AcE} (h : Qv l = 0) (hn : ∀ a ∈ l, X5 a.nonce) : Vv QS (XR l) = 0 := by
  obtain ⟨h1, h2, _⟩ := xz.1 h
  unfold Vv
  rw [if_pos Jaj]
  exact jN (.inr ⟨rfl, by rw [List.length_map]; omega⟩) fun v hv => by
    obtain ⟨a, ha, rfl⟩ := List.mem_map.1 hv
    exact Jv3 (h2 a ha) (hn a ha)
theorem Jao {s : StL} (h : Qv s.er = 0) : s.accts.length ≤ 100000 ∧ ∀ a ∈ s.accts, Ac1 a := by
  obtain ⟨h1, h2, _⟩ := xz.1 h
  rw [s.er_len] at h1; refine ⟨by omega, fun a ha => ?_⟩
  obtain ⟨g1, g2, _, g4, g5⟩ := WW (h2 a.er (List.mem_map.2 ⟨a, ha, rfl⟩))
  change a.addr.length = 20 at g1; change a.code.length ≤ 512 at g4; change a.slots.length ≤ 16 at g5; exact ⟨by omega, by omega, by omega, fun x hx => by obtain ⟨e1, e2, _⟩ := g2 x hx; omega⟩
theorem Jpp {R : Jr} {s : StL} (hs : s.In R) (h : Qv s.er = 0) : Vv QS (XR s.er) = 0 := Js6 h fun a ha => by
  obtain ⟨b, hb, rfl⟩ := List.mem_map.1 ha
  exact (hs.accts b hb).nonce
theorem Jdr : ∀ l : List Vl, (∀ x ∈ l, Nonempty (VR x)) → ∃ (ys : List Vl) (L : Jr), ys.map WN = l ∧ ∀ y ∈ ys, y.In L
  | [], _ => ⟨[], [], rfl, fun y hy => nomatch hy⟩
  | x :: l, h => by
    obtain ⟨ys, L, h1, h2⟩ := Jdr l fun y hy => h y (List.mem_cons_of_mem _ hy)
    obtain ⟨v⟩ := h x List.mem_cons_self
    refine ⟨v.x :: ys, v.L ++ L, by rw [List.map_cons, v.er, h1], fun y hy => ?_⟩
    rcases List.mem_cons.1 hy with rfl | hy
    · exact v.ok.mono fun q hq => List.mem_append_left _ hq
    · exact (h2 y hy).mono fun q hq => List.mem_append_right _ hq
theorem Z0 {l : List Vl} (h : ∀ x ∈ l, Nonempty (VR x)) (hl : l.length ≤ 100000) : Nonempty (VR (KJ l 0)) := by
  obtain ⟨ys, L, h1, h2⟩ := Jdr l h
  have hy : ys.length = l.length := by rw [← h1, List.length_map]
  exact ⟨⟨.mk 0 0 0 0 [] none ys (some (⟨0, 0, none⟩, ys.length)) 0, (0, .cells (Qj ys).toArray 0 (0, 0)) :: L, .mk u0 u0 u0 u0 (by decide) rfl (by omega) ⟨Nat.le_refl _, fun _ => ⟨rfl, _, 0, (0, 0), List.mem_cons_self, by rw [List.drop_zero, List.toList_toArray, List.take_length]⟩⟩ i0 fun x hx => (h2 x hx).mono fun q hq => List.mem_cons_of_mem _ hq, by rw [Qc, Wh, h1]; rfl⟩⟩
theorem Jh8 {a b c d : Nat} (ha : X5 a) (hb : X5 b) (hc : X5 c) (hd : X5 d) : Nonempty (VR (.mk a b c d [] none [] none 0)) :=
  ⟨⟨.mk a b c d [] none [] none 0, [], .mk ha hb hc hd (by decide) rfl (by decide) rfl i0 (fun x hx => nomatch hx), by rw [Qc, Yi]⟩⟩
theorem Jap {s : BS} (hl : s.length ≤ 100000) : Nonempty (VR (wW s)) := ⟨Jo0 hl⟩
theorem Jv4 {a : AcL} (h : Ac1 a) (hn : X5 a.nonce) (hb : a.bal.ok) : Nonempty (VR (acV a.er)) := by
  obtain ⟨h1, h2, h3, h4⟩ := h
  refine Z0 (fun x hx => ?_) (by show 5 ≤ 100000; decide); simp only [List.mem_cons, List.not_mem_nil, or_false] at hx
  rcases hx with rfl | rfl | rfl | rfl | rfl
  · exact Jap h1
  · exact Jh8 hn u0 u0 u0
  · exact Jh8 hb.a hb.b hb.c hb.d
  · exact Jap h2
  · refine Z0 (fun x hx => ?_) (by rw [List.length_map]; exact h3)
    obtain ⟨⟨k, v⟩, hy, rfl⟩ := List.mem_map.1 hx
    refine Z0 (fun x hx => ?_) (by show 2 ≤ 100000; decide); simp only [List.mem_cons, List.not_mem_nil, or_false] at hx
    rcases hx with rfl | rfl
    · exact Jap (h4 _ hy).1
    · exact Jap (h4 _ hy).2
theorem Jpq {R : Jr} {s : StL} (hs : s.In R) (h : Qv s.er = 0) : Nonempty (VR (XR s.er)) := by
  obtain ⟨hn, hb⟩ := Jao h
  refine Z0 (fun x hx => ?_) (by rw [List.length_map, s.er_len]; exact hn)
  obtain ⟨a, ha, rfl⟩ := List.mem_map.1 hx
  obtain ⟨b, hb2, rfl⟩ := List.mem_map.1 ha
  exact Jv4 (hb b hb2) (hs.accts b hb2).nonce (hs.accts b hb2).bal
def Jt9 : TR QS := ⟨Joh 0 0 0 0 0 0 0 0, [(0, Jjr 0), (0, .cells #[.int .i64 3, .int .i64 32, .slice (some ⟨0, 0, none⟩) 1 1, .int .i64 3, .int .i64 32, .slice (some ⟨0, 0, none⟩) 1 1] 0 (0, 0)), (0, .cells #[.int .i64 7, .int .i64 0, .slice (some ⟨0, 0, none⟩) 2 2] 0 (0, 0)),
  (0, .cells #[.int .i64 3, .int .i64 20, .slice (some ⟨0, 0, none⟩) 1 1, .int .i64 1, .int .i64 8, .slice none 0 0, .int .i64 1, .int .i64 32, .slice none 0 0, .int .i64 4, .int .i64 512, .slice (some ⟨0, 0, none⟩) 1 1, .int .i64 4, .int .i64 16, .slice (some ⟨0, 0, none⟩) 1 1] 0 (0, 0)),
  (0, .cells #[.int .i64 7, .int .i64 0, .slice (some ⟨0, 0, none⟩) 5 5] 0 (0, 0))], Jhr (e := 0) (by simp) (by simp) (by simp) (by simp) (by simp) (by simp) (by simp) (by simp), Jhs ..⟩
theorem Js7 (t : Ty) (v : Vl) : jt t (WN v) = jt t v := by unfold jt Vv; rw [Jfe, Jnn]
theorem Jpr (t : Ty) (v : Vl) : Yl t (WN v) = Yl t v := by unfold Yl Vv; rw [Jfe, Jr5]
theorem Js8 {T : Ty} {V : Vl} (t : TR T) (v : VR V) : jt t.x v.x = jt T V := by obtain ⟨x, L, ok, rfl⟩ := t; obtain ⟨y, M, ok2, rfl⟩ := v; rw [Jos, Js7]
theorem Jps {T : Ty} {V : Vl} (t : TR T) (v : VR V) : Yl t.x v.x = Yl T V := by obtain ⟨x, L, ok, rfl⟩ := t; obtain ⟨y, M, ok2, rfl⟩ := v; rw [Jjw, Jpr]
theorem Jds {l : List AcE} (h : Qv l = 0) (hf : Vv QS (XR l) = 0) : jJ l = (KB (XR l) QS, 0) := by
  unfold jJ Yl
  rw [if_neg (by omega), if_neg (by omega)]
theorem zt {R : Jr} {s : StL} (hs : s.In R) (hw : Qv s.er = 0 → wV (XR s.er) ≤ 20000) : PureR Tryz.prog 27 [s.val].toArray (ZI (WT s.er)) R := by
  have hC := Wx hs
  have hac := Jao (s := s)
  have hlay := Jpq hs
  have hfit := Jpp hs
  have hb0 : Qv s.er ≠ 0 → WT s.er = ([], Qv s.er) := fun h => by unfold WT; rw [if_pos h]
  have hb1 : Qv s.er = 0 → WT s.er = jt QS (XR s.er) := fun h => by unfold WT; rw [if_neg (by omega)]
  obtain ⟨accts, p⟩ := s
  generalize hz0 : Qv (StL.er ⟨accts, p⟩) = z at *
  refine Je Tryz.func27 rfl rfl fun w => ?_; refine sR fun _ hK1 => ?_; refine LN rfl fun r1 => ?_; refine LS 2 [] rfl rfl (nK hK1 ?_); refine sQ fun _ hK2 => sR fun _ hK3 => ?_; refine LR rfl (Jx (vs := [_]) rfl (kn 0 rfl) rfl rfl rfl rfl) ?_; refine Jh rfl rfl rfl Jed hC (fun q hq => Or.inr hq) ?_; refine Ji rfl (nK hK3 ?_); refine sR fun _ hK4 => LS 2 [] rfl rfl (nK hK4 ?_); refine Jc rfl (fun h5 => ?_) (fun h5 => ?_)
  try simp only [ZZ] at h5
  refine sR fun _ hK6 => LS 3 [] rfl rfl (nK hK6 ?_); refine Jb (Jd ?_); refine Jv rfl rfl (.cons (J4 rfl) (.cons (J4 rfl) .nil)) (fun w1 hs1 => ?_); refine ⟨?_, hs1.keep⟩; rw [hb0 (by assumption)]; rfl
  · try simp only [ZZ] at h5
    refine Jf (hK2 ?_); refine sQ fun _ hK7 => ?_
    have hz : z = 0 := by assumption
    obtain ⟨hn, hb⟩ := hac hz
    obtain ⟨v0⟩ := hlay hz
    have hww := hw hz
    refine JS [(r1, .cells #[KM accts.length p] 24 (0, 0))] [(0, .grow (Qt Jt9 (fun y => y.x.val) (fun y => y.L))), (1, .pure), (2, .pure), (3, .grow (Qt v0 (fun y => y.x.val) (fun y => y.L))), (5, .pure), (6, .pure)] 7 [1, 2, 0, 3, 4, 5, 6] (by kernel_rfl) (by kernel_rfl) (by first | exact (fun _ h => absurd h List.not_mem_nil) | simp [SubS] | (intro p hp; simp [hp])) ?_
    refine Jw (k := 1) rfl rfl rfl rfl rfl (fun _ hS => (JL rfl rfl rfl)) ?_; refine Jw (k := 2) rfl rfl rfl rfl rfl (fun _ hS => (Jm rfl (.inl (hS _ (Ky (n := 0) rfl))) rfl rfl)) ?_; refine KZ (k := 0) rfl rfl rfl rfl rfl Jup Jaf (fun q hq => nomatch hq) fun t => ?_; refine KZ (k := 3) rfl rfl rfl rfl rfl (enters_of Tryz.func54 (by kernel_rfl) rfl) (Jh4 hs hn hb) (fun q hq => Or.inr hq) fun v => ?_
    refine Qp (k := 4) (Rl := v.L ++ t.L) rfl rfl rfl rfl rfl (enters_of Tryz.func52 (by kernel_rfl) rfl) (Jng (t.ok.mono fun q hq => List.mem_append_right _ hq) (v.ok.mono fun q hq => List.mem_append_left _ hq) (by rw [← Jt5 v.x, v.er]; exact hww)) (fun q hq => .inl (by rcases List.mem_append.1 hq with h | h <;> simp [h])) ?_; refine W9 (congrArg ZI (Js8 t v)) ?_; refine Jw (k := 5) rfl rfl rfl rfl rfl (fun _ hS => (Qh rfl rfl)) ?_; refine Jw (k := 6) rfl rfl rfl rfl rfl (fun _ hS => (Qh rfl rfl)) ?_; refine KC ?_; refine LS 2 [] rfl rfl (nK hK7 ?_); refine Jb ?_; refine Jv rfl rfl (.cons (J4 rfl) (.cons (J4 rfl) .nil)) (fun w1 hs1 => ?_); refine ⟨?_, hs1.keep⟩; rw [hb1 hz]; rfl
theorem Jdt {R : Jr} {s : StL} (hs : s.In R) (hw : Qv s.er = 0 → wV (XR s.er) ≤ 20000) : PureR Tryz.prog 29 [s.val].toArray (ZI (jJ s.er)) R := by
  have hC := Wx hs
  have hac := Jao (s := s)
  have hlay := Jpq hs
  have hfit := Jpp hs
  have hb0 : Qv s.er ≠ 0 → jJ s.er = ([], Qv s.er) := fun h => by unfold jJ; rw [if_pos h]
  have hb1 : Qv s.er = 0 → jJ s.er = Yl QS (XR s.er) := fun h => by unfold jJ; rw [if_neg (by omega)]
  obtain ⟨accts, p⟩ := s
  generalize hz0 : Qv (StL.er ⟨accts, p⟩) = z at *
  refine Je Tryz.func29 rfl rfl fun w => ?_; refine sR fun _ hK1 => ?_; refine LN rfl fun r1 => ?_; refine LS 2 [] rfl rfl (nK hK1 ?_); refine sQ fun _ hK2 => sR fun _ hK3 => ?_; refine LR rfl (Jx (vs := [_]) rfl (kn 0 rfl) rfl rfl rfl rfl) ?_; refine Jh rfl rfl rfl Jed hC (fun q hq => Or.inr hq) ?_; refine Ji rfl (nK hK3 ?_); refine sR fun _ hK4 => LS 2 [] rfl rfl (nK hK4 ?_); refine Jc rfl (fun h5 => ?_) (fun h5 => ?_)
  try simp only [ZZ] at h5
  refine sR fun _ hK6 => LS 3 [] rfl rfl (nK hK6 ?_); refine Jb (Jd ?_); refine Jv rfl rfl (.cons (J4 rfl) (.cons (J4 rfl) .nil)) (fun w1 hs1 => ?_); refine ⟨?_, hs1.keep⟩; rw [hb0 (by assumption)]; rfl
  · try simp only [ZZ] at h5
    refine Jf (hK2 ?_); refine sQ fun _ hK7 => ?_
    have hz : z = 0 := by assumption
    obtain ⟨hn, hb⟩ := hac hz
    obtain ⟨v0⟩ := hlay hz
    have hww := hw hz
    refine JS [(r1, .cells #[KM accts.length p] 24 (0, 0))] [(0, .grow (Qt Jt9 (fun y => y.x.val) (fun y => y.L))), (1, .pure), (2, .pure), (3, .grow (Qt v0 (fun y => y.x.val) (fun y => y.L))), (5, .pure), (6, .pure)] 7 [1, 2, 0, 3, 4, 5, 6] (by kernel_rfl) (by kernel_rfl) (by first | exact (fun _ h => absurd h List.not_mem_nil) | simp [SubS] | (intro p hp; simp [hp])) ?_
    refine Jw (k := 1) rfl rfl rfl rfl rfl (fun _ hS => (JL rfl rfl rfl)) ?_; refine Jw (k := 2) rfl rfl rfl rfl rfl (fun _ hS => (Jm rfl (.inl (hS _ (Ky (n := 0) rfl))) rfl rfl)) ?_; refine KZ (k := 0) rfl rfl rfl rfl rfl Jup Jaf (fun q hq => nomatch hq) fun t => ?_; refine KZ (k := 3) rfl rfl rfl rfl rfl (enters_of Tryz.func54 (by kernel_rfl) rfl) (Jh4 hs hn hb) (fun q hq => Or.inr hq) fun v => ?_
    refine Qp (k := 4) (Rl := v.L ++ t.L) rfl rfl rfl rfl rfl (enters_of Tryz.func58 (by kernel_rfl) rfl) (Jsh (t.ok.mono fun q hq => List.mem_append_right _ hq) (v.ok.mono fun q hq => List.mem_append_left _ hq) (by rw [← Jt5 v.x, v.er]; exact hww)) (fun q hq => .inl (by rcases List.mem_append.1 hq with h | h <;> simp [h])) ?_; refine W9 (congrArg ZI (Jps t v)) ?_; refine Jw (k := 5) rfl rfl rfl rfl rfl (fun _ hS => (Qh rfl rfl)) ?_; refine Jw (k := 6) rfl rfl rfl rfl rfl (fun _ hS => (Qh rfl rfl)) ?_; refine KC ?_; refine LS 2 [] rfl rfl (nK hK7 ?_); refine Jb ?_; refine Jv rfl rfl (.cons (J4 rfl) (.cons (J4 rfl) .nil)) (fun w1 hs1 => ?_); refine ⟨?_, hs1.keep⟩; rw [hb1 hz]; rfl
theorem Js9 (n : Nat) : vR [n, 0, 0, 0] = .tuple #[uV n, .bool true] := by unfold vR; rw [Jbs]; rfl
theorem Jaq {R : Jr} {a b c d : Nat} {bits : List Bool} {pb : Pl} {items : List Vl} {pi : Pl} {pick : Int} (h : Vl.In R (.mk a b c d bits pb items pi pick)) : Seg R items.length (Qj items) pi := by cases h; assumption
theorem Jua {R : Jr} {a b c d : Nat} {bits : List Bool} {pb : Pl} {items : List Vl} {pi : Pl} {pick : Int} (h : Vl.In R (.mk a b c d bits pb items pi pick)) : W4.ok ⟨a, b, c, d⟩ := by cases h; exact ⟨by assumption, by assumption, by assumption, by assumption⟩
theorem vD {a b c d : Nat} {bits : List Bool} {pb : Pl} {items : List Vl} {pi : Pl} {pick k n : Int} {p : Pl} {ins : List Ty} (h : Kq (.mk a b c d bits pb items pi pick) (.mk k n p ins) = 0) : ¬ (k = 4 ∧ n < items.length) ∧ yC k n ins.length (.mk a b c d bits pb items pi pick) = true ∧ Qq items k pick ins 0 = 0 := by
  rw [Kq] at h
  split at h
  · cases h
  · rename_i h1
    split at h
    · cases h
    · rename_i h2
      exact ⟨fun e => h1 (.inl e), by simpa using h2, h⟩
theorem ym {v : Vl} {n : Int} {p : Pl} {x : Ty} (h : Kq v (.mk 4 n p [x]) = 0) : (v.items.length : Int) ≤ n ∧ ∀ y ∈ v.items, Kq y x = 0 := by
  obtain ⟨a, b, c, d, bits, pb, items, pi, pick⟩ := v
  obtain ⟨h1, _, h3⟩ := vD h
  refine ⟨by show (items.length : Int) ≤ n; omega, fun y hy => ?_⟩
  obtain ⟨j, hj⟩ := List.getElem?_of_mem hy
  exact Wf h3 hj
theorem Jar {v : Vl} {n : Int} {p : Pl} {x : Ty} (h : Kq v (.mk 3 n p [x]) = 0) : (v.items.length : Int) = n := by
  obtain ⟨a, b, c, d, bits, pb, items, pi, pick⟩ := v
  obtain ⟨_, h2, _⟩ := vD h
  rw [Qo 3 n _ a b c d bits pb items pi pick _ rfl] at h2; simp at h2; exact h2.2
theorem Jh9 {v : Vl} {p : Pl} {ins : List Ty} (h : Kq v (.mk 7 0 p ins) = 0) : v.items.length = ins.length ∧ ∀ (j : Nat) y, v.items[j]? = some y → Kq y (ins.getD j default) = 0 := by
  obtain ⟨a, b, c, d, bits, pb, items, pi, pick⟩ := v
  obtain ⟨_, h2, h3⟩ := vD h
  rw [Qo 7 0 _ a b c d bits pb items pi pick _ rfl] at h2; simp at h2; refine ⟨h2.2, fun j y hy => ?_⟩
  have := Wf h3 hy
  rw [Nat.zero_add] at this; exact this
theorem Jv5 {R : Jr} {v : Vl} {p : Pl} {ins : List Ty} (hv : v.In R) (h : Kq v (.mk 1 8 p ins) = 0) : ∃ n, v.num = [n, 0, 0, 0] ∧ X5 n := by
  obtain ⟨a, b, c, d, bits, pb, items, pi, pick⟩ := v
  obtain ⟨_, h2, _⟩ := vD h
  rw [Qo 1 8 _ a b c d bits pb items pi pick _ rfl] at h2; simp at h2
  have hw := Jua hv
  have h1 := yH (l := [a, b, c, d]) hw.wok
  rw [decide_eq_true (by have := h2.2; omega)] at h1; exact ⟨a, (Jl8 h1).symm, hw.a⟩
theorem Jpt {z : Vl} (h : Kq z qr = 0) : ∃ k0 k1, z.items = [k0, k1] ∧ k0.items.length = 32 ∧ k1.items.length = 32 := by
  obtain ⟨h1, h2⟩ := Jh9 h
  match hz : z.items, h1 with
  | [k0, k1], _ =>
    have e0 := h2 0 k0 (by rw [hz]; rfl)
    have e1 := h2 1 k1 (by rw [hz]; rfl)
    exact ⟨k0, k1, rfl, by have := Jar e0; omega, by have := Jar e1; omega⟩
theorem Jta {R : Jr} {x : Vl} (hx : x.In R) (h : Kq x acT = 0) : ∃ p0 p1 p2 p3 p4 : Vl, x.items = [p0, p1, p2, p3, p4] ∧ p0.items.length = 20 ∧ (p1.num.getD 1 0 = 0 ∧ p1.num.getD 2 0 = 0 ∧ p1.num.getD 3 0 = 0 ∧ X5 (p1.num.getD 0 0)) ∧ True ∧ p3.items.length ≤ 512 ∧ (p4.items.length ≤ 16 ∧ ∀ z ∈ p4.items, ∃ k0 k1, z.items = [k0, k1] ∧ k0.items.length = 32 ∧ k1.items.length = 32) := by
  obtain ⟨h1, h2⟩ := Jh9 h
  match hz : x.items, h1 with
  | [p0, p1, p2, p3, p4], _ =>
    have e0 := h2 0 p0 (by rw [hz]; rfl)
    have e1 := h2 1 p1 (by rw [hz]; rfl)
    have e3 := h2 3 p3 (by rw [hz]; rfl)
    have e4 := h2 4 p4 (by rw [hz]; rfl)
    have hi1 : p1.In R := by obtain ⟨a, b, c, d, bits, pb, items, pi, pick⟩ := x; exact hx.sub p1 (by show p1 ∈ items; rw [show items = _ from hz]; simp)
    obtain ⟨n, hn, hu⟩ := Jv5 hi1 e1
    obtain ⟨g3, _⟩ := ym e3
    obtain ⟨g4, g5⟩ := ym e4
    refine ⟨p0, p1, p2, p3, p4, rfl, by have := Jar e0; omega, by rw [hn]; exact ⟨rfl, rfl, rfl, hu⟩, trivial, by omega, by omega, fun z hz => Jpt (g5 z hz)⟩
theorem Jxs {gv : Vl} {ya yb yc yd : Nat} {ybits : List Bool} {ypb : Pl} {yitems : List Vl} {ypi : Pl} {ypick : Int} (h : Kq gv QS = 0) (e : WN (.mk ya yb yc yd ybits ypb yitems ypi ypick) = gv) : (yitems.length : Int) ≤ 32 ∧ ∀ y ∈ yitems, Kq y acT = 0 := by
  rw [← e, Jfe] at h; exact ym h
theorem jO (v : Vl) : (WN v).items = v.items.map WN := by obtain ⟨a, b, c, d, bits, pb, items, pi, pick⟩ := v; rw [Qc, Wh]; rfl
theorem Jfi (v : Vl) : (WN v).num = v.num := by obtain ⟨a, b, c, d, bits, pb, items, pi, pick⟩ := v; rw [Qc]; rfl
theorem Jas (v : Vl) : YE (WN v) = YE v := by
  unfold YE; rw [jO, List.map_map]; exact List.map_congr_left fun x _ => by show UInt8.ofNat ((WN x).num.getD 0 0) = _; rw [Jfi]
theorem v0_er : WN v0L = v0L := by unfold v0L; rw [Qc, Yi]
theorem Y7 (v : Vl) (i : Nat) : jK (WN v) i = WN (jK v i) := by
  unfold jK
  rw [jO, List.getD_eq_getElem?_getD, List.getD_eq_getElem?_getD, List.getElem?_map]
  cases v.items[i]? with
  | none => exact v0_er.symm
  | some x => rfl
theorem Jtb (v : Vl) : X0 (WN v) = X0 v := by unfold X0; rw [Y7, Y7, Jas, Jas]
theorem Jv6 (v : Vl) : acB (WN v) = acB v := by
  unfold acB w4B
  rw [Y7, Y7, Y7, Y7, Y7, Jas, Jas, Jfi, Jfi, jO, List.map_map, show (X0 ∘ WN) = X0 from funext Jtb]
theorem Jtc (v : Vl) : qu (WN v) = qu v := by unfold qu; rw [jO, List.map_map, show (acB ∘ WN) = acB from funext Jv6]
theorem Jpu {l : List Vl} {j : Nat} {a b c d : Nat} {bits : List Bool} {pb pi : Pl} {k0 k1 : Vl} {pick : Int} {cs : List Value} (h : l[j]? = some (.mk a b c d bits pb [k0, k1] pi pick)) (hc : cs = [J2 (YE k0), J2 (YE k1)]) : wi ((l.take j).map X0) ++ cs = wi ((l.take (j + 1)).map X0) := by
  rw [Ks h, List.map_append, hc]; unfold wi; rw [List.flatMap_append]; rfl
theorem vE (v : Vl) : (YE v).length = v.items.length := by unfold YE; rw [List.length_map]
theorem Jv7 {acs : List AcL} {E S : Jr} {p0a p0b p0c p0d p3a p3b p3c p3d : Nat} {p0bi p3bi : List Bool} {p0pb p0pi p3pb p3pi p : Pl} {p0it p3it zs : List Vl} {p0pk p3pk : Int} {n : Nat} {w : W4} (hin : ∀ a ∈ acs, AcL.In E a) (hs : Seg S (zs.map X0).length (wi (zs.map X0)) p) (h0 : p0it.length = 20) (h3 : p3it.length ≤ 512) (hz : zs.length ≤ 16) (hn : X5 n) (hw : w.ok) (hzz : ∀ z ∈ zs, ∃ k0 k1, z.items = [k0, k1] ∧ k0.items.length = 32 ∧ k1.items.length = 32) {q : AcL}
    (hq : q ∈ acs ++ [(⟨YE (.mk p0a p0b p0c p0d p0bi p0pb p0it p0pi p0pk), n, w, YE (.mk p3a p3b p3c p3d p3bi p3pb p3it p3pi p3pk), zs.map X0, p⟩ : AcL)]) : AcL.In (S ++ E) q := by
  rcases List.mem_append.1 hq with hq | hq
  · exact (hin q hq).mono fun p hp => List.mem_append_right _ hp
  · rw [List.mem_singleton.1 hq]
    refine ⟨?_, hn, hw, ?_, ?_, hs.mono fun p hp => List.mem_append_left _ hp, fun x hx => ?_⟩
    · show (YE _).length ≤ WH; rw [vE]; show p0it.length ≤ WH; unfold WH; omega
    · show (YE _).length ≤ WH; rw [vE]; show p3it.length ≤ WH; unfold WH; omega
    · show (zs.map X0).length ≤ WH; rw [List.length_map]; unfold WH; omega
    · obtain ⟨z, hz, rfl⟩ := List.mem_map.1 hx
      obtain ⟨k0, k1, e, e0, e1⟩ := hzz z hz
      have f0 : jK z 0 = k0 := by unfold jK; rw [e]; rfl
      have f1 : jK z 1 = k1 := by unfold jK; rw [e]; rfl
      unfold X0
      rw [f0, f1]; exact ⟨by show (YE k0).length ≤ WH; rw [vE]; unfold WH; omega, by show (YE k1).length ≤ WH; rw [vE]; unfold WH; omega⟩
theorem Jv8 {acs : List AcL} {yitems zs : List Vl} {i : Nat} {xa xb xc xd : Nat} {xbits : List Bool} {xpb xpi p p1pb p1pi p2pb p2pi p4pb p4pi : Pl} {xpick p1pk p2pk p4pk : Int} {P0 P3 : Vl} {n ba bb bc bd p4a p4b p4c p4d n1 n2 n3 : Nat} {p1bi p2bi p4bi : List Bool} {p1it p2it : List Vl} (her : acs.map AcL.er = (yitems.take i).map acB)
    (hx : yitems[i]? = some (.mk xa xb xc xd xbits xpb [P0, .mk n n1 n2 n3 p1bi p1pb p1it p1pi p1pk, .mk ba bb bc bd p2bi p2pb p2it p2pi p2pk, P3, .mk p4a p4b p4c p4d p4bi p4pb zs p4pi p4pk] xpi xpick)) :
    (acs ++ [(⟨YE P0, n, ⟨ba, bb, bc, bd⟩, YE P3, zs.map X0, p⟩ : AcL)]).map AcL.er = (yitems.take (i + 1)).map acB := by
  rw [List.map_append, her, Ks hx, List.map_append]; rfl
theorem Jv9 {acs : List AcL} {E : Jr} {row : Vz} {e : Nat} (h : rowOk 8 acs.length (jy acs) row) (hl : acs.length ≤ 100000) (hin : ∀ a ∈ acs, AcL.In E a) : StL.In (JY e (jy acs) row ++ E) ⟨acs, Vo row⟩ :=
  ⟨by show acs.length ≤ WH; unfold WH; omega, (Qg h (by decide)).mono fun q hq => List.mem_append_left _ hq, fun a ha => (hin a ha).mono fun q hq => List.mem_append_right _ hq⟩
theorem Jpv {T : Ty} (t : TR T) (s : BS) : getR t.x s = getR T s := by obtain ⟨x, L, ok, rfl⟩ := t; rw [Jow]
theorem Jpw {s : BS} (h : (getR QS s).2 = 0) : Kq (getR QS s).1 QS = 0 := by
  unfold getR at h ⊢
  rw [if_neg (by rw [Jaj]; decide)] at h ⊢
  by_cases h1 : 65536 < s.length
  · rw [if_pos h1] at h; cases h
  · rw [if_neg h1] at h ⊢
    exact (Jr6 QS 0 Jaj s _ (by omega) (Prod.ext rfl h)).1
open Classical in
theorem Jwa {α : Type} (b c : α) (Y T : List α) : (b :: (Y ++ (T ++ [c]))).Perm (b :: c :: (Y ++ T)) := by
  rw [List.perm_iff_count]; intro x; simp only [List.count_append, List.count_cons, List.count_nil]; omega
open Classical in
theorem Jat {α : Type} (M S W : List α) : (M ++ (S ++ W)).Perm (S ++ (M ++ W)) := by
  rw [List.perm_iff_count]; intro x; simp only [List.count_append]; omega
open Classical in
theorem Jwb {α : Type} (M S V W : List α) : (M ++ (S ++ (V ++ W))).Perm (V ++ (M ++ (S ++ W))) := by
  rw [List.perm_iff_count]; intro x; simp only [List.count_append]; omega
open Classical in
theorem Jwc {α : Type} (r : α) (P M W : List α) : (r :: (P ++ (M ++ W))).Perm (P ++ (M ++ (r :: W))) := by
  rw [List.perm_iff_count]; intro x; simp only [List.count_append, List.count_cons]; omega
open Classical in
theorem Jwd {α : Type} (r a b : α) (M S E W : List α) : (r :: a :: b :: (M ++ (S ++ (E ++ W)))).Perm (a :: b :: (M ++ (r :: ((S ++ E) ++ W)))) := by
  rw [List.perm_iff_count]; intro x; simp only [List.count_append, List.count_cons]; omega
set_option maxHeartbeats 4000000 in
theorem Jj4 (s : BS) : PureT (α := StRes [] (Zg s)) Tryz.prog 31 [J2 s].toArray (fun x => x.val) [] (fun x => x.L) [] := by
  have hgt : ∀ t : TR QS, PureT (α := VR (getR QS s).1) Tryz.prog 60 [t.x.val, J2 s].toArray (fun y => .tuple #[y.x.val, .int .i64 (getR QS s).2]) [] (fun y => y.L) t.L := fun t => by
    have := Jxj t.ok s
    rw [Jpv t s] at this; exact this
  have hfit := Jpw (s := s)
  have hPa : (getR QS s).2 ≠ 0 → Zg s = ([], (getR QS s).2) := fun h => by unfold Zg; rw [if_pos h]
  have hPb : (getR QS s).2 = 0 → Qv (qu (getR QS s).1) ≠ 0 → Zg s = ([], Qv (qu (getR QS s).1)) := fun h h2 => by unfold Zg; rw [if_neg (by omega), if_pos h2]
  have hPc : (getR QS s).2 = 0 → Qv (qu (getR QS s).1) = 0 → Zg s = (qu (getR QS s).1, 0) := fun h h2 => by unfold Zg; rw [if_neg (by omega), if_neg (by omega)]
  generalize (getR QS s).1 = gv at hgt hfit hPa hPb hPc
  generalize (getR QS s).2 = ge at hgt hfit hPa hPb hPc
  refine JH Tryz.func31 rfl rfl fun w => ?_; refine sR fun _ hK1 => ?_; refine LN rfl fun r1 => ?_; refine Ji rfl (nK hK1 ?_); refine sR fun _ hK2 => ?_; refine Qr rfl rfl rfl Jup (Jaf) (fun q hq => nomatch hq) fun t => ?_; refine Ji rfl (Qr rfl rfl rfl (enters_of Tryz.func60 (by kernel_rfl) rfl) (hgt t) (fun q hq => .inl (List.mem_append_left _ hq)) fun y => ?_)
  obtain ⟨⟨ya, yb, yc, yd, ybits, ypb, yitems, ypi, ypick⟩, yL, yok, yer⟩ := y
  refine LS 3 [] rfl rfl ?_; refine LN rfl fun r2 => ?_; refine KH (Jwa ..) ?_
  refine LT 0 rfl rfl (Ji rfl ?_); refine nK hK2 (sQ fun _ hK3 => ?_); refine sR fun _ hK4 => LS 2 [] rfl rfl (nK hK4 ?_); refine Jc rfl (fun h5 => ?_) (fun h5 => ?_)
  try simp only [ZZ] at h5
  refine sR fun _ hK6 => ?_; refine LR rfl (JI (r := [_]) rfl rfl) ?_; refine Ji rfl ?_
  refine LT 1 rfl rfl (Ji rfl ?_); refine nK hK6 (Jb (Jd ?_)); refine Jv rfl rfl (.cons (J6 (vs := [_]) rfl (kn 1 rfl) rfl rfl) (.cons (J4 rfl) .nil)) (fun w1 hs1 => ?_); exact ⟨⟨st0L, ge, [], wj, by rw [hPa (by assumption)]; rfl⟩, rfl, hs1.weakL (List.nil_sublist _)⟩
  · try simp only [ZZ] at h5
    refine Jf (hK3 ?_); refine sQ fun _ hK7 => ?_
    have hge : ge = 0 := by assumption
    have hyfit := Jxs (hfit hge) yer
    have hsY : Seg yL yitems.length (Qj yitems) ypi := Jaq yok
    obtain ⟨hy32, hyf⟩ := hyfit
    have hyin := yok.sub
    have hby : qu gv = yitems.map acB := by rw [← yer]; exact Jtc _
    refine Ja (LN rfl fun r3 => ?_); refine nK hK7 (sQ fun _ hK8 => ?_); refine sR fun _ hK9 => ?_
    refine LS 2 [1] rfl rfl ?_; refine LR rfl (J3 rfl hsY rfl) ?_; refine Ji rfl (nK hK9 ?_); refine Ju ?_; refine JG (σ := Nat × List AcL × Vz × Jr) (fun q => q.1 ≤ yitems.length ∧ rowOk 8 q.1 (jy q.2.1) q.2.2.1 ∧ (∀ a ∈ q.2.1, AcL.In q.2.2.2 a) ∧ q.2.1.map AcL.er = (yitems.take q.1).map acB) (fun q => [(2, V9 r1), (6, V9 r3), (26, KM yitems.length ypi), (27, .int .i64 (yitems.length : Int)), (28, .int .i64 (q.1 : Int))]) (fun q => (r3, .cells #[JF q.1 q.2.2.1] 24 (0, 0)) :: (r2, .cells #[uV ya, uV yb, uV yc, uV yd, KM ybits.length ypb, KM yitems.length ypi, .int .i64 ypick] 81 (0, 0)) :: (r1, .cells #[.slice none 0 0] 24 (0, 0)) :: (JY 34 (jy q.2.1) q.2.2.1 ++ (q.2.2.2 ++ yL))) (fun _ _ _ => True) (fun q => yitems.length - q.1) (0, [], none, []) ⟨Nat.zero_le _, ⟨rfl, rfl⟩, fun x hx => (nomatch hx), rfl⟩ (.cons rfl (.cons rfl (.cons rfl (.cons rfl (.cons rfl .nil))))) (by simp only [JY, List.nil_append]; exact .cons_cons _ (.cons_cons _ (.cons_cons _ (List.sublist_append_left _ _)))) (fun _ _ h => h) ?_; rintro ⟨i, acs, row, E⟩ ⟨hi1, hrow, hin, her⟩; simp only at hi1 hrow hin her; refine sR fun _ hK10 => JZ rfl (nK hK10 ?_); refine sQ fun _ hK11 => ?_; refine Jc rfl (fun h12 => ?_) (fun h12 => ?_)
    · try simp only [ZZ] at h12
      refine Jf (hK11 ?_); refine sB fun _ hK13 => sQ fun _ hK14 => ?_
      obtain ⟨x, hx, hxm⟩ := QC (show i < yitems.length by omega)
      obtain ⟨p0, p1, p2, p3, p4, hxi, hp0, hp1, hp2, hp3, hp4⟩ := Jta (hyin x hxm) (hyf x hxm)
      obtain ⟨xa, xb, xc, xd, xbits, xpb, xitems, xpi, xpick⟩ := x
      change xitems = _ at hxi; subst hxi
      have hxin : Vl.In yL _ := hyin _ hxm
      have hsx : Seg yL _ (Qj _) xpi := Jaq hxin
      have hpi0 := hxin.sub p0 (by simp)
      have hpi1 := hxin.sub p1 (by simp)
      have hpi2 := hxin.sub p2 (by simp)
      have hpi3 := hxin.sub p3 (by simp)
      have hpi4 := hxin.sub p4 (by simp)
      obtain ⟨p0a, p0b, p0c, p0d, p0bi, p0pb, p0it, p0pi, p0pk⟩ := p0
      obtain ⟨p1a, p1b, p1c, p1d, p1bi, p1pb, p1it, p1pi, p1pk⟩ := p1
      obtain ⟨p2a, p2b, p2c, p2d, p2bi, p2pb, p2it, p2pi, p2pk⟩ := p2
      obtain ⟨p3a, p3b, p3c, p3d, p3bi, p3pb, p3it, p3pi, p3pk⟩ := p3
      obtain ⟨p4a, p4b, p4c, p4d, p4bi, p4pb, p4it, p4pi, p4pk⟩ := p4
      obtain ⟨hq0, hq1, hq2, hq3⟩ : p1b = 0 ∧ p1c = 0 ∧ p1d = 0 ∧ X5 p1a := hp1
      subst hq0 hq1 hq2
      obtain ⟨hz16, hzz⟩ := hp4
      change p4it.length ≤ 16 at hz16
      have hsz : Seg yL p4it.length (Qj p4it) p4pi := Jaq hpi4
      change p0it.length = 20 at hp0; change p3it.length ≤ 512 at hp3
      have hba : W4.ok ⟨p2a, p2b, p2c, p2d⟩ := Jua hpi2
      refine Ja (LR rfl (Jp (j := i) rfl hsY rfl rfl rfl rfl (by omega)) (LR rfl (QI (fun q hq => .inl (by simp only [List.mem_cons, List.mem_append, hq, or_true, true_or])) rfl hsY hx rfl rfl) ?_)); refine LN rfl fun r4 => ?_
      refine LT 0 rfl rfl (nK hK14 ?_); refine sR fun _ hK15 => ?_
      refine LS 2 [0] rfl rfl ?_; refine LR rfl (Jp (j := 1) rfl hsx rfl rfl rfl rfl (by exact Nat.le_of_ble_eq_true rfl)) ?_; refine LR rfl (JO (off' := XS xpi + 7) rfl rfl (by show XS xpi + 1 * 7 + 0 = _; omega)) ?_; refine LR rfl (WZ (j := 7) (vs := [uV p1a, uV 0, uV 0, uV 0]) (fun q hq => .inl (by simp only [List.mem_cons, List.mem_append, hq, or_true, true_or])) rfl hsx (Nat.le_of_ble_eq_true rfl) rfl rfl rfl rfl) ?_; refine JD rfl rfl rfl (enters_of Tryz.func61 (by kernel_rfl) rfl) (zU (l := [p1a, 0, 0, 0]) (Ju1 hq3)) ?_; refine Jy ((Js9 p1a)) ?_; refine LS 5 [] rfl rfl (nK hK15 ?_); refine sQ fun _ hK16 => ?_
      refine JS [(r4, .cells #[uV xa, uV xb, uV xc, uV xd, KM xbits.length xpb, KM 5 xpi, .int .i64 xpick] 81 (0, 0))] [(0, .pure), (1, .pure), (2, .pure), (5, .pure), (6, .pure), (7, .pure), (8, .pure), (9, .pure), (11, .pure), (12, .pure), (13, .pure), (16, .pure), (17, .grow (Wc zJ (.cells #[.string ⟨#[]⟩, .int .u64 0, .int .u64 0, .int .u64 0, .int .u64 0, .int .u64 0, .string ⟨#[]⟩, .slice none 0 0] 34 (0, 0))))] 18 [0, 1, 2, 3, 4, 5, 6, 7, 8, 9, 10, 11, 12, 13, 14, 15, 16, 17] (by kernel_rfl) (by kernel_rfl) (by first | exact (fun _ h => absurd h List.not_mem_nil) | simp [SubS] | (intro p hp; simp [hp])) ?_
      refine Jw (k := 0) rfl rfl rfl rfl rfl (fun _ hS => (JL rfl rfl rfl)) ?_; refine Jw (k := 1) rfl rfl rfl rfl rfl (fun _ hS => (Jm rfl (.inl (hS _ (Ky (n := 0) rfl))) rfl rfl)) ?_; refine Jw (k := 2) rfl rfl rfl rfl rfl (fun _ _ => Jp (j := 0) rfl hsx rfl rfl rfl rfl (by exact Nat.le_of_ble_eq_true rfl)) ?_; refine KW (k := 3) rfl rfl rfl rfl rfl (QI (fun q hq => .inl (by simp only [List.mem_cons, List.mem_append, hq, or_true, true_or])) rfl hsx rfl rfl rfl) ?_; refine Qp (k := 4) (Rl := yL) rfl rfl rfl rfl rfl Jqm (Jsj hpi0 (by show _ ≤ 100000; show p0it.length ≤ 100000; omega)) (fun q hq => .inl (by simp only [List.mem_cons, List.mem_append, hq, or_true, true_or])) ?_; refine Jw (k := 5) rfl rfl rfl rfl rfl (fun _ hS => (Jo rfl)) ?_
      refine Jw (k := 6) rfl rfl rfl rfl rfl (fun _ hS => (JL rfl rfl rfl)) ?_; refine Jw (k := 7) rfl rfl rfl rfl rfl (fun _ hS => (Jm rfl (.inl (hS _ (Ky (n := 0) rfl))) rfl rfl)) ?_; refine Jw (k := 8) rfl rfl rfl rfl rfl (fun _ _ => Jp (j := 2) rfl hsx rfl rfl rfl rfl (by exact Nat.le_of_ble_eq_true rfl)) ?_; refine Jw (k := 9) rfl rfl rfl rfl rfl (fun _ _ => JO (off' := XS xpi + 14) rfl rfl (by show XS xpi + 2 * 7 + 0 = _; omega)) ?_; refine KW (k := 10) rfl rfl rfl rfl rfl (WZ (j := 14) (vs := [uV p2a, uV p2b, uV p2c, uV p2d]) (fun q hq => .inl (by simp only [List.mem_cons, List.mem_append, hq, or_true, true_or])) rfl hsx (Nat.le_of_ble_eq_true rfl) rfl rfl rfl rfl) ?_
      refine Jw (k := 11) rfl rfl rfl rfl rfl (fun _ hS => (JL rfl rfl rfl)) ?_; refine Jw (k := 12) rfl rfl rfl rfl rfl (fun _ hS => (Jm rfl (.inl (hS _ (Ky (n := 0) rfl))) rfl rfl)) ?_; refine Jw (k := 13) rfl rfl rfl rfl rfl (fun _ _ => Jp (j := 3) rfl hsx rfl rfl rfl rfl (by exact Nat.le_of_ble_eq_true rfl)) ?_; refine KW (k := 14) rfl rfl rfl rfl rfl (QI (fun q hq => .inl (by simp only [List.mem_cons, List.mem_append, hq, or_true, true_or])) rfl hsx rfl rfl rfl) ?_; refine Qp (k := 15) (Rl := yL) rfl rfl rfl rfl rfl Jqm (Jsj hpi3 (by show _ ≤ 100000; show p3it.length ≤ 100000; omega)) (fun q hq => .inl (by simp only [List.mem_cons, List.mem_append, hq, or_true, true_or])) ?_; refine Jw (k := 16) rfl rfl rfl rfl rfl (fun _ hS => (JI (r := [_, _, _, _, _, _, _, _]) rfl rfl)) ?_; refine Ya (k := 17) (cs := #[_, _, _, _, _, _, _, _]) rfl rfl rfl rfl rfl rfl fun r5 => ?_; refine KC ?_
      refine LT 0 rfl rfl (nK hK16 ?_); refine sQ fun _ hK17 => sR fun _ hK18 => ?_
      refine LS 2 [1] rfl rfl ?_; refine LR rfl (Jp (j := 4) rfl hsx rfl rfl rfl rfl (by exact Nat.le_of_ble_eq_true rfl)) ?_; refine LR rfl (JO (off' := XS xpi + 33) rfl rfl (by show XS xpi + 4 * 7 + 5 = _; omega)) ?_; refine LR rfl (jk (j := 33) (v := KM p4it.length p4pi) (fun q hq => .inl (by simp only [List.mem_cons, List.mem_append, hq, or_true, true_or])) rfl hsx (Nat.le_of_ble_eq_true rfl) rfl rfl) ?_; refine LR rfl (J3 rfl hsz rfl) ?_; refine Ji rfl (nK hK18 ?_); refine Ju ?_; refine JG (σ := Nat × Vz) (fun q => q.1 ≤ p4it.length ∧ rowOk 2 q.1 (wi ((p4it.take q.1).map X0)) q.2) (fun q => [(2, V9 r1), (6, V9 r3), (11, V9 r5), (26, KM yitems.length ypi), (27, .int .i64 (yitems.length : Int)), (28, .int .i64 (i : Int)), (62, KM p4it.length p4pi), (63, .int .i64 (p4it.length : Int)), (64, .int .i64 (q.1 : Int))]) (fun q => (r5, .cells #[J2 (YE (.mk p0a p0b p0c p0d p0bi p0pb p0it p0pi p0pk)), uV p1a, uV p2a, uV p2b, uV p2c, uV p2d, J2 (YE (.mk p3a p3b p3c p3d p3bi p3pb p3it p3pi p3pk)), JF q.1 q.2] 34 (0, 0)) :: (r3, .cells #[JF i row] 24 (0, 0)) :: (r2, .cells #[uV ya, uV yb, uV yc, uV yd, KM ybits.length ypb, KM yitems.length ypi, .int .i64 ypick] 81 (0, 0)) :: (r1, .cells #[.slice none 0 0] 24 (0, 0)) :: (JY 59 (wi ((p4it.take q.1).map X0)) q.2 ++ (JY 34 (jy acs) row ++ (E ++ yL)))) (fun _ _ _ => True) (fun q => p4it.length - q.1) (0, none) ⟨Nat.zero_le _, ⟨rfl, rfl⟩⟩ (.cons rfl (.cons rfl (.cons rfl (.cons rfl (.cons rfl (.cons rfl (.cons rfl (.cons rfl (.cons rfl .nil))))))))) (by simp only [JY, List.nil_append]; exact .cons_cons _ (.cons _ (List.Sublist.refl _))) (fun _ _ h => h) ?_; rintro ⟨j, rw2⟩ ⟨hj1, hrow2⟩; simp only at hj1 hrow2; refine sR fun _ hK19 => JZ rfl (nK hK19 ?_); refine sQ fun _ hK20 => ?_; refine Jc rfl (fun h21 => ?_) (fun h21 => ?_)
      · try simp only [ZZ] at h21
        refine Jf (hK20 ?_); refine sB fun _ hK22 => sQ fun _ hK23 => ?_
        obtain ⟨z, hz, hzm⟩ := QC (show j < p4it.length by omega)
        obtain ⟨k0, k1, hzi, hk0, hk1⟩ := hzz z hzm
        obtain ⟨za, zb, zc, zd, zbits, zpb, zitems, zpi, zpick⟩ := z
        change zitems = _ at hzi; subst hzi
        have hzin : Vl.In yL _ := hpi4.sub _ hzm
        have hsq : Seg yL _ (Qj _) zpi := Jaq hzin
        have hki0 := hzin.sub k0 (by simp)
        have hki1 := hzin.sub k1 (by simp)
        refine Ja (LR rfl (Jp (j := j) rfl hsz rfl rfl rfl rfl (by omega)) (LR rfl (QI (fun q hq => .inl (by simp only [List.mem_cons, List.mem_append, hq, or_true, true_or])) rfl hsz hz rfl rfl) ?_)); refine LN rfl fun r6 => ?_
        refine LT 0 rfl rfl (nK hK23 ?_)
        refine JS [(r5, .cells #[J2 (YE (.mk p0a p0b p0c p0d p0bi p0pb p0it p0pi p0pk)), uV p1a, uV p2a, uV p2b, uV p2c, uV p2d, J2 (YE (.mk p3a p3b p3c p3d p3bi p3pb p3it p3pi p3pk)), JF j rw2] 34 (0, 0)), (r6, .cells #[uV za, uV zb, uV zc, uV zd, KM zbits.length zpb, KM 2 zpi, .int .i64 zpick] 81 (0, 0))] [(0, .pure), (1, .pure), (2, .pure), (3, .pure), (4, .pure), (7, .pure), (8, .pure), (9, .pure), (12, .pure), (13, .grow (Wc (slV 1) (.cells #[J2 (YE k0), J2 (YE k1)] 59 (0, 0))))] 14 [0, 1, 2, 3, 4, 5, 6, 7, 8, 9, 10, 11, 12, 13] (by kernel_rfl) (by kernel_rfl) (by first | exact (fun _ h => absurd h List.not_mem_nil) | simp [SubS] | (intro p hp; simp [hp])) ?_
        refine Jw (k := 0) rfl rfl rfl rfl rfl (fun _ hS => (JL rfl rfl rfl)) ?_; refine Jw (k := 1) rfl rfl rfl rfl rfl (fun _ hS => (Jm rfl (.inl (hS _ (Ky (n := 0) rfl))) rfl rfl)) ?_
        refine Jw (k := 2) rfl rfl rfl rfl rfl (fun _ hS => (JL rfl rfl rfl)) ?_; refine Jw (k := 3) rfl rfl rfl rfl rfl (fun _ hS => (Jm rfl (.inl (hS _ (Ky (n := 1) rfl))) rfl rfl)) ?_; refine Jw (k := 4) rfl rfl rfl rfl rfl (fun _ _ => Jp (j := 0) rfl hsq rfl rfl rfl rfl (by exact Nat.le_of_ble_eq_true rfl)) ?_; refine KW (k := 5) rfl rfl rfl rfl rfl (QI (fun q hq => .inl (by simp only [List.mem_cons, List.mem_append, hq, or_true, true_or])) rfl hsq rfl rfl rfl) ?_; refine Qp (k := 6) (Rl := yL) rfl rfl rfl rfl rfl Jqm (Jsj hki0 (by show _ ≤ 100000; omega)) (fun q hq => .inl (by simp only [List.mem_cons, List.mem_append, hq, or_true, true_or])) ?_
        refine Jw (k := 7) rfl rfl rfl rfl rfl (fun _ hS => (JL rfl rfl rfl)) ?_; refine Jw (k := 8) rfl rfl rfl rfl rfl (fun _ hS => (Jm rfl (.inl (hS _ (Ky (n := 1) rfl))) rfl rfl)) ?_; refine Jw (k := 9) rfl rfl rfl rfl rfl (fun _ _ => Jp (j := 1) rfl hsq rfl rfl rfl rfl (by exact Nat.le_of_ble_eq_true rfl)) ?_; refine KW (k := 10) rfl rfl rfl rfl rfl (QI (fun q hq => .inl (by simp only [List.mem_cons, List.mem_append, hq, or_true, true_or])) rfl hsq rfl rfl rfl) ?_; refine Qp (k := 11) (Rl := yL) rfl rfl rfl rfl rfl Jqm (Jsj hki1 (by show _ ≤ 100000; omega)) (fun q hq => .inl (by simp only [List.mem_cons, List.mem_append, hq, or_true, true_or])) ?_; refine Jw (k := 12) rfl rfl rfl rfl rfl (fun _ hS => (JI (r := [_, _]) rfl rfl)) ?_; refine VN (k := 13) (n := 1) (sz := 2) (vs := [_]) (zs := [_, _]) (r := [J2 (YE k0), J2 (YE k1)]) rfl rfl rfl rfl rfl rfl rfl rfl rfl rfl rfl (by rw [Kw]; exact rfl) rfl fun rc => ?_; refine KC ?_; refine KH (Jat (M := [_, _, _, _, _, _]) ..) ?_; refine Km (L0 := _) (xs := wi ((p4it.take j).map X0)) (row := rw2) (n := j) (sz := 2) (b := 32) (news := [_, _]) (List.Perm.refl _) rfl rfl rfl rfl (kn 0 rfl) rfl rfl rfl rfl rfl (by decide) rfl rfl rfl (by decide) hrow2 (by omega) (by omega) fun ra cap sp hra => ?_
        refine LS 1 [] rfl rfl ?_; refine Kz (k := 3) (cs' := #[J2 (YE (.mk p0a p0b p0c p0d p0bi p0pb p0it p0pi p0pk)), uV p1a, uV p2a, uV p2b, uV p2c, uV p2d, J2 (YE (.mk p3a p3b p3c p3d p3bi p3pb p3it p3pi p3pk)), JF (j + 1) (some (ra, cap, sp))]) rfl rfl rfl rfl rfl rfl rfl rfl rfl rfl ?_; refine Jg (Jj (hK22 ?_)); refine Ja ?_
        refine JZ rfl ?_; refine Jy (show _ = Value.int .i64 ((j + 1 : Nat) : Int) from by rw [wrap_i64 (by omega) (by omega)]; congr 1 <;> omega) ?_; refine Ji rfl (Jg (J5 ?_)); rw [Jpu hz rfl] at hra ⊢; refine Xy (Jwc (P := [_, _]) (M := [_, _, _, _]) ..) ?_; exact J1 (j + 1, some (ra, cap, sp)) ⟨by simp only; omega, hra⟩ (by simp only; omega) (.cons rfl (.cons rfl (.cons rfl (.cons rfl (.cons rfl (.cons rfl (.cons rfl (.cons rfl (.cons rfl .nil))))))))) (.cons _ (.cons _ (List.Sublist.refl _))) (fun _ _ h => h)
      · try simp only [ZZ] at h21
        refine JE (Jl ?_); refine Jl (J0 (hK17 ?_))
        obtain rfl : j = p4it.length := by omega
        rw [List.take_length] at hrow2 ⊢
        have hvr2 : JF p4it.length rw2 = KM (p4it.map X0).length (Vo rw2) := by rw [List.length_map]; exact (We _ _ (fun h => by rw [h] at hrow2; exact hrow2.1)).symm
        rw [hvr2]; rw [show p4it.length = (p4it.map X0).length by rw [List.length_map]] at hrow2; refine Ja ?_
        refine LS 3 [1, 0] rfl rfl ?_; refine Kh (vs := [_]) (zs := [_, _, _, _, _, _, _, _]) (r := [_, _, _, _, _, _, _, _]) rfl rfl rfl rfl rfl rfl rfl rfl rfl (by rw [Kw]; exact rfl) rfl fun r7 => ?_; refine KH (Jwb (M := [_, _, _, _, _]) ..) ?_; refine Km (L0 := _) (xs := jy acs) (row := row) (n := i) (sz := 8) (b := 96) (news := [_, _, _, _, _, _, _, _]) (List.Perm.refl _) rfl rfl rfl rfl (kn 0 rfl) rfl rfl rfl rfl rfl (by decide) rfl rfl rfl (by decide) hrow (by omega) (by omega) fun ra cap sp hra => ?_
        refine LS 1 [] rfl rfl ?_; refine Kz (k := 3) (cs' := #[JF (i + 1) (some (ra, cap, sp))]) rfl rfl rfl rfl rfl rfl rfl rfl rfl rfl ?_; refine Jg (Jj (hK13 ?_)); refine Ja ?_
        refine JZ rfl ?_; refine Jy (show _ = Value.int .i64 ((i + 1 : Nat) : Int) from by rw [wrap_i64 (by omega) (by omega)]; congr 1 <;> omega) ?_; refine Ji rfl (Jg (J5 ?_))
        have hvc : jy acs ++ AcL.cells (⟨YE (.mk p0a p0b p0c p0d p0bi p0pb p0it p0pi p0pk), p1a, ⟨p2a, p2b, p2c, p2d⟩, YE (.mk p3a p3b p3c p3d p3bi p3pb p3it p3pi p3pk), p4it.map X0, Vo rw2⟩ : AcL) = jy (acs ++ [(⟨YE (.mk p0a p0b p0c p0d p0bi p0pb p0it p0pi p0pk), p1a, ⟨p2a, p2b, p2c, p2d⟩, YE (.mk p3a p3b p3c p3d p3bi p3pb p3it p3pi p3pk), p4it.map X0, Vo rw2⟩ : AcL)]) := by unfold jy; rw [List.flatMap_append]; simp
        refine Xy (Jwd (M := [_, _, _]) ..) ?_; exact J1 (i + 1, acs ++ [(⟨YE (.mk p0a p0b p0c p0d p0bi p0pb p0it p0pi p0pk), p1a, ⟨p2a, p2b, p2c, p2d⟩, YE (.mk p3a p3b p3c p3d p3bi p3pb p3it p3pi p3pk), p4it.map X0, Vo rw2⟩ : AcL)], some (ra, cap, sp), JY 59 (wi (p4it.map X0)) rw2 ++ E) ⟨by simp only; omega, by simp only; rw [← hvc]; exact hra, fun z hz => Jv7 hin (Qg hrow2 (by decide)) hp0 hp3 hz16 hq3 hba hzz hz, Jv8 her hx⟩ (by simp only; omega) (.cons rfl (.cons rfl (.cons rfl (.cons rfl (.cons rfl .nil))))) (by simp only; rw [← hvc]; exact .cons _ (.cons _ (List.Sublist.refl _))) (fun _ _ h => h)
    · try simp only [ZZ] at h12
      refine JE (Jl ?_); refine Jl (J0 (hK8 ?_)); refine sQ fun _ hK24 => sQ fun _ hK25 => ?_
      have hiM : i = yitems.length := by omega
      have hvl : acs.length = i := by have := congrArg List.length her; simp at this; omega
      rw [hiM, List.take_length] at her
      have hvr : JF i row = KM acs.length (Vo row) := by rw [← hvl]; exact (We _ _ (fun h => by rw [h] at hrow; rw [hvl]; exact hrow.1)).symm
      rw [hvr]; rw [← hvl] at hrow
      have hsin : StL.In (JY 34 (jy acs) row ++ E) ⟨acs, Vo row⟩ := Jv9 hrow (by omega) hin
      have hck : Qv (StL.er ⟨acs, Vo row⟩) = Qv (qu gv) := by show Qv (acs.map AcL.er) = _; rw [her, ← hby]
      refine Ja (LR rfl (Jx (vs := [_]) rfl (kn 0 rfl) rfl rfl rfl rfl) ?_)
      refine Jh (Rl := JY 34 (jy acs) row ++ E) rfl rfl rfl Jed (Wx (s := ⟨acs, Vo row⟩) hsin) (fun q hq => .inl (by rcases List.mem_append.1 hq with h | h <;> simp [h])) ?_; refine Jy (congrArg (Value.int .i64) hck) ?_; generalize hcz : Qv (qu gv) = ck at *; refine Ji rfl (nK hK25 ?_); refine sR fun _ hK26 => LS 2 [] rfl rfl (nK hK26 ?_); refine Jc rfl (fun h27 => ?_) (fun h27 => ?_)
      try simp only [ZZ] at h27
      refine sR fun _ hK28 => ?_; refine LR rfl (JI (r := [_]) rfl rfl) ?_; refine Ji rfl ?_
      refine LT 2 rfl rfl (Ji rfl ?_); refine nK hK28 (Jb (Jd ?_)); refine Jv rfl rfl (.cons (J6 (vs := [_]) rfl (kn 2 rfl) rfl rfl) (.cons (J4 rfl) .nil)) (fun w1 hs1 => ?_); exact ⟨⟨st0L, ck, [], wj, by rw [hPb hge (by assumption)]; rfl⟩, rfl, hs1.weakL (List.nil_sublist _)⟩
      · try simp only [ZZ] at h27
        refine Jf (hK24 ?_); refine sR fun _ hK29 => ?_; refine LR rfl (Jx (vs := [_]) rfl (kn 0 rfl) rfl rfl rfl rfl) ?_
        refine LT 2 rfl rfl (Ji rfl ?_); refine nK hK29 (Jb ?_); refine Jv rfl rfl (.cons (J6 (vs := [_]) rfl (kn 2 rfl) rfl rfl) (.cons (J4 rfl) .nil)) (fun w1 hs1 => ?_); exact ⟨⟨⟨acs, Vo row⟩, 0, JY 34 (jy acs) row ++ E, by simpa using hsin, by rw [hPc hge (by assumption)]; show (acs.map AcL.er, _) = _; rw [her, ← hby]⟩, rfl, hs1.weakL (.cons _ (.cons _ (.cons _ ((List.Sublist.refl _).append (List.sublist_append_left _ _)))))⟩
def VH : BS := List.replicate 32 0
def Zh : BS := List.replicate 31 0 ++ [7]
def a0W : AcE := ⟨List.replicate 20 0, 1, ⟨5, 0, 0, 0⟩, [99], []⟩
def jQ : AcE := ⟨List.replicate 20 0, 1, ⟨5, 0, 0, 0⟩, [99], [(VH, Zh)]⟩
theorem Jyw : wg a0W VH Zh = (jQ, 0) := by decide +kernel
theorem Jyx : Jrh [] jQ = ([jQ], 0) := by decide +kernel
theorem Jxt : (WT [jQ]).2 = 0 ∧ (WT [jQ]).1.length = 137 := by decide +kernel
theorem Jyy : WT [] = ([], 0) := by decide +kernel
theorem Jyz : Zg (WT [jQ]).1 = ([jQ], 0) := by decide +kernel
theorem Jy0 : wg jQ VH VH = (a0W, 0) := by decide +kernel
theorem Jxu : KX jQ VH = Zh ∧ KX a0W VH = VH := by decide +kernel
theorem Jwe : Qv [jQ] = 0 ∧ Qv [ac0] = 2 := by decide +kernel
theorem Jy1 : VC [jQ] a0W.addr = some jQ := by decide +kernel
theorem Jxv : Vv QS (XR []) = 0 ∧ Vv QS (XR [jQ]) = 0 := by decide +kernel
def Q1 : BS := [173, 50, 40, 182, 118, 247, 211, 205, 66, 132, 165, 68, 63, 23, 241, 150, 43, 54, 228, 145, 179, 10, 64, 178, 64, 88, 73, 229, 151, 186, 95, 181]
def Q2 : BS := [180, 193, 25, 81, 149, 124, 111, 143, 100, 44, 74, 246, 28, 214, 178, 70, 64, 254, 198, 220, 127, 198, 7, 238, 130, 6, 169, 158, 146, 65, 13, 48]
def Q3 : BS := [33, 221, 185, 163, 86, 129, 92, 63, 172, 16, 38, 182, 222, 197, 223, 49, 36, 175, 186, 219, 72, 92, 155, 165, 163, 227, 57, 138, 4, 183, 186, 133]
def Q4 : BS := [229, 135, 105, 179, 42, 27, 234, 241, 234, 39, 55, 90, 68, 9, 90, 13, 31, 182, 100, 206, 45, 211, 88, 231, 252, 191, 183, 140, 38, 161, 147, 68]
def Q5 : BS := [14, 176, 30, 191, 201, 237, 39, 80, 12, 212, 223, 201, 121, 39, 45, 31, 9, 19, 204, 159, 102, 84, 13, 126, 128, 5, 129, 17, 9, 225, 207, 45]
def Q6 : BS := [96, 77, 89, 36, 103, 234, 171, 101, 127, 86, 19, 141, 165, 3, 154, 226, 46, 200, 192, 119, 115, 164, 178, 43, 215, 43, 143, 81, 243, 38, 157, 220]
def P99 : BS := [99, 0, 0, 0, 0, 0, 0, 0, 0, 0, 0, 0, 0, 0, 0, 0, 0, 0, 0, 0, 0, 0, 0, 0, 0, 0, 0, 0, 0, 0, 0, 0]
def PK : BS := [0, 0, 0, 0, 0, 0, 0, 0, 0, 0, 0, 0, 0, 0, 0, 0, 0, 0, 0, 0, 0, 0, 0, 0, 0, 0, 0, 0, 0, 0, 0, 0]
def PV : BS := [0, 0, 0, 0, 0, 0, 0, 0, 0, 0, 0, 0, 0, 0, 0, 0, 0, 0, 0, 0, 0, 0, 0, 0, 0, 0, 0, 0, 0, 0, 0, 7]
def PA : BS := [0, 0, 0, 0, 0, 0, 0, 0, 0, 0, 0, 0, 0, 0, 0, 0, 0, 0, 0, 0, 0, 0, 0, 0, 0, 0, 0, 0, 0, 0, 0, 0]
def PN : BS := [1, 0, 0, 0, 0, 0, 0, 0, 0, 0, 0, 0, 0, 0, 0, 0, 0, 0, 0, 0, 0, 0, 0, 0, 0, 0, 0, 0, 0, 0, 0, 0]
def PB : BS := [5, 0, 0, 0, 0, 0, 0, 0, 0, 0, 0, 0, 0, 0, 0, 0, 0, 0, 0, 0, 0, 0, 0, 0, 0, 0, 0, 0, 0, 0, 0, 0]
def Q7 : BS := [128, 254, 150, 100, 183, 3, 234, 100, 255, 5, 28, 105, 143, 172, 232, 125, 162, 79, 15, 193, 202, 27, 191, 186, 36, 126, 5, 43, 158, 34, 177, 205]
def Q8 : BS := [12, 143, 253, 230, 89, 92, 177, 101, 195, 65, 172, 208, 17, 208, 134, 148, 105, 130, 245, 12, 127, 155, 223, 118, 245, 87, 156, 192, 149, 130, 164, 20]
def Q9 : BS := [231, 246, 47, 82, 53, 130, 220, 255, 58, 248, 170, 101, 254, 92, 10, 94, 129, 224, 115, 51, 214, 167, 236, 16, 87, 100, 76, 60, 193, 22, 77, 189]
def Q10 : BS := [62, 120, 232, 158, 100, 195, 92, 170, 194, 97, 28, 191, 252, 174, 252, 159, 248, 79, 56, 159, 46, 150, 149, 73, 15, 76, 171, 79, 8, 134, 182, 49]
def Q11 : BS := [159, 191, 115, 214, 144, 225, 62, 161, 22, 15, 4, 77, 135, 125, 79, 179, 121, 216, 64, 99, 137, 162, 186, 191, 199, 253, 71, 153, 77, 133, 6, 62]
def Q12 : BS := [109, 82, 87, 32, 78, 190, 125, 136, 253, 145, 174, 135, 148, 28, 178, 221, 157, 128, 98, 182, 74, 229, 162, 189, 45, 40, 236, 64, 185, 251, 246, 223]
def Q13 : BS := [219, 84, 93, 126, 90, 22, 97, 214, 219, 12, 175, 14, 24, 35, 121, 19, 96, 147, 115, 67, 116, 140, 18, 143, 200, 28, 219, 18, 126, 175, 208, 40]
def Q14 : BS := [23, 242, 83, 39, 154, 106, 105, 48, 122, 17, 49, 169, 103, 30, 223, 237, 241, 103, 177, 103, 204, 94, 81, 103, 51, 252, 125, 148, 139, 186, 173, 45]
def Q15 : BS := [52, 223, 211, 179, 13, 160, 50, 23, 248, 175, 8, 3, 182, 4, 200, 151, 161, 119, 191, 139, 113, 79, 167, 155, 96, 200, 79, 82, 8, 239, 145, 74]
def Q16 : BS := [186, 37, 126, 111, 240, 170, 21, 181, 16, 119, 161, 166, 87, 169, 48, 133, 3, 137, 27, 65, 143, 247, 91, 85, 73, 120, 43, 235, 92, 122, 96, 239]
def Q17 : BS := [180, 173, 121, 44, 79, 132, 42, 240, 211, 151, 148, 221, 8, 138, 131, 255, 77, 30, 250, 106, 90, 143, 30, 18, 161, 252, 51, 238, 73, 69, 76, 177]
def Q18 : BS := [84, 232, 13, 242, 58, 159, 134, 25, 68, 76, 175, 139, 251, 62, 114, 226, 64, 114, 104, 255, 38, 198, 163, 22, 62, 224, 158, 73, 64, 114, 159, 201]
def Q19 : BS := [115, 202, 162, 40, 166, 138, 128, 42, 134, 248, 234, 146, 132, 24, 105, 205, 223, 138, 177, 25, 35, 114, 55, 117, 208, 134, 150, 85, 151, 188, 191, 229]
def Q20 : BS := [180, 10, 97, 218, 138, 109, 67, 207, 163, 113, 133, 201, 96, 160, 57, 16, 63, 175, 109, 127, 187, 77, 142, 232, 170, 181, 195, 67, 58, 55, 225, 169]
def Q21 : BS := [253, 23, 46, 35, 170, 157, 49, 24, 12, 247, 30, 169, 0, 87, 50, 185, 216, 5, 140, 215, 36, 182, 139, 203, 0, 33, 239, 230, 200, 70, 39, 49]
def Q22 : BS := [244, 78, 169, 243, 102, 83, 141, 100, 144, 182, 111, 119, 6, 61, 2, 212, 232, 28, 167, 44, 206, 184, 74, 212, 24, 116, 209, 86, 62, 76, 252, 225]
def Q23 : BS := [9, 105, 40, 196, 205, 136, 217, 62, 206, 76, 176, 220, 112, 142, 1, 36, 83, 196, 135, 68, 65, 28, 63, 234, 254, 89, 74, 34, 119, 48, 210, 228]
def Q24 : BS := [88, 211, 15, 198, 238, 204, 186, 245, 5, 111, 150, 205, 215, 28, 56, 16, 233, 35, 194, 185, 183, 143, 241, 68, 99, 169, 24, 34, 58, 107, 231, 130]
def Q25 : BS := [181, 114, 115, 158, 66, 182, 22, 134, 105, 251, 139, 3, 221, 144, 86, 197, 8, 77, 55, 53, 110, 249, 221, 86, 58, 43, 248, 36, 64, 34, 148, 171]
def Q26 : BS := [52, 127, 120, 91, 102, 123, 138, 53, 132, 85, 67, 94, 157, 185, 194, 118, 141, 49, 10, 26, 63, 78, 145, 197, 145, 212, 176, 30, 206, 94, 6, 183]
def Q27 : BS := [135, 195, 149, 32, 136, 174, 247, 12, 19, 129, 47, 222, 135, 39, 233, 95, 192, 198, 12, 79, 85, 128, 196, 204, 132, 162, 119, 43, 49, 122, 252, 83]
def Q28 : BS := [204, 113, 241, 227, 0, 55, 44, 218, 77, 42, 78, 41, 79, 110, 129, 142, 159, 90, 155, 61, 22, 163, 210, 15, 17, 201, 135, 63, 61, 32, 192, 95]
def Q29 : BS := [211, 5, 113, 100, 174, 43, 94, 143, 48, 107, 194, 22, 250, 134, 93, 174, 214, 17, 81, 90, 35, 252, 254, 108, 57, 144, 147, 130, 70, 243, 107, 235]
theorem hq1 : WM (z32 ++ z32) = Q1 := by decide +kernel
theorem hq2 : WM (Q1 ++ Q1) = Q2 := by decide +kernel
theorem hq3 : WM (Q2 ++ Q2) = Q3 := by decide +kernel
theorem hq4 : WM (Q3 ++ Q3) = Q4 := by decide +kernel
theorem hq5 : WM (Q4 ++ Q4) = Q5 := by decide +kernel
theorem hq6 : XQ Q5 0 = Q6 := by decide +kernel
theorem hq7 : WM (P99 ++ z32) = Q7 := by decide +kernel
theorem hq8 : WM (Q7 ++ Q1) = Q8 := by decide +kernel
theorem hq9 : WM (Q8 ++ Q2) = Q9 := by decide +kernel
theorem Jy7 : WM (Q9 ++ Q3) = Q10 := by decide +kernel
theorem Jy8 : XQ Q10 1 = Q11 := by decide +kernel
theorem Jy9 : WM (PK ++ PV) = Q12 := by decide +kernel
theorem Jza : WM (Q12 ++ z32) = Q13 := by decide +kernel
theorem Jzb : WM (Q13 ++ Q1) = Q14 := by decide +kernel
theorem Jzc : WM (Q14 ++ Q2) = Q15 := by decide +kernel
theorem Jzd : WM (Q15 ++ Q3) = Q16 := by decide +kernel
theorem Jze : XQ Q16 1 = Q17 := by decide +kernel
theorem Jzf : WM (PA ++ PN) = Q18 := by decide +kernel
theorem Jzg : WM (PB ++ Q11) = Q19 := by decide +kernel
theorem Jzh : WM (Q17 ++ z32) = Q20 := by decide +kernel
theorem Jzi : WM (Q18 ++ Q19) = Q21 := by decide +kernel
theorem Jzj : WM (Q20 ++ Q1) = Q22 := by decide +kernel
theorem Jzk : WM (Q21 ++ Q22) = Q23 := by decide +kernel
theorem Jzl : WM (Q23 ++ z32) = Q24 := by decide +kernel
theorem Jzm : WM (Q24 ++ Q1) = Q25 := by decide +kernel
theorem Jzn : WM (Q25 ++ Q2) = Q26 := by decide +kernel
theorem Jzo : WM (Q26 ++ Q3) = Q27 := by decide +kernel
theorem Jzp : WM (Q27 ++ Q4) = Q28 := by decide +kernel
theorem Jzq : XQ Q28 1 = Q29 := by decide +kernel
theorem Yn (k : Nat) (a z : BS) : VM (k + 1) [a] z = VM k [WM (a ++ z)] (WM (z ++ z)) := rfl
theorem Jdu (k : Nat) (z : BS) : VM (k + 1) [] z = VM k [] (WM (z ++ z)) := rfl
theorem Jub (k : Nat) (a b z : BS) : VM (k + 1) [a, b] z = VM k [WM (a ++ b)] (WM (z ++ z)) := by rw [VM]; simp [Qw, SL.pairUp]
theorem Jxw (k : Nat) (a b c z : BS) : VM (k + 1) [a, b, c] z = VM k [WM (a ++ b), WM (c ++ z)] (WM (z ++ z)) := by rw [VM]; simp [Qw, SL.pairUp]
theorem Jxx (k : Nat) (a b c d e z : BS) : VM (k + 1) [a, b, c, d, e] z = VM k [WM (a ++ b), WM (c ++ d), WM (e ++ z)] (WM (z ++ z)) := by rw [VM]; simp [Qw, SL.pairUp]
theorem Jdv (a z : BS) : VM 0 [a] z = a := rfl
theorem Jxy (z : BS) : VM 0 [] z = z := rfl
theorem Jpx : KB (XR []) QS = Q6 := by
  have e1 : Ve [] 32 = Q5 := by
    rw [← Y1 (by decide), show lg 32 = 5 by decide +kernel, Jdu, hq1, Jdu, hq2, Jdu, hq3, Jdu, hq4, Jdu, hq5, Jxy]
  unfold XR KJ QS
  rw [WJ, if_neg (by decide), if_pos rfl]
  unfold WS
  rw [if_neg (by decide), if_neg (by decide +kernel)]
  show XQ (Ve [] 32) 0 = _
  rw [e1, hq6]
theorem zu {l : List Vl} {x : Ty} {n : Int} (hx : Xw x = false) : KB (KJ l 0) (.mk 4 n none [x]) = XQ (Ve (Kg l 4 0 [x] 0) n.toNat) l.length := by
  unfold KJ
  rw [WJ, if_neg (by decide), if_pos rfl]
  unfold WS
  rw [if_neg (by decide), if_neg (by rw [show [x].getD 0 default = x from rfl, hx]; decide)]
theorem Jdw {l : List Vl} {ins : List Ty} : KB (KJ l 0) (.mk 7 0 none ins) = Ve (Kg l 7 0 ins 0) ins.length := by
  unfold KJ
  rw [WJ, if_neg (by decide), if_neg (by decide), if_neg (by decide), if_neg (by decide), if_neg (by decide)]
  unfold WS
  rw [if_pos rfl]
theorem Jj5 : KB (wW [99]) (WL 4 512) = Q11 := by
  have e1 : WS 4 512 [byT] [jG 99] (Kg [jG 99] 4 0 [byT] 0) = Ve [P99] 16 := by
    unfold WS
    rw [if_neg (by decide), if_pos (by decide +kernel), show Y4 (WX [jG 99] ([byT].getD 0 default)) = [P99] by decide +kernel, show ((512 : Int).toNat * (JV ([byT].getD 0 default)).toNat + 31) / 32 = 16 by decide +kernel]
  have e2 : Ve [P99] 16 = Q10 := by
    rw [← Y1 (by decide), show lg 16 = 4 by decide +kernel, Yn, hq7, hq1, Yn, hq8, hq2, Yn, hq9, hq3, Yn, Jy7, hq4, Jdv]
  unfold wW KJ WL
  rw [WJ, if_neg (by decide), if_pos rfl]
  show XQ (WS 4 512 [byT] [jG 99] (Kg [jG 99] 4 0 [byT] 0)) 1 = _
  rw [e1, e2, Jy8]
theorem Jpy : KB (wW VH) (WL 3 32) = PK := by decide +kernel
theorem Jpz : KB (wW Zh) (WL 3 32) = PV := by decide +kernel
theorem Jp0 : KB (wW (List.replicate 20 0)) (WL 3 20) = PA := by decide +kernel
theorem Jj6 : KB (jI (VH, Zh)) qr = Q12 := by
  unfold jI qr
  rw [Jdw]
  show Ve [KB (wW VH) (WL 3 32), KB (wW Zh) (WL 3 32)] 2 = _
  rw [Jpy, Jpz, ← Y1 (by decide), show lg 2 = 1 by decide +kernel, Jub, Jy9, Jdv]
theorem Jfj : KB (KJ [jI (VH, Zh)] 0) (.mk 4 16 none [qr]) = Q17 := by
  rw [zu (by decide +kernel)]
  show XQ (Ve [KB (jI (VH, Zh)) qr] 16) 1 = _
  rw [Jj6, ← Y1 (by decide), show lg 16 = 4 by decide +kernel, Yn, Jza, hq1, Yn, Jzb, hq2, Yn, Jzc, hq3, Yn, Jzd, hq4, Jdv, Jze]
theorem Jtd : KB (acV jQ) acT = Q23 := by
  unfold acV acT
  rw [Jdw]
  show Ve [KB (wW (List.replicate 20 0)) (WL 3 20), KB (.mk 1 0 0 0 [] none [] none 0) (.mk 1 8 none []), KB (.mk 5 0 0 0 [] none [] none 0) (.mk 1 32 none []), KB (wW [99]) (WL 4 512), KB (KJ [jI (VH, Zh)] 0) (.mk 4 16 none [qr])] 5 = _
  rw [Jp0, Jj5, Jfj, show KB (.mk 1 0 0 0 [] none [] none 0) (.mk 1 8 none []) = PN by decide +kernel, show KB (.mk 5 0 0 0 [] none [] none 0) (.mk 1 32 none []) = PB by decide +kernel, ← Y1 (by decide), show lg 5 = 3 by decide +kernel, Jxx, Jzf, Jzg, Jzh, hq1, Jxw, Jzi, Jzj, hq2, Jub, Jzk, Jdv]
theorem Jp1 : KB (XR [jQ]) QS = Q29 := by
  unfold XR QS
  rw [zu (by decide +kernel)]
  show XQ (Ve [KB (acV jQ) acT] 32) 1 = _
  rw [Jtd, ← Y1 (by decide), show lg 32 = 5 by decide +kernel, Yn, Jzl, hq1, Yn, Jzm, hq2, Yn, Jzn, hq3, Yn, Jzo, hq4, Yn, Jzp, hq5, Jdv, Jzq]
theorem Jzr : jJ [] = (Q6, 0) := by rw [Jds (by decide +kernel) Jxv.1, Jpx]
theorem Jzs : jJ [jQ] = (Q29, 0) := by rw [Jds Jwe.1 Jxv.2, Jp1]
theorem Jzt : Q6 ≠ Q29 := by decide +kernel
def yu : BS := List.replicate 20 0
def a0L : AcL := ⟨yu, 1, ⟨5, 0, 0, 0⟩, [99], [], none⟩
theorem Jp2 {R : Jr} : a0L.In R := ⟨by decide, by unfold X5; decide, ⟨by unfold X5; decide, Wk, Wk, Wk⟩, by decide, by decide, rfl, by simp [a0L]⟩
theorem Zi {a b : Bool} (h : a = b) : Value.bool a = .bool b := congrArg _ h
theorem Jxz {a b : BS} (h : a ≠ b) : (!decide (a = b)) = true := by simp [h]
theorem Jp3 {s : BS} {n : Nat} (h : s.length = n) : Value.int .i64 (s.length : Int) = .int .i64 (n : Int) := by rw [h]
theorem Jte (r : Nat) : StL.In [(r, Obj.cells ac0L.cells.toArray 34 (0, 0))] ⟨[ac0L], some (⟨r, 0, none⟩, 1)⟩ :=
  ⟨by show 1 ≤ WH; decide, ⟨Nat.le_refl _, fun _ => ⟨rfl, _, _, _, List.mem_singleton_self _, rfl⟩⟩, fun a ha => by rw [List.mem_singleton.1 ha]; exact Jmm⟩
theorem Jzu : wV (XR [jQ]) ≤ 20000 := by decide +kernel
set_option maxHeartbeats 2000000 in
theorem Jj7 : Pure Tryz.prog 11 #[] (.bool true) := by
  have k1 : wg a0L.er VH Zh = (jQ, 0) := Jyw
  have k2 := Jyx
  have k3 : VC [jQ] yu = some jQ := Jy1
  have k4 := Jzu
  have k5 := Jy0
  have k6 := Jxu.1
  have k7 : KX a0L.er VH = VH := Jxu.2
  have k8 := Jwe.1
  have k9 := Jwe.2
  have hB := show WT [jQ] = ((WT [jQ]).1, 0) from Prod.ext rfl Jxt.1
  have htl := Jxt.2
  have hP := Jyz
  have hE := Jyy
  generalize (WT [jQ]).1 = tb at hB htl hP
  have hR0 := Jzr
  have hR1 := Jzs
  have hne := Jzt
  have hrl : Q29.length = 32 := by decide
  generalize Q6 = ra at hR0 hne
  generalize Q29 = rb at hR1 hne hrl
  refine JC Tryz.func11 rfl rfl fun w => ?_; refine sR fun _ hK1 => Ji rfl (nK hK1 ?_); refine sR fun _ hK2 => ?_; refine Wz (n := 32) (b := 1) rfl rfl rfl rfl rfl rfl rfl rfl rfl (by decide) (by decide) fun rk => ?_; rw [show List.replicate 32 (Value.int .u8 0) = (VH).map bV from rfl]; refine LR rfl (QH (b := VH) (row := some (rk, 32, [])) (e := 5) (show _ = some (JF (List.length VH) _) from rfl) ⟨rfl, rfl⟩ (fun p hp => .inl (by rw [List.mem_singleton.1 hp, List.append_nil]; exact List.mem_cons_self)) rfl rfl rfl) ?_; refine Ji rfl (nK hK2 ?_); refine sR fun _ hK3 => ?_; refine Ji rfl (LR rfl (V8 (kl := some (.i64, 1)) (kh := none) (m := 1) (n := 32) rfl rfl rfl rfl rfl rfl (by decide) (by decide) (show _ = List.replicate 31 0 from rfl)) (LR rfl (V1 (a := List.replicate 31 0) (b := [7]) rfl rfl (by decide)) ?_)); refine Jy (show _ = J2 Zh from rfl) ?_; refine Ji rfl (nK hK3 ?_); refine sR fun _ hK4 => ?_; refine Wz (n := 20) (b := 1) rfl rfl rfl rfl rfl rfl rfl rfl rfl (by decide) (by decide) fun rz => ?_; rw [show List.replicate 20 (Value.int .u8 0) = (yu).map bV from rfl]; refine LR rfl (QH (b := yu) (row := some (rz, 20, [])) (e := 5) (show _ = some (JF (List.length yu) _) from rfl) ⟨rfl, rfl⟩ (fun p hp => .inl (by rw [List.mem_singleton.1 hp, List.append_nil]; exact List.mem_cons_self)) rfl rfl rfl) ?_; refine LR rfl (JI (r := [_, _, _, _]) rfl rfl) ?_; refine LR rfl (JI (r := [_, _, _, _, _, _, _, _]) rfl rfl) ?_; refine LN rfl fun r1 => ?_; refine Jz (k := 0) (n := 8) (ys := (a0L).cells) rfl rfl rfl rfl rfl rfl rfl rfl rfl ?_; refine nK hK4 (sR fun _ hK5 => ?_); refine LR rfl (Jq (xs := (a0L).cells) (n := 8) rfl (kn 0 rfl) rfl rfl rfl) ?_; refine LS 2 [] rfl rfl ?_; refine Qr rfl rfl rfl (enters_of Tryz.func25 (by kernel_rfl) rfl) (Jt8 (R := []) Jp2 VH Zh) (fun q hq => nomatch hq) fun x => ?_; refine KH List.perm_append_comm ?_
  obtain ⟨xa, xe, xL, xok, xeq⟩ := x
  obtain ⟨hxa, rfl⟩ : xa.er = jQ ∧ xe = 0 := by have := xeq.trans k1; exact Prod.mk.inj this
  have xok : xa.In xL := by simpa using xok
  change HL _ _ ((37, .tuple #[xa.val, .int .i64 0]) :: _) (_ :: _ :: _ :: xL) _ _ _ _; refine LS 3 [] rfl rfl ?_; refine LN rfl fun r2 => ?_; refine Jz (k := 0) (n := 8) (ys := (xa).cells) rfl rfl rfl rfl rfl rfl rfl rfl rfl ?_; refine Ji rfl (nK hK5 ?_); refine sR fun _ hK6 => ?_; refine LR rfl (JI (r := [_]) rfl rfl) ?_; refine LR rfl (Jq (xs := (xa).cells) (n := 8) rfl (kn 0 rfl) rfl rfl rfl) ?_; refine Qr rfl rfl rfl (enters_of Tryz.func23 (by kernel_rfl) rfl) (Jxr (R := xL) (s := st0L) wj xok) (fun q hq => .inl (by simp [hq])) fun y => ?_; refine KH (Jat _ [_, _, _, _] xL) ?_
  obtain ⟨ys, ye, yL, yok, yeq⟩ := y
  obtain ⟨hys, rfl⟩ : ys.er = [jQ] ∧ ye = 0 := by have := yeq.trans ((congrArg (Jrh []) hxa).trans k2); exact Prod.mk.inj this
  change HL _ _ ((43, .tuple #[ys.val, .int .i64 0]) :: _) (_ :: _ :: _ :: _ :: (yL ++ xL)) _ _ _ _; refine LS 3 [] rfl rfl ?_; refine LN rfl fun r3 => ?_; refine Jz (k := 0) (n := 1) (ys := (ys).cells) rfl rfl rfl rfl rfl rfl rfl rfl rfl ?_; refine Ji rfl (nK hK6 ?_); refine sR fun _ hK7 => ?_; refine LR rfl (Jq (xs := (ys).cells) (n := 1) rfl (kn 0 rfl) rfl rfl rfl) ?_; refine LS 2 [2] rfl rfl ?_
  refine Jh rfl rfl rfl (enters_of Tryz.func14 (by kernel_rfl) rfl) (Jpa (R := yL ++ xL) yok yu) (fun q hq => .inl (by simp only [List.mem_append] at hq; rcases hq with h | h <;> simp [h])) ?_
  have hcf : VS ys yu = true := by rw [Jmy, hys, k3]; rfl
  have hce : (VD ys yu).er = jQ := by rw [Jrq, hys, k3]; rfl
  have hci := Jgz yok yu
  rw [hcf]
  generalize VD ys yu = ca at hce hci ⊢
  refine LS 3 [] rfl rfl ?_; refine LN rfl fun r4 => ?_; refine Jz (k := 0) (n := 8) (ys := (ca).cells) rfl rfl rfl rfl rfl rfl rfl rfl rfl ?_; refine Ji rfl (nK hK7 ?_); refine sR fun _ hK8 => ?_; refine LR rfl (Jq (xs := (ys).cells) (n := 1) rfl (kn 1 rfl) rfl rfl rfl) ?_
  refine Jh rfl rfl rfl (enters_of Tryz.func27 (by kernel_rfl) rfl) (zt (R := yL ++ xL) yok (fun _ => by rw [hys]; exact k4)) (fun q hq => .inl (by simp only [List.mem_append] at hq; rcases hq with h | h <;> simp [h])) ?_; refine Jy ((congrArg ZI (by rw [hys]; exact hB) : _ = ZI (tb, 0))) ?_; refine LS 5 [] rfl rfl (nK hK8 ?_); refine sR fun _ hK9 => Ji rfl (Qr rfl rfl rfl (enters_of Tryz.func31 (by kernel_rfl) rfl) (Jj4 tb) (fun q hq => nomatch hq) fun u => (KH (Jat _ [_, _, _, _, _, _] _) ?_))
  obtain ⟨us, ue, uL, uok, ueq⟩ := u
  obtain ⟨hus, rfl⟩ : us.er = [jQ] ∧ ue = 0 := by have := ueq.trans hP; exact Prod.mk.inj this
  have uok : us.In uL := by simpa using uok
  change HL _ _ ((60, .tuple #[us.val, .int .i64 0]) :: _) (_ :: _ :: _ :: _ :: _ :: _ :: (uL ++ (yL ++ xL))) _ _ _ _; refine LS 3 [] rfl rfl ?_; refine LN rfl fun r5 => ?_; refine Jz (k := 0) (n := 1) (ys := (us).cells) rfl rfl rfl rfl rfl rfl rfl rfl rfl ?_; refine Ji rfl (nK hK9 ?_); refine sR fun _ hK10 => ?_; refine LR rfl (JI (r := [_]) rfl rfl) ?_; refine Jh rfl rfl rfl (enters_of Tryz.func27 (by kernel_rfl) rfl) (zt (R := []) (s := st0L) wj (fun _ => by decide +kernel)) (fun q hq => nomatch hq) ?_; refine Jy ((congrArg ZI hE : _ = ZI ([], 0))) ?_; refine LS 5 [] rfl rfl (nK hK10 ?_); refine sR fun _ hK11 => ?_; refine LR rfl (Jq (xs := (xa).cells) (n := 8) rfl (kn 3 rfl) rfl rfl rfl) ?_; refine LS 2 [] rfl rfl ?_; refine Qr rfl rfl rfl (enters_of Tryz.func25 (by kernel_rfl) rfl) (Jt8 (R := xL) xok VH VH) (fun q hq => .inl (by simp [hq])) fun z => ?_; refine KH (Jat _ [_, _, _, _, _, _, _] _) ?_
  obtain ⟨da, de, dL, dok, deq⟩ := z
  obtain ⟨hda, rfl⟩ : da.er = a0W ∧ de = 0 := by have := deq.trans ((congrArg (fun e => wg e VH VH) hxa).trans k5); exact Prod.mk.inj this
  change HL _ _ ((72, .tuple #[da.val, .int .i64 0]) :: _) (_ :: _ :: _ :: _ :: _ :: _ :: _ :: (dL ++ (uL ++ (yL ++ xL)))) _ _ _ _; refine LS 3 [] rfl rfl ?_; refine LN rfl fun r6 => ?_; refine Jz (k := 0) (n := 8) (ys := (da).cells) rfl rfl rfl rfl rfl rfl rfl rfl rfl ?_; refine Ji rfl (nK hK11 ?_); refine sR fun _ hK12 => ?_; refine LR rfl (Jq (xs := (ys).cells) (n := 1) rfl (kn 3 rfl) rfl rfl rfl) ?_
  refine Jh rfl rfl rfl (enters_of Tryz.func29 (by kernel_rfl) rfl) (Jdt (R := yL ++ xL) yok (fun _ => by rw [hys]; exact k4)) (fun q hq => .inl (by simp only [List.mem_append] at hq; rcases hq with h | h <;> simp [h])) ?_; refine Jy ((congrArg ZI (by rw [hys]; exact hR1) : _ = ZI (rb, 0))) ?_; refine LS 5 [] rfl rfl (nK hK12 ?_); refine sR fun _ hK13 => ?_; refine LR rfl (JI (r := [_]) rfl rfl) ?_; refine Jh rfl rfl rfl (enters_of Tryz.func29 (by kernel_rfl) rfl) (Jdt (R := []) (s := st0L) wj (fun _ => by decide +kernel)) (fun q hq => nomatch hq) ?_; refine Jy ((congrArg ZI hR0 : _ = ZI (ra, 0))) ?_; refine LS 5 [] rfl rfl (nK hK13 ?_); refine sR fun _ hK14 => ?_; refine LR rfl (Jq (xs := (ca).cells) (n := 8) rfl (kn 2 rfl) rfl rfl rfl) ?_; refine LR rfl (Jq (xs := (xa).cells) (n := 8) rfl (kn 4 rfl) rfl rfl rfl) ?_
  refine Jh rfl rfl rfl Jqj (Y6 (R := yL ++ xL) hci (xok.mono fun q hq => List.mem_append_right _ hq)) (fun q hq => .inl (by simp only [List.mem_append] at hq; rcases hq with h | h <;> simp [h])) ?_; refine Jy (Zi (show decide (ca.er = xa.er) = true from decide_eq_true (hce.trans hxa.symm))) ?_; refine Ji rfl (nK hK14 ?_); refine sR fun _ hK15 => ?_; refine LR rfl (Jq (xs := (da).cells) (n := 8) rfl (kn 0 rfl) rfl rfl rfl) ?_; refine LR rfl (Jq (xs := (a0L).cells) (n := 8) rfl (kn 5 rfl) rfl rfl rfl) ?_
  refine Jh rfl rfl rfl Jqj (Y6 (R := dL ++ xL) dok (b := a0L) Jp2) (fun q hq => .inl (by simp only [List.mem_append] at hq; rcases hq with h | h <;> simp [h])) ?_; refine Jy (Zi (show decide (da.er = a0L.er) = true from decide_eq_true (hda.trans rfl))) ?_; refine Ji rfl (nK hK15 ?_); refine sR fun _ hK16 => LS 13 [] rfl rfl ?_; refine LR rfl (Jq (xs := (ca).cells) (n := 8) rfl (kn 2 rfl) rfl rfl rfl) ?_; refine Ji rfl ?_
  refine Jh rfl rfl rfl Jul (Jfh (R := yL ++ xL) hci VH) (fun q hq => .inl (by simp only [List.mem_append] at hq; rcases hq with h | h <;> simp [h])) ?_; refine Jy (congrArg J2 (show KX ca.er VH = Zh by rw [hce]; exact k6)) ?_; refine Ji rfl (LR rfl (QT (a := Zh) (b := Zh) rfl rfl) (Jy (Zi (show decide (Zh = Zh) = true from decide_eq_true rfl)) ?_)); refine LS 2 [] rfl rfl ?_; refine LR rfl (Jq (xs := (a0L).cells) (n := 8) rfl (kn 5 rfl) rfl rfl rfl) ?_; refine Ji rfl (Jh rfl rfl rfl Jul (Jfh (R := []) (a := a0L) Jp2 VH) (fun q hq => nomatch hq) (Jy (congrArg J2 (show KX a0L.er VH = VH from k7)) ?_)); refine Ji rfl (LR rfl (QT (a := VH) (b := VH) rfl rfl) (Jy (Zi (show decide (VH = VH) = true from decide_eq_true rfl)) ?_)); refine LS 3 [] rfl rfl ?_; refine LR rfl (vK rfl rfl rfl) ?_; refine Jy (show _ = Value.int .i64 137 from Jp3 htl) ?_; refine LS 7 [] rfl rfl ?_; refine LR rfl (Jq (xs := (ys).cells) (n := 1) rfl (kn 3 rfl) rfl rfl rfl) ?_; refine LR rfl (Jq (xs := (us).cells) (n := 1) rfl (kn 1 rfl) rfl rfl rfl) ?_
  refine Jh rfl rfl rfl (enters_of Tryz.func21 (by kernel_rfl) rfl) (Jdq (R := uL ++ (yL ++ xL)) (yok.mono fun q hq => List.mem_append_right _ hq) (uok.mono fun q hq => List.mem_append_left _ hq)) (fun q hq => .inl (by simp only [List.mem_append] at hq; rcases hq with h | h | h <;> simp [h])) ?_; refine Jy (Zi (show decide (ys.er = us.er) = true from decide_eq_true (hys.trans hus.symm))) ?_; refine LS 7 [] rfl rfl ?_; refine LR rfl (QT (a := ([] : BS)) (b := ([] : BS)) rfl rfl) ?_; refine Jy (Zi (show decide (([] : BS) = ([] : BS)) = true from decide_eq_true rfl)) ?_; refine LS 14 [] rfl rfl ?_; refine LR rfl (vK rfl rfl rfl) ?_; refine Jy (show _ = Value.int .i64 32 from Jp3 hrl) ?_; refine LS 9 [] rfl rfl ?_; refine LR rfl (Zj (a := ra) (b := rb) rfl rfl) ?_; refine Jy (Zi (Jxz hne)) ?_; refine LS 6 [] rfl rfl ?_; refine LR rfl (Jq (xs := (ys).cells) (n := 1) rfl (kn 3 rfl) rfl rfl rfl) ?_
  refine Jh rfl rfl rfl Jed (Wx (R := yL ++ xL) yok) (fun q hq => .inl (by simp only [List.mem_append] at hq; rcases hq with h | h <;> simp [h])) ?_; refine Jy (congrArg (Value.int .i64) (show Qv ys.er = 0 by rw [hys]; exact k8)) ?_; refine LS 3 [] rfl rfl ?_; refine LR rfl (JI (r := [_, _, _, _, _, _, _, _]) rfl rfl) ?_; refine Kh (vs := [_]) (zs := [_, _, _, _, _, _, _, _]) (r := ac0L.cells) rfl rfl rfl rfl rfl rfl rfl rfl rfl (by rw [Kw]; exact rfl) rfl fun rx => ?_; refine LR rfl (JI (r := [_]) rfl rfl) ?_; refine Jh (Rl := [(rx, _)]) rfl rfl rfl Jed (Wx (s := ⟨[ac0L], some (⟨rx, 0, none⟩, 1)⟩) (Jte rx)) (fun q hq => .inl (by rw [List.mem_singleton.1 hq]; exact List.mem_cons_self)) ?_; refine Jy (congrArg (Value.int .i64) (show Qv [ac0] = 2 from k9)) ?_; refine LS 3 [] rfl rfl (nK hK16 ?_); refine Jb (pT rfl rfl rfl fun w1 hs1 => ?_); exact ⟨rfl, hs1.keep⟩
end Go.Proofs.YteceenlfegnigaaGreatDoor
