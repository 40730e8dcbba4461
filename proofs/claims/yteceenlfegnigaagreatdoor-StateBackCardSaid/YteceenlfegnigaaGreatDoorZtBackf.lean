import Derived.Test.YteceenlfegnigaaGreatDoorZtBacke
set_option maxRecDepth 100000
namespace Go.Proofs.YteceenlfegnigaaGreatDoor
set_option linter.all false
open Go.SL Go.RowKit Go.Shelf
theorem Jze {R : Jo} {rb e : Nat} (hb : (rb, Obj.cells #[fV 48] e (0, 0)) ∈ R) (x : (BS × BS)) (k : BS) : PureR Tryz.prog 110 [vS x, J3 k, .pointer (some ⟨rb, 0, none⟩)].toArray (.int .i64 (vz (Prod.fst x) k)) R := by
  refine Je Tryz.func110 rfl rfl fun w => ?_; refine sR fun _ hK1 => ?_; refine LN rfl fun r1 => ?_; refine Ji rfl (nK hK1 ?_); refine sR fun _ hK2 => ?_; refine LR rfl (Jk rfl (Or.inr hb) rfl rfl) ?_; refine LR rfl (Jw (vs := [_, _]) rfl (kn 0 rfl) rfl rfl rfl rfl) ?_; refine JF rfl rfl rfl Jrr (Jbm x) ?_; refine Ji rfl (JF rfl rfl rfl (enters_of Tryz.func106 (by kernel_rfl) rfl) (xr (Prod.fst x) k) (Ji rfl ?_)); refine nK hK2 (Jb ?_); refine pT rfl rfl rfl fun w1 hs1 => ?_; exact ⟨rfl, hs1.keep⟩
theorem Jk2 {R : Jo} {xs : List (BS × BS)} {p : Pl} (hl : xs.length ≤ 1000) (hs : Seg R xs.length (xs.flatMap QY) p) (hso : KG Prod.fst xs) {k : BS} {g : FuncId} {caps : List Value} (eg : Enters Tryz.prog g) (hg : ∀ x ∈ xs, PureR Tryz.prog g (vS x :: J3 k :: caps).toArray (.int .i64 (vz (Prod.fst x) k)) R) :
    PureR Tryz.prog 109 [KP xs.length p, J3 k, .func (.func g) #[] caps.toArray].toArray (.tuple #[.int .i64 (jy Prod.fst k xs : Nat), .bool (VZ Prod.fst k xs)]) R := by
  refine Je Tryz.func109 rfl rfl fun w => ?_; refine sR fun _ hK1 => LS 2 [] rfl rfl (nK hK1 ?_); refine sR fun _ hK2 => Ji rfl (LR rfl (J4 rfl hs rfl) (Ji rfl ?_)); refine nK hK2 (sR fun _ hK3 => ?_); refine LS 3 [] rfl rfl (nK hK3 ?_); refine sB fun _ hK4 => ?_; refine JL (σ := Nat × Nat) (fun s => (s.1 ≤ s.2 ∧ s.2 ≤ xs.length) ∧ (∀ q y, q < s.1 → xs[q]? = some y → Op.bytesLess (Prod.fst y) k = true) ∧ ∀ q y, s.2 ≤ q → xs[q]? = some y → Op.bytesLess (Prod.fst y) k = false) (fun s => [(0, KP xs.length p), (1, J3 k), (2, .func (.func g) #[] caps.toArray), (8, .int .i64 (xs.length : Int)), (9, .int .i64 (s.1 : Int)), (10, .int .i64 (s.2 : Int))]) (fun _ => []) (fun _ _ _ => True) (fun s => s.2 - s.1) (0, xs.length) ⟨⟨Nat.zero_le _, Nat.le_refl _⟩, fun q _ hq => absurd hq (Nat.not_lt_zero q), fun q y hq hy => absurd (List.getElem?_eq_some_iff.1 hy).1 (by omega)⟩ (.cons rfl (.cons rfl (.cons rfl (.cons rfl (.cons rfl (.cons rfl .nil)))))) (List.nil_sublist _) (fun _ _ h => h) ?_; rintro ⟨i, j⟩ ⟨⟨hi0, hj0⟩, hi1, hi2⟩; simp only at hi0 hj0 hi1 hi2; change HC _ _ [(0, _), (1, _), (2, _), (8, _), (9, .int .i64 (i : Int)), (10, .int .i64 (j : Int))] _ _ _ _; refine sQ fun _ hK5 => sR fun _ hK6 => ?_; refine LS 3 [] rfl rfl (nK hK6 ?_); refine Jc rfl (fun h7 => ?_) (fun h7 => ?_)
  try simp only [ZZ] at h7
  refine Jg (hK5 ?_); refine Js (sR fun _ hK8 => (LS 3 [] rfl rfl ?_)); refine Ju (by omega) (by omega) ?_; refine JY rfl (qT (by omega) (by omega) (LR rfl (wo (n := 1) (b := (((i + j) / 2 : Nat) : Int)) rfl rfl rfl (by decide) (by omega) (by omega)) ?_)); refine JY rfl (Ju (by omega) (by omega) (Ji rfl ?_)); refine nK hK8 (sQ fun _ hK9 => ?_)
  obtain ⟨x, hx, hmx⟩ := Vt (show (i + j) / 2 < xs.length by omega)
  refine Ja (LS 3 [] rfl rfl ?_)
  refine LR rfl (Jr (j := ((i + j) / 2)) rfl hs rfl rfl rfl (by first | rfl | omega) (by omega)) ?_; refine LR rfl (KL Kn (fun q hq => Or.inr hq) rfl hs hx rfl rfl) ?_; refine Ji rfl (Jh rfl rfl rfl eg (hg x hmx) (fun q hq => Or.inr hq) ?_); refine JY rfl (Jy (congrArg Value.bool (Jh3 (Prod.fst x) k)) ?_); refine nK hK9 ?_; refine Jc rfl (fun h10 => ?_) (fun h10 => ?_)
  try simp only [ZZ] at h10
  refine Ja (LS 2 [] rfl rfl (Ju (by omega) (by omega) ?_)); refine Ji rfl (Jf ?_); refine Jj (J8 ?_); exact J2 ((i + j) / 2 + 1, j) ⟨⟨by simp only; omega, hj0⟩, Jdg hso hx (by assumption), hi2⟩ (by simp only; omega) (.cons rfl (.cons rfl (.cons rfl (.cons rfl (.cons rfl (.cons rfl .nil)))))) (List.nil_sublist _) (fun _ _ h => h)
  try simp only [ZZ] at h10
  refine Ja (LS 2 [] rfl rfl (Jf ?_)); refine Jj (J8 ?_); exact J2 (i, (i + j) / 2) ⟨⟨by simp only; omega, by simp only; omega⟩, hi1, Jdh hso hx (by assumption)⟩ (by simp only; omega) (.cons rfl (.cons rfl (.cons rfl (.cons rfl (.cons rfl (.cons rfl .nil)))))) (List.nil_sublist _) (fun _ _ h => h)
  · try simp only [ZZ] at h7
    refine JJ (Jm ?_); refine Jm (J0 (hK4 ?_)); refine sQ fun _ hK11 => ?_
    have hij : i = j := by omega
    have hlo : i = jy Prod.fst k xs := Jn2 (by omega) hi1 (fun y hy => hi2 i y (by omega) hy)
    refine Ja (LS 5 [] rfl rfl ?_)
    refine J6 39 rfl (fun hb12 => ?_) (fun hb12 => ?_) <;> (try simp only [ZZ] at hb12) <;> first | (refine Ji rfl ?_) | (refine LK rfl ?_)
    all_goals refine LW 2 [] rfl rfl ?_
    all_goals first
      | (obtain ⟨x, hx, hmx⟩ := Vt (show i < xs.length by omega); refine LR rfl (Jr (j := i) rfl hs rfl rfl rfl (by first | rfl | omega) (by omega)) ?_)
      | (refine LK rfl ?_)
    all_goals first
      | (refine LR rfl (KL Kn (fun q hq => Or.inr hq) rfl hs hx rfl rfl) ?_)
      | (refine LK rfl ?_)
    all_goals refine LW 1 [] rfl rfl ?_
    all_goals first
      | (refine Jh rfl rfl rfl eg (hg x hmx) (fun q hq => Or.inr hq) ?_)
      | (refine LK rfl ?_)
    all_goals first
      | (refine JY rfl ?_; refine Jy (congrArg Value.bool (Jdf (Prod.fst x) k)) ?_)
      | (refine LK rfl ?_)
    all_goals refine LW 1 [] rfl rfl ?_
    all_goals refine LS 2 [] rfl rfl ?_
    all_goals refine Jf ?_
    all_goals (
     refine hK11 (Jb ?_); refine Jt rfl rfl (.cons (J1 rfl) (.cons (J1 rfl) .nil)) (fun w1 hs1 => ?_); refine ⟨?_, hs1.keep⟩
     first
       | (rw [← Jdi (kf := Prod.fst) (hlo ▸ hx), ← hlo]; rfl)
       | (rw [qC (kf := Prod.fst) (by omega), ← hlo]; rfl)
     skip)
theorem Jqg {R : Jo} {xs : List (BS × BS)} {p : Pl} (hl : xs.length ≤ 1000) (hs : Seg R xs.length (xs.flatMap QY) p) (hso : KG Prod.fst xs) {k : BS} :
    PureR Tryz.prog 73 [KP xs.length p, J3 k, fV 48].toArray (.tuple #[.int .i64 (jy Prod.fst k xs : Nat), .bool (VZ Prod.fst k xs)]) R := by
  refine Je Tryz.func73 rfl rfl fun w => ?_; refine sR fun _ hK1 => ?_; refine LN rfl fun r1 => ?_; refine LS 2 [] rfl rfl (nK hK1 ?_); refine sR fun _ hK2 => LS 2 [] rfl rfl ?_; refine LR rfl (Ku rfl rfl) ?_; refine Jh (Rl := (r1, Obj.cells #[fV 48] _ (0, 0)) :: R) rfl rfl rfl (enters_of Tryz.func109 (by kernel_rfl) rfl) (Jk2 (caps := [.pointer (some ⟨r1, 0, none⟩)]) hl (hs.mono fun q hq => List.mem_cons_of_mem _ hq) hso (enters_of Tryz.func110 (by kernel_rfl) rfl) (fun x hx => Jze List.mem_cons_self x k)) (fun q hq => (List.mem_cons.1 hq).elim (fun h => Or.inl (by rw [h]; exact List.mem_cons_self)) Or.inr) ?_; refine LS 4 [] rfl rfl (nK hK2 ?_); refine Jb ?_; refine Jt rfl rfl (.cons (J1 rfl) (.cons (J1 rfl) .nil)) (fun w1 hs1 => ?_); exact ⟨rfl, hs1.keep⟩
theorem Jqh {R : Jo} {xs : List AcL} {p : Pl} (hl : xs.length ≤ 1000) (hs : Seg R xs.length (xs.flatMap AcL.cells) p) :
    PureT (α := { row : V5 // rowOk 8 xs.length (xs.flatMap AcL.cells) row }) Tryz.prog 71 [KP xs.length p].toArray (fun x => JD xs.length x.1) [] (fun x => JV 34 (xs.flatMap AcL.cells) x.1) R := by
  cases p with
  | none =>
    have h0 : xs = [] := List.length_eq_zero_iff.1 hs
    subst h0; refine JI Tryz.func71 rfl rfl fun w => ?_; refine sR fun _ hK1 => Ji rfl (nK hK1 ?_); refine sQ fun _ hK2 => sR fun _ hK3 => ?_; refine LS 2 [] rfl rfl (nK hK3 ?_); refine Jc rfl (fun h4 => ?_) (fun h4 => ?_)
    try simp only [ZZ] at h4
    refine sR fun _ hK5 => Ji rfl (nK hK5 ?_); refine Jb (Jd ?_); refine pT rfl rfl rfl fun w1 hs1 => ?_; exact ⟨⟨none, rfl, rfl⟩, rfl, hs1⟩
    try exact Bool.noConfusion h4
  | some q =>
    refine JI Tryz.func71 rfl rfl fun w => ?_; refine sR fun _ hK1 => Ji rfl (nK hK1 ?_); refine sQ fun _ hK2 => sR fun _ hK3 => ?_; refine LS 2 [] rfl rfl (nK hK3 ?_); refine Jc rfl (fun h4 => ?_) (fun h4 => ?_)
    try exact Bool.noConfusion h4
    · try simp only [ZZ] at h4
      refine Jg (hK2 ?_); refine sR fun _ hK6 => ?_; refine Xy rfl rfl rfl rfl fun r1 => ?_; refine Ji rfl (wW (k := 0) (b := 96) (sz := 8) rfl rfl rfl rfl rfl rfl hs (fun q hq => Or.inr hq) rfl rfl rfl rfl rfl (by decide) (KT AcL.len xs) (YC AcL.one xs) (by omega) (by omega) fun row hrow => (Ji rfl ?_)); refine nK hK6 (Jb ?_); refine pT rfl rfl rfl fun w1 hs1 => ?_; exact ⟨⟨row, hrow⟩, rfl, hs1.weakL (List.sublist_append_left _ _)⟩
theorem Jk3 {R : Jo} {xs : List AcL} {row : V5} (hl : xs.length ≤ 1000) (hrow : rowOk 8 xs.length (xs.flatMap AcL.cells) row) {i : Nat} (hi : i ≤ xs.length) {y : AcL} {rv : Nat} (hv : (rv, Obj.cells (AcL.cells y).toArray 34 (0, 0)) ∈ R) :
    PureT (α := { row' : V5 // rowOk 8 (xs.length + 1) ((xs.take i ++ y :: xs.drop i).flatMap AcL.cells) row' }) Tryz.prog 72 [JD xs.length row, .int .i64 (i : Int), .slice (some ⟨rv, 0, none⟩) 1 1].toArray (fun x => JD (xs.length + 1) x.1) (JV 34 (xs.flatMap AcL.cells) row) (fun x => JV 34 ((xs.take i ++ y :: xs.drop i).flatMap AcL.cells) x.1) R := by
  obtain ⟨A, hA⟩ : ∃ A, A = (xs.take i).flatMap AcL.cells := ⟨_, rfl⟩
  obtain ⟨B, hB⟩ : ∃ B, B = (xs.drop i).flatMap AcL.cells := ⟨_, rfl⟩
  obtain ⟨n, hn⟩ : ∃ n, n = xs.length := ⟨_, rfl⟩
  have e1 : xs.flatMap AcL.cells = A ++ B := by rw [hA, hB, ← List.flatMap_append, List.take_append_drop]
  have e2 : (xs.take i ++ y :: xs.drop i).flatMap AcL.cells = A ++ (AcL.cells y ++ B) := by rw [List.flatMap_append, List.flatMap_cons, hA, hB]
  have lA : A.length = i * 8 := by rw [hA, KT AcL.len, List.length_take, Nat.min_eq_left hi]
  have lB : B.length = (n - i) * 8 := by rw [hB, KT AcL.len, List.length_drop, hn]
  have lF : (AcL.cells y).length = 8 := AcL.len y
  have oF : (AcL.cells y).all QW = true := AcL.one y
  have oA : A.all QW = true := by rw [hA]; exact YC AcL.one _
  have oB : B.all QW = true := by rw [hB]; exact YC AcL.one _
  rw [e1] at hrow; rw [e1, e2]; rw [← hn] at hl hi hrow ⊢; clear hA hB e1 e2 hn
  cases row with
  | none =>
    obtain ⟨rfl, hAB⟩ := hrow
    obtain rfl : i = 0 := by omega
    obtain ⟨rfl, rfl⟩ := List.append_eq_nil_iff.1 hAB
    refine JI Tryz.func72 rfl rfl fun w => ?_; refine sR fun _ hK1 => Ji rfl (nK hK1 ?_); refine sR fun _ hK2 => LS 3 [] rfl rfl (nK hK2 ?_); refine sR fun _ hK3 => Ji rfl (LR rfl (KM rfl rfl) (Ji rfl ?_)); refine nK hK3 (sQ fun _ hK4 => ?_); refine sR fun _ hK5 => LS 2 [] rfl rfl (nK hK5 ?_); refine Jc rfl (fun h6 => ?_) (fun h6 => ?_)
    try exact Bool.noConfusion h6
    try simp only [ZZ] at h6
    refine Jg (hK4 ?_); refine sR fun _ hK8 => Ji rfl (LR rfl (KM rfl rfl) (Ji rfl ?_)); refine nK hK8 (sQ fun _ hK9 => ?_); refine sR fun _ hK10 => LS 3 [] rfl rfl (nK hK10 ?_); refine Jc rfl (fun h11 => ?_) (fun h11 => ?_)
    try simp only [ZZ] at h11
    refine sR fun _ hK12 => LS 2 [] rfl rfl ?_; refine W1 (n := 0) (m := 1) (b := 96) (sz := 8) (news := AcL.cells y) (xs := []) (L0 := []) rfl rfl rfl rfl (Or.inr hv) rfl rfl rfl rfl rfl (by decide) rfl rfl oF (by decide) SlOwn.nil (by decide) (by decide) fun r1 cap1 sp1 hsp1 => ?_; refine Ji rfl (nK hK12 ?_); refine Jb (Jd ?_); refine pT rfl rfl rfl fun w1 hs1 => ?_; exact ⟨⟨some (r1, cap1, sp1), by simp [lF], hsp1⟩, rfl, by simpa [JV] using hs1⟩
    try exact Bool.noConfusion h11
  | some q =>
    obtain ⟨r, cap, sp⟩ := q
    obtain ⟨hr1, hr2⟩ := hrow
    have hcap : n ≤ cap := by omega
    refine JI Tryz.func72 rfl rfl fun w => ?_; change HC _ _ _ [(r, .cells ((A ++ B) ++ sp).toArray 34 (0, 0))] _ _ _; refine sR fun _ hK1 => Ji rfl (nK hK1 ?_); refine sR fun _ hK2 => LS 2 [] rfl rfl ?_; refine LR rfl (JR (m := i) (kl := some i) (kh := none) (km := none) (q := n) (z := cap) rfl rfl rfl ⟨_, rfl⟩ trivial trivial rfl rfl rfl (by omega) (by omega) (by omega) (fun _ => rfl) rfl) ?_; refine nK hK2 (sR fun _ hK3 => ?_); refine Ji rfl (LR rfl (KM rfl rfl) (Ji rfl ?_)); refine nK hK3 (sQ fun _ hK4 => ?_); refine sR fun _ hK5 => LS 2 [] rfl rfl (nK hK5 ?_); refine Jc rfl (fun h6 => ?_) (fun h6 => ?_)
    try exact Bool.noConfusion h6
    · try simp only [ZZ] at h6
      refine Jg (hK4 ?_); refine sR fun _ hK8 => Ji rfl (LR rfl (KM rfl rfl) (Ji rfl ?_)); refine nK hK8 (sQ fun _ hK9 => ?_); refine sR fun _ hK10 => LS 3 [] rfl rfl (nK hK10 ?_); refine Jc rfl (fun h11 => ?_) (fun h11 => ?_)
      try simp only [ZZ] at h11
      refine sR fun _ hK12 => LS 2 [] rfl rfl ?_
      obtain rfl : B = [] := List.length_eq_zero_iff.1 (by omega)
      refine W1 (n := n) (m := 1) (b := 96) (sz := 8) (news := AcL.cells y) (xs := A ++ []) (L0 := []) rfl rfl rfl rfl (Or.inr hv) rfl rfl rfl rfl rfl (by decide) rfl lF oF (by decide) (SlOwn.own (k := 0) rfl (by simp only [List.toList_toArray]; rw [List.take_left' hr1]) hr1 (by rw [List.size_toArray, List.length_append, hr1]; omega) rfl) (by omega) (by omega) fun r1 cap1 sp1 hsp1 => ?_; refine Ji rfl (nK hK12 ?_); refine Jb (Jd ?_); refine pT rfl rfl rfl fun w1 hs1 => ?_; exact ⟨⟨some (r1, cap1, sp1), by simp only [List.length_append, List.length_nil, lF]; omega, hsp1⟩, rfl, by simpa [JV] using hs1⟩
      · try simp only [ZZ] at h11
        refine Jg (hK9 ?_); refine sQ fun _ hK13 => sR fun _ hK14 => ?_; refine LS 3 [] rfl rfl ?_; refine Ju (by omega) (by omega) ?_; refine Ji rfl (LR rfl (Jh1 rfl rfl) (JY rfl ?_)); refine nK hK14 ?_; refine Jc rfl (fun h15 => ?_) (fun h15 => ?_)
        · try simp only [ZZ] at h15
          refine sR fun _ hK16 => LS 2 [] rfl rfl ?_
          refine LR rfl (JR (sz := 8) (q := i) (kl := none) (kh := some (i)) (km := none) (m := 0) (z := cap) (off' := 0) rfl rfl rfl trivial ⟨_, rfl⟩ trivial rfl rfl rfl (by omega) (by omega) (by omega) (fun h => by cases h) (by split <;> omega)) ?_; refine LS 3 [] rfl rfl ?_; refine Ju (by omega) (by omega) ?_; refine Ji rfl ?_
          refine JY rfl ?_; refine Jy (show _ = Value.int .i64 ((n + 1 - i : Nat) : Int) from by rw [wrap_i64 (by omega) (by omega)]; congr 1 <;> omega) ?_; refine wP (r := r) (off := 0) (n := i) (cap := cap) (m := n + 1 - i) (sz := 8) (b := 96) (xs := A) rfl rfl rfl rfl (kn 0 rfl) rfl rfl rfl rfl rfl rfl (by decide) (by simp only [List.toList_toArray, List.drop_zero]; rw [List.append_assoc, List.take_left' lA]) lA (by omega) (by omega) (by omega) (by omega) (by omega) fun r2 cap2 Z sp2 hZ hsp2 => ?_; rw [show i + (n + 1 - i) = n + 1 by omega] at hsp2 ⊢
          obtain ⟨Z1, Z2, rfl, lZ1⟩ := cut (l := Z) (a := 8) (by omega)
          have lZ2 : Z2.length = (n - i) * 8 := by rw [List.length_append, lZ1] at hZ; omega
          rw [show A ++ (Z1 ++ Z2) ++ sp2 = A ++ (Z1 ++ (Z2 ++ sp2)) by simp only [List.append_assoc]]; refine Ji rfl (nK hK16 ?_); refine sR fun _ hK17 => LS 2 [] rfl rfl ?_; refine LR rfl (JR (sz := 8) (m := i) (kl := some (i)) (kh := none) (km := none) (q := n + 1) (z := cap2) (off' := i * 8) rfl rfl rfl ⟨_, rfl⟩ trivial trivial rfl rfl rfl (by omega) (by omega) (by omega) (fun _ => rfl) (by rw [if_neg (by omega)]; omega)) ?_; refine Ji rfl ?_
          refine XR (k := 0) (n := 1) (sz := 8) (vs := AcL.cells y) (cs' := A ++ (AcL.cells y ++ (Z2 ++ sp2))) rfl rfl rfl rfl rfl (Or.inr hv) rfl rfl (by simp only [Nat.min_def]; split <;> omega) rfl lF oF (by simp only [List.size_toArray, List.length_append]; omega) (Xz lA (by rw [lZ1])) rfl ?_; refine nK hK17 (sQ fun _ hK18 => ?_); refine Kc 8 (by kernel_rfl) (by kernel_rfl) ?_; refine Jl rfl rfl rfl (Jp rfl) ?_; refine Jl rfl rfl rfl (Jp rfl) ?_; refine Jl rfl rfl rfl (Jp rfl) ?_
          refine Jl rfl rfl rfl (JA rfl rfl rfl) ?_; refine QC (show _ = Value.int .i64 ((i + 1 : Nat) : Int) from by rw [wrap_i64 (by omega) (by omega)]; congr 1 <;> omega) ?_; refine Jl rfl rfl rfl (JR (sz := 8) (m := i + 1) (kl := some (i + 1)) (kh := none) (km := none) (q := n + 1) (z := cap2) (off' := (i + 1) * 8) rfl rfl rfl ⟨_, rfl⟩ trivial trivial rfl rfl rfl (by omega) (by omega) (by omega) (fun _ => rfl) (by rw [if_neg (by omega)]; omega)) ?_; refine Jl rfl rfl rfl (Jp rfl) ?_; refine Jl rfl rfl rfl (Jp rfl) ?_; refine Jl rfl rfl rfl (JR (sz := 8) (m := i) (kl := some (i)) (kh := none) (km := none) (q := n) (z := cap) (off' := i * 8) rfl rfl rfl ⟨_, rfl⟩ trivial trivial rfl rfl rfl (by omega) (by omega) (by omega) (fun _ => rfl) (by rw [if_neg (by omega)]; omega)) ?_; refine KA ?_; rw [show A ++ (AcL.cells y ++ (Z2 ++ sp2)) = (A ++ AcL.cells y) ++ (Z2 ++ sp2) by simp only [List.append_assoc]]
          refine XR (k := 0) (n := n - i) (sz := 8) (vs := B) (cs' := (A ++ AcL.cells y) ++ (B ++ sp2)) rfl rfl rfl rfl rfl (kn 1 rfl) rfl rfl (by simp only [Nat.min_def]; split <;> omega) (by simp only [List.toList_toArray]; rw [List.append_assoc, List.drop_left' lA, List.take_left' lB]) lB oB (by simp only [List.size_toArray, List.length_append]; omega) (Xz (by rw [List.length_append, lA, lF]; omega) lZ2) rfl ?_; refine nK hK18 (sR fun _ hK19 => ?_); refine LS 2 [] rfl rfl (nK hK19 ?_); refine Jb (Jd ?_); refine pT rfl rfl rfl fun w1 hs1 => ?_; exact ⟨⟨some (r2, cap2, sp2), by simp only [List.length_append]; omega, hsp2⟩, rfl, hs1.weakL (by simp [JV])⟩
        · try simp only [ZZ] at h15
          refine Jg (hK13 ?_); refine sR fun _ hK20 => LS 3 [] rfl rfl ?_
          refine JY rfl ?_; refine Jy (show _ = Value.int .i64 ((n + 1 : Nat) : Int) from by rw [wrap_i64 (by omega) (by omega)]; congr 1 <;> omega) ?_
          refine LR rfl (JR (sz := 8) (q := n + 1) (kl := none) (kh := some (n + 1)) (km := none) (m := 0) (z := cap) (off' := 0) rfl rfl rfl trivial ⟨_, rfl⟩ trivial rfl rfl rfl (by omega) (by omega) (by omega) (fun h => by cases h) (by split <;> omega)) ?_; refine Ji rfl (nK hK20 ?_); refine sQ fun _ hK21 => sR fun _ hK22 => ?_; refine LS 4 [] rfl rfl ?_
          refine JY rfl ?_; refine Jy (show _ = Value.int .i64 ((i + 1 : Nat) : Int) from by rw [wrap_i64 (by omega) (by omega)]; congr 1 <;> omega) ?_; refine LR rfl (JR (sz := 8) (m := i + 1) (kl := some (i + 1)) (kh := none) (km := none) (q := n + 1) (z := cap) (off' := (i + 1) * 8) rfl rfl rfl ⟨_, rfl⟩ trivial trivial rfl rfl rfl (by omega) (by omega) (by omega) (fun _ => rfl) (by rw [if_neg (by omega)]; omega)) ?_; refine LR rfl (vi (k := 0) rfl rfl rfl hv rfl rfl rfl (by simp only [List.size_toArray, List.length_append]; omega) Tryz.func107 rfl rfl rfl rfl) ?_; refine JY rfl (nK hK22 ?_); refine Jc rfl (fun h23 => ?_) (fun h23 => ?_)
          · try simp only [ZZ] at h23
            refine sQ fun _ hK24 => ?_; refine Kc 8 (by kernel_rfl) (by kernel_rfl) ?_; refine Jl rfl rfl rfl (Jp rfl) ?_; refine Jl rfl rfl rfl (Jp rfl) ?_; refine Jl rfl rfl rfl (Jp rfl) ?_
            refine Jl rfl rfl rfl (JA rfl rfl rfl) ?_; refine QC (show _ = Value.int .i64 ((i + 1 : Nat) : Int) from by rw [wrap_i64 (by omega) (by omega)]; congr 1 <;> omega) ?_; refine Jl rfl rfl rfl (JR (sz := 8) (m := i + 1) (kl := some (i + 1)) (kh := none) (km := none) (q := n + 1) (z := cap) (off' := (i + 1) * 8) rfl rfl rfl ⟨_, rfl⟩ trivial trivial rfl rfl rfl (by omega) (by omega) (by omega) (fun _ => rfl) (by rw [if_neg (by omega)]; omega)) ?_; refine Jl rfl rfl rfl (Jp rfl) ?_; refine Jl rfl rfl rfl (Jp rfl) ?_; refine Jl rfl rfl rfl (JR (sz := 8) (m := i) (kl := some (i)) (kh := none) (km := none) (q := n + 1) (z := cap) (off' := i * 8) rfl rfl rfl ⟨_, rfl⟩ trivial trivial rfl rfl rfl (by omega) (by omega) (by omega) (fun _ => rfl) (by rw [if_neg (by omega)]; omega)) ?_; refine KA ?_
            obtain ⟨X1, X2, hX, lX1⟩ := cut (l := B ++ sp) (a := 8) (by rw [List.length_append]; omega)
            obtain ⟨X3, X4, rfl, lX3⟩ := cut (l := X2) (a := (n - i) * 8) (by have := congrArg List.length hX; simp only [List.length_append] at this; omega)
            rw [show (A ++ B) ++ sp = (A ++ X1) ++ (X3 ++ X4) by rw [List.append_assoc, hX]; simp only [List.append_assoc]]
            refine XR (k := 0) (n := n - i) (sz := 8) (vs := B) (cs' := (A ++ X1) ++ (B ++ X4)) rfl rfl rfl rfl rfl (kn 0 rfl) rfl rfl (by simp only [Nat.min_def]; split <;> omega) (by simp only [List.toList_toArray]; rw [List.append_assoc, List.drop_left' lA, ← hX, List.take_left' lB]) lB oB (by have := congrArg List.length hX; simp only [List.size_toArray, List.length_append] at this ⊢; omega) (Xz (by rw [List.length_append, lA, lX1]; omega) lX3) rfl ?_; refine nK hK24 (sR fun _ hK25 => ?_); refine LS 2 [] rfl rfl ?_; refine LR rfl (JR (sz := 8) (m := i) (kl := some (i)) (kh := none) (km := none) (q := n + 1) (z := cap) (off' := i * 8) rfl rfl rfl ⟨_, rfl⟩ trivial trivial rfl rfl rfl (by omega) (by omega) (by omega) (fun _ => rfl) (by rw [if_neg (by omega)]; omega)) ?_; refine Ji rfl ?_; rw [show (A ++ X1) ++ (B ++ X4) = A ++ (X1 ++ (B ++ X4)) by simp only [List.append_assoc]]
            refine XR (k := 0) (n := 1) (sz := 8) (vs := AcL.cells y) (cs' := A ++ (AcL.cells y ++ (B ++ X4))) rfl rfl rfl rfl rfl (Or.inr hv) rfl rfl (by simp only [Nat.min_def]; split <;> omega) rfl lF oF (by simp only [List.size_toArray, List.length_append]; omega) (Xz lA (by rw [lX1])) rfl ?_; refine nK hK25 (sR fun _ hK26 => ?_); refine LS 2 [] rfl rfl (nK hK26 ?_); refine Jb (Jd ?_); refine pT rfl rfl rfl fun w1 hs1 => ?_; exact ⟨⟨some (r, cap, X4), by simp only [List.length_append]; omega, by have := congrArg List.length hX; simp only [List.length_append] at this; omega⟩, rfl, by simpa [JV] using hs1⟩
          · try exact Bool.noConfusion h23
theorem Jqi {R : Jo} {xs : List (BS × BS)} {p : Pl} (hl : xs.length ≤ 1000) (hs : Seg R xs.length (xs.flatMap QY) p) :
    PureT (α := { row : V5 // rowOk 2 xs.length (xs.flatMap QY) row }) Tryz.prog 74 [KP xs.length p].toArray (fun x => JD xs.length x.1) [] (fun x => JV 59 (xs.flatMap QY) x.1) R := by
  cases p with
  | none =>
    have h0 : xs = [] := List.length_eq_zero_iff.1 hs
    subst h0; refine JI Tryz.func74 rfl rfl fun w => ?_; refine sR fun _ hK1 => Ji rfl (nK hK1 ?_); refine sQ fun _ hK2 => sR fun _ hK3 => ?_; refine LS 2 [] rfl rfl (nK hK3 ?_); refine Jc rfl (fun h4 => ?_) (fun h4 => ?_)
    try simp only [ZZ] at h4
    refine sR fun _ hK5 => Ji rfl (nK hK5 ?_); refine Jb (Jd ?_); refine pT rfl rfl rfl fun w1 hs1 => ?_; exact ⟨⟨none, rfl, rfl⟩, rfl, hs1⟩
    try exact Bool.noConfusion h4
  | some q =>
    refine JI Tryz.func74 rfl rfl fun w => ?_; refine sR fun _ hK1 => Ji rfl (nK hK1 ?_); refine sQ fun _ hK2 => sR fun _ hK3 => ?_; refine LS 2 [] rfl rfl (nK hK3 ?_); refine Jc rfl (fun h4 => ?_) (fun h4 => ?_)
    try exact Bool.noConfusion h4
    · try simp only [ZZ] at h4
      refine Jg (hK2 ?_); refine sR fun _ hK6 => ?_; refine Xy rfl rfl rfl rfl fun r1 => ?_; refine Ji rfl (wW (k := 0) (b := 32) (sz := 2) rfl rfl rfl rfl rfl rfl hs (fun q hq => Or.inr hq) rfl rfl rfl rfl rfl (by decide) (KT Kn xs) (YC jO xs) (by omega) (by omega) fun row hrow => (Ji rfl ?_)); refine nK hK6 (Jb ?_); refine pT rfl rfl rfl fun w1 hs1 => ?_; exact ⟨⟨row, hrow⟩, rfl, hs1.weakL (List.sublist_append_left _ _)⟩
theorem Jk4 {R : Jo} {xs : List (BS × BS)} {row : V5} (hl : xs.length ≤ 1000) (hrow : rowOk 2 xs.length (xs.flatMap QY) row) {i : Nat} (hi : i ≤ xs.length) {y : (BS × BS)} {rv : Nat} (hv : (rv, Obj.cells (QY y).toArray 59 (0, 0)) ∈ R) :
    PureT (α := { row' : V5 // rowOk 2 (xs.length + 1) ((xs.take i ++ y :: xs.drop i).flatMap QY) row' }) Tryz.prog 75 [JD xs.length row, .int .i64 (i : Int), .slice (some ⟨rv, 0, none⟩) 1 1].toArray (fun x => JD (xs.length + 1) x.1) (JV 59 (xs.flatMap QY) row) (fun x => JV 59 ((xs.take i ++ y :: xs.drop i).flatMap QY) x.1) R := by
  obtain ⟨A, hA⟩ : ∃ A, A = (xs.take i).flatMap QY := ⟨_, rfl⟩
  obtain ⟨B, hB⟩ : ∃ B, B = (xs.drop i).flatMap QY := ⟨_, rfl⟩
  obtain ⟨n, hn⟩ : ∃ n, n = xs.length := ⟨_, rfl⟩
  have e1 : xs.flatMap QY = A ++ B := by rw [hA, hB, ← List.flatMap_append, List.take_append_drop]
  have e2 : (xs.take i ++ y :: xs.drop i).flatMap QY = A ++ (QY y ++ B) := by rw [List.flatMap_append, List.flatMap_cons, hA, hB]
  have lA : A.length = i * 2 := by rw [hA, KT Kn, List.length_take, Nat.min_eq_left hi]
  have lB : B.length = (n - i) * 2 := by rw [hB, KT Kn, List.length_drop, hn]
  have lF : (QY y).length = 2 := Kn y
  have oF : (QY y).all QW = true := jO y
  have oA : A.all QW = true := by rw [hA]; exact YC jO _
  have oB : B.all QW = true := by rw [hB]; exact YC jO _
  rw [e1] at hrow; rw [e1, e2]; rw [← hn] at hl hi hrow ⊢; clear hA hB e1 e2 hn
  cases row with
  | none =>
    obtain ⟨rfl, hAB⟩ := hrow
    obtain rfl : i = 0 := by omega
    obtain ⟨rfl, rfl⟩ := List.append_eq_nil_iff.1 hAB
    refine JI Tryz.func75 rfl rfl fun w => ?_; refine sR fun _ hK1 => Ji rfl (nK hK1 ?_); refine sR fun _ hK2 => LS 3 [] rfl rfl (nK hK2 ?_); refine sR fun _ hK3 => Ji rfl (LR rfl (KM rfl rfl) (Ji rfl ?_)); refine nK hK3 (sQ fun _ hK4 => ?_); refine sR fun _ hK5 => LS 2 [] rfl rfl (nK hK5 ?_); refine Jc rfl (fun h6 => ?_) (fun h6 => ?_)
    try exact Bool.noConfusion h6
    try simp only [ZZ] at h6
    refine Jg (hK4 ?_); refine sR fun _ hK8 => Ji rfl (LR rfl (KM rfl rfl) (Ji rfl ?_)); refine nK hK8 (sQ fun _ hK9 => ?_); refine sR fun _ hK10 => LS 3 [] rfl rfl (nK hK10 ?_); refine Jc rfl (fun h11 => ?_) (fun h11 => ?_)
    try simp only [ZZ] at h11
    refine sR fun _ hK12 => LS 2 [] rfl rfl ?_; refine W1 (n := 0) (m := 1) (b := 32) (sz := 2) (news := QY y) (xs := []) (L0 := []) rfl rfl rfl rfl (Or.inr hv) rfl rfl rfl rfl rfl (by decide) rfl rfl oF (by decide) SlOwn.nil (by decide) (by decide) fun r1 cap1 sp1 hsp1 => ?_; refine Ji rfl (nK hK12 ?_); refine Jb (Jd ?_); refine pT rfl rfl rfl fun w1 hs1 => ?_; exact ⟨⟨some (r1, cap1, sp1), by simp [lF], hsp1⟩, rfl, by simpa [JV] using hs1⟩
    try exact Bool.noConfusion h11
  | some q =>
    obtain ⟨r, cap, sp⟩ := q
    obtain ⟨hr1, hr2⟩ := hrow
    have hcap : n ≤ cap := by omega
    refine JI Tryz.func75 rfl rfl fun w => ?_; change HC _ _ _ [(r, .cells ((A ++ B) ++ sp).toArray 59 (0, 0))] _ _ _; refine sR fun _ hK1 => Ji rfl (nK hK1 ?_); refine sR fun _ hK2 => LS 2 [] rfl rfl ?_; refine LR rfl (JR (m := i) (kl := some i) (kh := none) (km := none) (q := n) (z := cap) rfl rfl rfl ⟨_, rfl⟩ trivial trivial rfl rfl rfl (by omega) (by omega) (by omega) (fun _ => rfl) rfl) ?_; refine nK hK2 (sR fun _ hK3 => ?_); refine Ji rfl (LR rfl (KM rfl rfl) (Ji rfl ?_)); refine nK hK3 (sQ fun _ hK4 => ?_); refine sR fun _ hK5 => LS 2 [] rfl rfl (nK hK5 ?_); refine Jc rfl (fun h6 => ?_) (fun h6 => ?_)
    try exact Bool.noConfusion h6
    · try simp only [ZZ] at h6
      refine Jg (hK4 ?_); refine sR fun _ hK8 => Ji rfl (LR rfl (KM rfl rfl) (Ji rfl ?_)); refine nK hK8 (sQ fun _ hK9 => ?_); refine sR fun _ hK10 => LS 3 [] rfl rfl (nK hK10 ?_); refine Jc rfl (fun h11 => ?_) (fun h11 => ?_)
      try simp only [ZZ] at h11
      refine sR fun _ hK12 => LS 2 [] rfl rfl ?_
      obtain rfl : B = [] := List.length_eq_zero_iff.1 (by omega)
      refine W1 (n := n) (m := 1) (b := 32) (sz := 2) (news := QY y) (xs := A ++ []) (L0 := []) rfl rfl rfl rfl (Or.inr hv) rfl rfl rfl rfl rfl (by decide) rfl lF oF (by decide) (SlOwn.own (k := 0) rfl (by simp only [List.toList_toArray]; rw [List.take_left' hr1]) hr1 (by rw [List.size_toArray, List.length_append, hr1]; omega) rfl) (by omega) (by omega) fun r1 cap1 sp1 hsp1 => ?_; refine Ji rfl (nK hK12 ?_); refine Jb (Jd ?_); refine pT rfl rfl rfl fun w1 hs1 => ?_; exact ⟨⟨some (r1, cap1, sp1), by simp only [List.length_append, List.length_nil, lF]; omega, hsp1⟩, rfl, by simpa [JV] using hs1⟩
      · try simp only [ZZ] at h11
        refine Jg (hK9 ?_); refine sQ fun _ hK13 => sR fun _ hK14 => ?_; refine LS 3 [] rfl rfl ?_; refine Ju (by omega) (by omega) ?_; refine Ji rfl (LR rfl (Jh1 rfl rfl) (JY rfl ?_)); refine nK hK14 ?_; refine Jc rfl (fun h15 => ?_) (fun h15 => ?_)
        · try simp only [ZZ] at h15
          refine sR fun _ hK16 => LS 2 [] rfl rfl ?_
          refine LR rfl (JR (sz := 2) (q := i) (kl := none) (kh := some (i)) (km := none) (m := 0) (z := cap) (off' := 0) rfl rfl rfl trivial ⟨_, rfl⟩ trivial rfl rfl rfl (by omega) (by omega) (by omega) (fun h => by cases h) (by split <;> omega)) ?_; refine LS 3 [] rfl rfl ?_; refine Ju (by omega) (by omega) ?_; refine Ji rfl ?_
          refine JY rfl ?_; refine Jy (show _ = Value.int .i64 ((n + 1 - i : Nat) : Int) from by rw [wrap_i64 (by omega) (by omega)]; congr 1 <;> omega) ?_; refine wP (r := r) (off := 0) (n := i) (cap := cap) (m := n + 1 - i) (sz := 2) (b := 32) (xs := A) rfl rfl rfl rfl (kn 0 rfl) rfl rfl rfl rfl rfl rfl (by decide) (by simp only [List.toList_toArray, List.drop_zero]; rw [List.append_assoc, List.take_left' lA]) lA (by omega) (by omega) (by omega) (by omega) (by omega) fun r2 cap2 Z sp2 hZ hsp2 => ?_; rw [show i + (n + 1 - i) = n + 1 by omega] at hsp2 ⊢
          obtain ⟨Z1, Z2, rfl, lZ1⟩ := cut (l := Z) (a := 2) (by omega)
          have lZ2 : Z2.length = (n - i) * 2 := by rw [List.length_append, lZ1] at hZ; omega
          rw [show A ++ (Z1 ++ Z2) ++ sp2 = A ++ (Z1 ++ (Z2 ++ sp2)) by simp only [List.append_assoc]]; refine Ji rfl (nK hK16 ?_); refine sR fun _ hK17 => LS 2 [] rfl rfl ?_; refine LR rfl (JR (sz := 2) (m := i) (kl := some (i)) (kh := none) (km := none) (q := n + 1) (z := cap2) (off' := i * 2) rfl rfl rfl ⟨_, rfl⟩ trivial trivial rfl rfl rfl (by omega) (by omega) (by omega) (fun _ => rfl) (by rw [if_neg (by omega)]; omega)) ?_; refine Ji rfl ?_
          refine XR (k := 0) (n := 1) (sz := 2) (vs := QY y) (cs' := A ++ (QY y ++ (Z2 ++ sp2))) rfl rfl rfl rfl rfl (Or.inr hv) rfl rfl (by simp only [Nat.min_def]; split <;> omega) rfl lF oF (by simp only [List.size_toArray, List.length_append]; omega) (Xz lA (by rw [lZ1])) rfl ?_; refine nK hK17 (sQ fun _ hK18 => ?_); refine Kc 8 (by kernel_rfl) (by kernel_rfl) ?_; refine Jl rfl rfl rfl (Jp rfl) ?_; refine Jl rfl rfl rfl (Jp rfl) ?_; refine Jl rfl rfl rfl (Jp rfl) ?_
          refine Jl rfl rfl rfl (JA rfl rfl rfl) ?_; refine QC (show _ = Value.int .i64 ((i + 1 : Nat) : Int) from by rw [wrap_i64 (by omega) (by omega)]; congr 1 <;> omega) ?_; refine Jl rfl rfl rfl (JR (sz := 2) (m := i + 1) (kl := some (i + 1)) (kh := none) (km := none) (q := n + 1) (z := cap2) (off' := (i + 1) * 2) rfl rfl rfl ⟨_, rfl⟩ trivial trivial rfl rfl rfl (by omega) (by omega) (by omega) (fun _ => rfl) (by rw [if_neg (by omega)]; omega)) ?_; refine Jl rfl rfl rfl (Jp rfl) ?_; refine Jl rfl rfl rfl (Jp rfl) ?_; refine Jl rfl rfl rfl (JR (sz := 2) (m := i) (kl := some (i)) (kh := none) (km := none) (q := n) (z := cap) (off' := i * 2) rfl rfl rfl ⟨_, rfl⟩ trivial trivial rfl rfl rfl (by omega) (by omega) (by omega) (fun _ => rfl) (by rw [if_neg (by omega)]; omega)) ?_; refine KA ?_; rw [show A ++ (QY y ++ (Z2 ++ sp2)) = (A ++ QY y) ++ (Z2 ++ sp2) by simp only [List.append_assoc]]
          refine XR (k := 0) (n := n - i) (sz := 2) (vs := B) (cs' := (A ++ QY y) ++ (B ++ sp2)) rfl rfl rfl rfl rfl (kn 1 rfl) rfl rfl (by simp only [Nat.min_def]; split <;> omega) (by simp only [List.toList_toArray]; rw [List.append_assoc, List.drop_left' lA, List.take_left' lB]) lB oB (by simp only [List.size_toArray, List.length_append]; omega) (Xz (by rw [List.length_append, lA, lF]; omega) lZ2) rfl ?_; refine nK hK18 (sR fun _ hK19 => ?_); refine LS 2 [] rfl rfl (nK hK19 ?_); refine Jb (Jd ?_); refine pT rfl rfl rfl fun w1 hs1 => ?_; exact ⟨⟨some (r2, cap2, sp2), by simp only [List.length_append]; omega, hsp2⟩, rfl, hs1.weakL (by simp [JV])⟩
        · try simp only [ZZ] at h15
          refine Jg (hK13 ?_); refine sR fun _ hK20 => LS 3 [] rfl rfl ?_
          refine JY rfl ?_; refine Jy (show _ = Value.int .i64 ((n + 1 : Nat) : Int) from by rw [wrap_i64 (by omega) (by omega)]; congr 1 <;> omega) ?_
          refine LR rfl (JR (sz := 2) (q := n + 1) (kl := none) (kh := some (n + 1)) (km := none) (m := 0) (z := cap) (off' := 0) rfl rfl rfl trivial ⟨_, rfl⟩ trivial rfl rfl rfl (by omega) (by omega) (by omega) (fun h => by cases h) (by split <;> omega)) ?_; refine Ji rfl (nK hK20 ?_); refine sQ fun _ hK21 => sR fun _ hK22 => ?_; refine LS 4 [] rfl rfl ?_
          refine JY rfl ?_; refine Jy (show _ = Value.int .i64 ((i + 1 : Nat) : Int) from by rw [wrap_i64 (by omega) (by omega)]; congr 1 <;> omega) ?_; refine LR rfl (JR (sz := 2) (m := i + 1) (kl := some (i + 1)) (kh := none) (km := none) (q := n + 1) (z := cap) (off' := (i + 1) * 2) rfl rfl rfl ⟨_, rfl⟩ trivial trivial rfl rfl rfl (by omega) (by omega) (by omega) (fun _ => rfl) (by rw [if_neg (by omega)]; omega)) ?_; refine LR rfl (vi (k := 0) rfl rfl rfl hv rfl rfl rfl (by simp only [List.size_toArray, List.length_append]; omega) Tryz.func111 rfl rfl rfl rfl) ?_; refine JY rfl (nK hK22 ?_); refine Jc rfl (fun h23 => ?_) (fun h23 => ?_)
          · try simp only [ZZ] at h23
            refine sQ fun _ hK24 => ?_; refine Kc 8 (by kernel_rfl) (by kernel_rfl) ?_; refine Jl rfl rfl rfl (Jp rfl) ?_; refine Jl rfl rfl rfl (Jp rfl) ?_; refine Jl rfl rfl rfl (Jp rfl) ?_
            refine Jl rfl rfl rfl (JA rfl rfl rfl) ?_; refine QC (show _ = Value.int .i64 ((i + 1 : Nat) : Int) from by rw [wrap_i64 (by omega) (by omega)]; congr 1 <;> omega) ?_; refine Jl rfl rfl rfl (JR (sz := 2) (m := i + 1) (kl := some (i + 1)) (kh := none) (km := none) (q := n + 1) (z := cap) (off' := (i + 1) * 2) rfl rfl rfl ⟨_, rfl⟩ trivial trivial rfl rfl rfl (by omega) (by omega) (by omega) (fun _ => rfl) (by rw [if_neg (by omega)]; omega)) ?_; refine Jl rfl rfl rfl (Jp rfl) ?_; refine Jl rfl rfl rfl (Jp rfl) ?_; refine Jl rfl rfl rfl (JR (sz := 2) (m := i) (kl := some (i)) (kh := none) (km := none) (q := n + 1) (z := cap) (off' := i * 2) rfl rfl rfl ⟨_, rfl⟩ trivial trivial rfl rfl rfl (by omega) (by omega) (by omega) (fun _ => rfl) (by rw [if_neg (by omega)]; omega)) ?_; refine KA ?_
            obtain ⟨X1, X2, hX, lX1⟩ := cut (l := B ++ sp) (a := 2) (by rw [List.length_append]; omega)
            obtain ⟨X3, X4, rfl, lX3⟩ := cut (l := X2) (a := (n - i) * 2) (by have := congrArg List.length hX; simp only [List.length_append] at this; omega)
            rw [show (A ++ B) ++ sp = (A ++ X1) ++ (X3 ++ X4) by rw [List.append_assoc, hX]; simp only [List.append_assoc]]
            refine XR (k := 0) (n := n - i) (sz := 2) (vs := B) (cs' := (A ++ X1) ++ (B ++ X4)) rfl rfl rfl rfl rfl (kn 0 rfl) rfl rfl (by simp only [Nat.min_def]; split <;> omega) (by simp only [List.toList_toArray]; rw [List.append_assoc, List.drop_left' lA, ← hX, List.take_left' lB]) lB oB (by have := congrArg List.length hX; simp only [List.size_toArray, List.length_append] at this ⊢; omega) (Xz (by rw [List.length_append, lA, lX1]; omega) lX3) rfl ?_; refine nK hK24 (sR fun _ hK25 => ?_); refine LS 2 [] rfl rfl ?_; refine LR rfl (JR (sz := 2) (m := i) (kl := some (i)) (kh := none) (km := none) (q := n + 1) (z := cap) (off' := i * 2) rfl rfl rfl ⟨_, rfl⟩ trivial trivial rfl rfl rfl (by omega) (by omega) (by omega) (fun _ => rfl) (by rw [if_neg (by omega)]; omega)) ?_; refine Ji rfl ?_; rw [show (A ++ X1) ++ (B ++ X4) = A ++ (X1 ++ (B ++ X4)) by simp only [List.append_assoc]]
            refine XR (k := 0) (n := 1) (sz := 2) (vs := QY y) (cs' := A ++ (QY y ++ (B ++ X4))) rfl rfl rfl rfl rfl (Or.inr hv) rfl rfl (by simp only [Nat.min_def]; split <;> omega) rfl lF oF (by simp only [List.size_toArray, List.length_append]; omega) (Xz lA (by rw [lX1])) rfl ?_; refine nK hK25 (sR fun _ hK26 => ?_); refine LS 2 [] rfl rfl (nK hK26 ?_); refine Jb (Jd ?_); refine pT rfl rfl rfl fun w1 hs1 => ?_; exact ⟨⟨some (r, cap, X4), by simp only [List.length_append]; omega, by have := congrArg List.length hX; simp only [List.length_append] at this; omega⟩, rfl, by simpa [JV] using hs1⟩
          · try exact Bool.noConfusion h23
theorem Jt7 {R : Jo} {xs : List AcL} {p : Pl} (hl : xs.length ≤ 1000) (hs : Seg R xs.length (xs.flatMap AcL.cells) p) (hso : KG AcL.addr xs) (y : AcL) :
    PureT (α := { row : V5 // rowOk 8 (QF AcL.addr y xs).length ((QF AcL.addr y xs).flatMap AcL.cells) row }) Tryz.prog 46 [KP xs.length p, vA y, fV 39].toArray (fun x => JD (QF AcL.addr y xs).length x.1) [] (fun x => JV 34 ((QF AcL.addr y xs).flatMap AcL.cells) x.1) R := by
  have hins := Jn3 (x := y) hso
  obtain ⟨j, hj⟩ : ∃ j, j = jy AcL.addr (AcL.addr y) xs := ⟨_, rfl⟩
  have hjl : j ≤ xs.length := hj ▸ Jn1 _ _
  have hpl := Jqf (k := AcL.addr y) hl hs hso
  have hlt : VZ AcL.addr (AcL.addr y) xs = true → j < xs.length := fun h => hj ▸ Jdj h
  rw [← hj] at hins hpl
  obtain ⟨b, hb⟩ : ∃ b, b = VZ AcL.addr (AcL.addr y) xs := ⟨_, rfl⟩
  rw [← hb] at hins hpl hlt; clear hj hb; refine JI Tryz.func46 rfl rfl fun w => ?_; refine sR fun K1 hK1 => ?_; refine LN rfl fun r1 => ?_; refine Ji rfl (nK hK1 ?_); clear hK1 K1; refine sR fun K2 hK2 => LS 3 [0] rfl rfl ?_; refine JF rfl rfl rfl Jrq (Jbl y) ?_; refine Ji rfl (Jh rfl rfl rfl (enters_of Tryz.func70 (by kernel_rfl) rfl) hpl (fun q hq => Or.inr hq) (LS 5 [] rfl rfl ?_)); refine nK hK2 ?_; clear hK2 K2; refine sR fun K3 hK3 => Ji rfl (Qd rfl rfl rfl (enters_of Tryz.func71 (by kernel_rfl) rfl) (Jqh hl hs) (fun q hq => Or.inr hq) fun x => ?_)
  obtain ⟨row, hrow⟩ := x
  change HL _ _ ((20, JD xs.length row) :: _) (JV 34 (xs.flatMap AcL.cells) row ++ [(r1, _)]) _ _ _ _; refine Ji rfl (nK hK3 ?_); clear hK3 K3; refine sQ fun K4 hK4 => sR fun K5 hK5 => ?_; refine Ji rfl (nK hK5 ?_); clear hK5 K5; refine Jc rfl (fun h6 => ?_) (fun h6 => ?_)
  try simp only [ZZ] at h6
  refine sQ fun K7 hK7 => ?_
  have hltb := hlt (by assumption)
  obtain ⟨r2, cap2, sp2, rfl⟩ := row_some hrow (by omega)
  change HC _ _ _ [(r2, .cells (xs.flatMap AcL.cells ++ sp2).toArray 34 (0, 0)), (r1, _)] _ _ _; refine Ja (LS 2 [] rfl rfl (LR rfl (Jw (vs := AcL.cells y) rfl (kn 1 rfl) rfl rfl rfl rfl) ?_)); refine LR rfl (Kj (j := j) (m := 8) rfl rfl rfl rfl rfl (by omega) rfl) ?_; refine Vb (k := 0) (n := 8) (vs := (AcL.cells y).toArray) (cs' := ((xs.set j y).flatMap AcL.cells ++ sp2).toArray) rfl rfl rfl rfl rfl rfl (AcL.one y) (by have := hrow.1; simp only [List.size_toArray, List.length_append, KT AcL.len]; omega) (by apply Array.toList_inj.1; simp only [List.toList_toArray, Nat.zero_add]; exact Jh4 AcL.len hltb y sp2) rfl ?_; refine nK hK7 ?_; clear hK7 K7; refine sR fun K8 hK8 => LS 2 [] rfl rfl (nK hK8 ?_); clear hK8 K8; refine Jb (Jd ?_); clear hK4 K4; refine pT rfl rfl rfl fun w1 hs1 => ?_
  (rw [if_pos (by assumption)] at hins
   rw [hins, List.length_set]
   exact ⟨⟨some (r2, cap2, sp2), hrow.same (by rw [KT AcL.len, KT AcL.len, List.length_set])⟩, rfl, hs1.weakL (by simp [JV])⟩)
  · try simp only [ZZ] at h6
    refine Jg (hK4 ?_); clear hK4 K4; refine sR fun K9 hK9 => LS 2 [] rfl rfl ?_; refine LR rfl (Jw (vs := AcL.cells y) rfl (Or.inl (List.mem_append_right _ List.mem_cons_self)) rfl rfl rfl rfl) ?_; refine Ki (n := 1) (sz := 8) (vs := [_]) (zs := [_, _, _, _, _, _, _, _]) (r := AcL.cells y) rfl rfl rfl rfl rfl rfl rfl rfl rfl (by rw [Kv]; exact rfl) rfl fun rv => ?_; refine Vu (T := JV 34 (xs.flatMap AcL.cells) row) (L0 := [(rv, _), (r1, _)]) (Rl := [(rv, Obj.cells (AcL.cells y).toArray 34 (0, 0))]) (by exact List.perm_middle.symm) rfl rfl rfl (enters_of Tryz.func72 (by kernel_rfl) rfl) (Jk3 (i := j) (y := y) hl hrow hjl List.mem_cons_self) (fun q hq => Or.inl (by rw [List.mem_singleton.1 hq]; exact List.mem_cons_self)) fun x => ?_
    obtain ⟨row2, hrow2⟩ := x
    refine Ji rfl (nK hK9 ?_); clear hK9 K9; refine Jb (pT rfl rfl rfl fun w1 hs1 => ?_)
    (rw [if_neg (by simp_all)] at hins
     have hln : (xs.take j ++ y :: xs.drop j).length = xs.length + 1 := by simp only [List.length_append, List.length_take, List.length_cons, List.length_drop]; omega
     rw [hins, hln]
     exact ⟨⟨row2, hrow2⟩, rfl, hs1.weakL (List.sublist_append_left _ _)⟩)
theorem Jt8 {R : Jo} {xs : List (BS × BS)} {p : Pl} (hl : xs.length ≤ 1000) (hs : Seg R xs.length (xs.flatMap QY) p) (hso : KG Prod.fst xs) (y : (BS × BS)) :
    PureT (α := { row : V5 // rowOk 2 (QF Prod.fst y xs).length ((QF Prod.fst y xs).flatMap QY) row }) Tryz.prog 47 [KP xs.length p, vS y, fV 48].toArray (fun x => JD (QF Prod.fst y xs).length x.1) [] (fun x => JV 59 ((QF Prod.fst y xs).flatMap QY) x.1) R := by
  have hins := Jn3 (x := y) hso
  obtain ⟨j, hj⟩ : ∃ j, j = jy Prod.fst (Prod.fst y) xs := ⟨_, rfl⟩
  have hjl : j ≤ xs.length := hj ▸ Jn1 _ _
  have hpl := Jqg (k := Prod.fst y) hl hs hso
  have hlt : VZ Prod.fst (Prod.fst y) xs = true → j < xs.length := fun h => hj ▸ Jdj h
  rw [← hj] at hins hpl
  obtain ⟨b, hb⟩ : ∃ b, b = VZ Prod.fst (Prod.fst y) xs := ⟨_, rfl⟩
  rw [← hb] at hins hpl hlt; clear hj hb; refine JI Tryz.func47 rfl rfl fun w => ?_; refine sR fun K1 hK1 => ?_; refine LN rfl fun r1 => ?_; refine Ji rfl (nK hK1 ?_); clear hK1 K1; refine sR fun K2 hK2 => LS 3 [0] rfl rfl ?_; refine JF rfl rfl rfl Jrr (Jbm y) ?_; refine Ji rfl (Jh rfl rfl rfl (enters_of Tryz.func73 (by kernel_rfl) rfl) hpl (fun q hq => Or.inr hq) (LS 5 [] rfl rfl ?_)); refine nK hK2 ?_; clear hK2 K2; refine sR fun K3 hK3 => Ji rfl (Qd rfl rfl rfl (enters_of Tryz.func74 (by kernel_rfl) rfl) (Jqi hl hs) (fun q hq => Or.inr hq) fun x => ?_)
  obtain ⟨row, hrow⟩ := x
  change HL _ _ ((20, JD xs.length row) :: _) (JV 59 (xs.flatMap QY) row ++ [(r1, _)]) _ _ _ _; refine Ji rfl (nK hK3 ?_); clear hK3 K3; refine sQ fun K4 hK4 => sR fun K5 hK5 => ?_; refine Ji rfl (nK hK5 ?_); clear hK5 K5; refine Jc rfl (fun h6 => ?_) (fun h6 => ?_)
  try simp only [ZZ] at h6
  refine sQ fun K7 hK7 => ?_
  have hltb := hlt (by assumption)
  obtain ⟨r2, cap2, sp2, rfl⟩ := row_some hrow (by omega)
  change HC _ _ _ [(r2, .cells (xs.flatMap QY ++ sp2).toArray 59 (0, 0)), (r1, _)] _ _ _; refine Ja (LS 2 [] rfl rfl (LR rfl (Jw (vs := QY y) rfl (kn 1 rfl) rfl rfl rfl rfl) ?_)); refine LR rfl (Kj (j := j) (m := 2) rfl rfl rfl rfl rfl (by omega) rfl) ?_; refine Vb (k := 0) (n := 2) (vs := (QY y).toArray) (cs' := ((xs.set j y).flatMap QY ++ sp2).toArray) rfl rfl rfl rfl rfl rfl (jO y) (by have := hrow.1; simp only [List.size_toArray, List.length_append, KT Kn]; omega) (by apply Array.toList_inj.1; simp only [List.toList_toArray, Nat.zero_add]; exact Jh4 Kn hltb y sp2) rfl ?_; refine nK hK7 ?_; clear hK7 K7; refine sR fun K8 hK8 => LS 2 [] rfl rfl (nK hK8 ?_); clear hK8 K8; refine Jb (Jd ?_); clear hK4 K4; refine pT rfl rfl rfl fun w1 hs1 => ?_
  (rw [if_pos (by assumption)] at hins
   rw [hins, List.length_set]
   exact ⟨⟨some (r2, cap2, sp2), hrow.same (by rw [KT Kn, KT Kn, List.length_set])⟩, rfl, hs1.weakL (by simp [JV])⟩)
  · try simp only [ZZ] at h6
    refine Jg (hK4 ?_); clear hK4 K4; refine sR fun K9 hK9 => LS 2 [] rfl rfl ?_; refine LR rfl (Jw (vs := QY y) rfl (Or.inl (List.mem_append_right _ List.mem_cons_self)) rfl rfl rfl rfl) ?_; refine Ki (n := 1) (sz := 2) (vs := [_]) (zs := [_, _]) (r := QY y) rfl rfl rfl rfl rfl rfl rfl rfl rfl (by rw [Kv]; exact rfl) rfl fun rv => ?_; refine Vu (T := JV 59 (xs.flatMap QY) row) (L0 := [(rv, _), (r1, _)]) (Rl := [(rv, Obj.cells (QY y).toArray 59 (0, 0))]) (by exact List.perm_middle.symm) rfl rfl rfl (enters_of Tryz.func75 (by kernel_rfl) rfl) (Jk4 (i := j) (y := y) hl hrow hjl List.mem_cons_self) (fun q hq => Or.inl (by rw [List.mem_singleton.1 hq]; exact List.mem_cons_self)) fun x => ?_
    obtain ⟨row2, hrow2⟩ := x
    refine Ji rfl (nK hK9 ?_); clear hK9 K9; refine Jb (pT rfl rfl rfl fun w1 hs1 => ?_)
    (rw [if_neg (by simp_all)] at hins
     have hln : (xs.take j ++ y :: xs.drop j).length = xs.length + 1 := by simp only [List.length_append, List.length_take, List.length_cons, List.length_drop]; omega
     rw [hins, hln]
     exact ⟨⟨row2, hrow2⟩, rfl, hs1.weakL (List.sublist_append_left _ _)⟩)
theorem Jt9 (x : BS × BS) : vy x = (((x.1.length : Int) != 32) || ((x.2.length : Int) != 32)) := by
  have key : ∀ n : Nat, decide (n ≠ 32) = ((n : Int) != 32) := fun n => by
    by_cases h : n = 32
    · subst h; rfl
    · have h2 : ¬ (n : Int) = 32 := by omega
      simp [h, h2]
  unfold vy
  rw [key, key]
theorem Jzf (x : BS × BS) : Pure Tryz.prog 65 [vS x].toArray (.bool (vy x)) := by
  refine JG Tryz.func65 rfl rfl fun w => ?_; refine sR fun K1 hK1 => ?_; refine LN rfl fun r1 => ?_; refine Ji rfl (nK hK1 ?_); clear hK1 K1; refine sR fun K2 hK2 => ?_
  refine LS 2 [0] rfl rfl ?_; refine LR rfl (Ke rfl rfl) ?_; refine LS 2 [] rfl rfl ?_
  refine J6 7 rfl (fun hb3 => ?_) (fun hb3 => ?_) <;> (try simp only [ZZ] at hb3) <;> first | (refine LR rfl (JM rfl rfl rfl) ?_) | (refine LK rfl ?_)
  all_goals refine LW 1 [0] rfl rfl ?_
  all_goals first
    | (refine LR rfl (Ke rfl rfl) ?_)
    | (refine LK rfl ?_)
  all_goals refine LW 3 [] rfl rfl ?_
  all_goals refine Jf ?_
  all_goals (
   refine hK2 ?_; clear hK2 K2; refine Jb (pT rfl rfl rfl fun w1 hs1 => ?_); refine ⟨?_, hs1.keep⟩; rw [Jt9]
   simp_all [JN]
   skip)
theorem Jua (x : BS × BS) : Pure Tryz.prog 66 [vS x].toArray (.bool (XY x)) := by
  refine JG Tryz.func66 rfl rfl fun w => ?_; refine sR fun _ hK1 => ?_; refine LN rfl fun r1 => ?_; refine Ji rfl (nK hK1 ?_); refine sQ fun _ hK2 => ?_; refine Kc 5 (by kernel_rfl) (by kernel_rfl) ?_
  refine Jl rfl rfl rfl (JM rfl rfl rfl) ?_; refine Jl rfl rfl rfl (Jk rfl (kn 0 rfl) rfl rfl) ?_; refine QB rfl rfl rfl Jv6 Jgi ?_; refine Jl rfl rfl rfl (VD rfl rfl) ?_; refine Jl rfl rfl rfl (JO rfl) ?_; refine KA ?_; refine nK hK2 (Jb ?_); refine pT rfl rfl rfl fun w1 hs1 => ?_; exact ⟨rfl, hs1.keep⟩
theorem vq {R : Jo} {xs : List (BS × BS)} {p : Pl} (hl : xs.length ≤ 9223372036854775807) (hs : Seg R xs.length (xs.flatMap QY) p) {g : FuncId} {caps : List Value} {pr : BS × BS → Bool} (eg : Enters Tryz.prog g) (hg : ∀ x ∈ xs, PureR Tryz.prog g (vS x :: caps).toArray (.bool (pr x)) R) :
    PureR Tryz.prog 67 [KP xs.length p, .func (.func g) #[] caps.toArray].toArray (.bool (xs.any pr)) R := by
  have h := yO hl hs eg hg
  refine Je Tryz.func67 rfl rfl fun w => ?_; refine sR fun _ hK1 => Ji rfl (nK hK1 ?_); refine sR fun _ hK2 => LS 2 [] rfl rfl ?_; refine Jh rfl rfl rfl Jv5 h (fun q hq => Or.inr hq) ?_; refine JY rfl (Jy (congrArg Value.bool Jsy) (Ji rfl ?_)); refine nK hK2 (Jb ?_); refine pT rfl rfl rfl fun w1 hs1 => ?_; exact ⟨rfl, hs1.keep⟩
theorem Jgj {R : Jo} {a : AcL} (ha : a.In R) : PureR Tryz.prog 37 [a.val].toArray (.int .i64 (Yy a.er)) R := by
  have h1 := vq (g := 65) (caps := []) ha.len ha.seg (enters_of Tryz.func65 (by kernel_rfl) rfl) (fun x _ => (Jzf x).toR)
  have h2 := vq (g := 66) (caps := []) ha.len ha.seg (enters_of Tryz.func66 (by kernel_rfl) rfl) (fun x _ => (Jua x).toR)
  have h3 := Jqd ha.len ha.seg
  have hl := ha.len
  have hseg := ha.seg
  have hE : Yy a.er = if ¬ ((a.addr.length : Int) = 20) ∨ a.slots.any vy = true then 2 else if Vr Prod.fst a.slots = false then 11 else if (512 < (a.code.length : Int)) ∨ (16 < (a.slots.length : Int)) then 5 else if a.slots.any XY = true then 8 else 0 := by
    exact ite_congr (propext (or_congr (by show ¬ a.addr.length = 20 ↔ _; omega) Iff.rfl)) (fun _ => rfl) (fun _ => ite_congr rfl (fun _ => rfl) (fun _ => ite_congr (propext (or_congr (by show a.code.length > 512 ↔ _; omega) (by show a.slots.length > 16 ↔ _; omega))) (fun _ => rfl) (fun _ => rfl)))
  rw [hE]; clear hE
  generalize a.slots.any vy = oB at h1 ⊢
  generalize a.slots.any XY = sBo at h2 ⊢
  generalize Vr Prod.fst a.slots = rB at h3 ⊢
  refine Je Tryz.func37 rfl rfl fun w => ?_; refine sR fun K1 hK1 => ?_; refine LN rfl fun r1 => ?_; refine Ji rfl (nK hK1 ?_); clear hK1 K1; refine sR fun K2 hK2 => Ji rfl (nK hK2 ?_); clear hK2 K2; refine sR fun K3 hK3 => Ji rfl (nK hK3 ?_); clear hK3 K3; refine sB fun K4 hK4 => sR fun K5 hK5 => ?_
  refine LS 2 [0] rfl rfl ?_; refine LR rfl (Ke rfl rfl) ?_; refine LS 2 [] rfl rfl ?_
  refine J6 10 rfl (fun hb6 => ?_) (fun hb6 => ?_) <;> (try simp only [ZZ] at hb6) <;> first | (refine LR rfl (JM rfl rfl rfl) ?_) | (refine LK rfl ?_)
  all_goals refine LW 2 [0] rfl rfl ?_
  all_goals first
    | (refine Jh rfl rfl rfl (enters_of Tryz.func67 (by kernel_rfl) rfl) h1 (fun q hq => Or.inr hq) ?_)
    | (refine LK rfl ?_)
  all_goals refine LW 2 [] rfl rfl ?_
  all_goals refine Jf ?_
  all_goals (
   refine hK5 ?_; clear hK5 K5; refine Jc rfl (fun h10 => ?_) (fun h10 => ?_)
   try simp only [ZZ] at h10
   refine sR fun K11 hK11 => Ji rfl (nK hK11 ?_); clear hK11 K11; refine Jb (Jn (Jd ?_)); clear hK4 K4; refine pT rfl rfl rfl fun w1 hs1 => ?_; refine ⟨?_, hs1.keep⟩; simp only [JN]
   simp_all
   · try exact Bool.noConfusion h10
     all_goals try simp only [ZZ] at h10
     all_goals (
      refine sR fun K12 hK12 => ?_
      refine LS 2 [0] rfl rfl ?_; refine Jh rfl rfl rfl (enters_of Tryz.func68 (by kernel_rfl) rfl) h3 (fun q hq => Or.inr hq) ?_; refine LS 2 [] rfl rfl (nK hK12 ?_); clear hK12 K12; refine Jc rfl (fun h13 => ?_) (fun h13 => ?_)
      try simp only [ZZ] at h13
      refine sR fun K14 hK14 => Ji rfl (nK hK14 ?_); clear hK14 K14; refine Jb (Jn (Jd ?_)); clear hK4 K4; refine pT rfl rfl rfl fun w1 hs1 => ?_; refine ⟨?_, hs1.keep⟩; simp only [JN]
      simp_all
      · try simp only [ZZ] at h13
        refine sR fun K15 hK15 => ?_
        refine LS 2 [0] rfl rfl ?_; refine LR rfl (Ke rfl rfl) ?_; refine LS 2 [] rfl rfl ?_
        refine J6 26 rfl (fun hb16 => ?_) (fun hb16 => ?_) <;> (try simp only [ZZ] at hb16) <;> first | (refine LR rfl (JM rfl rfl rfl) ?_) | (refine LK rfl ?_)
        all_goals refine LW 1 [0] rfl rfl ?_
        all_goals first
          | (refine LR rfl (J4 rfl hseg rfl) ?_)
          | (refine LK rfl ?_)
        all_goals refine LW 3 [] rfl rfl ?_
        all_goals refine Jf ?_
        all_goals (
         refine hK15 ?_; clear hK15 K15; refine Jc rfl (fun h20 => ?_) (fun h20 => ?_)
         try simp only [ZZ] at h20
         refine sR fun K21 hK21 => Ji rfl (nK hK21 ?_); clear hK21 K21; refine Jb (Jn (Jd ?_)); clear hK4 K4; refine pT rfl rfl rfl fun w1 hs1 => ?_; refine ⟨?_, hs1.keep⟩; simp only [JN]
         simp_all
         · try exact Bool.noConfusion h20
           all_goals try simp only [ZZ] at h20
           all_goals (
            refine sR fun K22 hK22 => ?_
            refine LS 3 [0] rfl rfl ?_; refine Jh rfl rfl rfl (enters_of Tryz.func67 (by kernel_rfl) rfl) h2 (fun q hq => Or.inr hq) ?_; refine Ji rfl (nK hK22 ?_); clear hK22 K22; refine Jc rfl (fun h23 => ?_) (fun h23 => ?_)
            try simp only [ZZ] at h23
            refine sR fun K24 hK24 => Ji rfl (nK hK24 ?_); clear hK24 K24; refine Jb (Jn (Jd ?_)); clear hK4 K4; refine pT rfl rfl rfl fun w1 hs1 => ?_; refine ⟨?_, hs1.keep⟩; simp only [JN]
            simp_all
            try simp only [ZZ] at h23
            refine Jg (Jj (hK4 ?_)); clear hK4 K4; refine sR fun K25 hK25 => Ji rfl (nK hK25 ?_); clear hK25 K25; refine Jb (pT rfl rfl rfl fun w1 hs1 => ?_); refine ⟨?_, hs1.keep⟩; simp only [JN]
            simp_all
            skip)
         skip)
      skip)
   skip)
theorem Jub {R : Jo} {rb e : Nat} {k : BS} (hb : (rb, Obj.cells #[J3 k] e (0, 0)) ∈ R) (a : AcL) : PureR Tryz.prog 35 [vA a, .pointer (some ⟨rb, 0, none⟩)].toArray (.bool (decide (a.addr = k))) R := by
  refine Je Tryz.func35 rfl rfl fun w => ?_; refine sR fun _ hK1 => ?_; refine LN rfl fun r1 => ?_; refine Ji rfl (nK hK1 ?_); refine sR fun _ hK2 => ?_
  refine LS 2 [0] rfl rfl ?_; refine LR rfl (Jk rfl (Or.inr hb) rfl rfl) ?_; refine LR rfl (VD rfl rfl) ?_; refine Ji rfl (nK hK2 ?_); refine Jb (pT rfl rfl rfl fun w1 hs1 => ?_); exact ⟨rfl, hs1.keep⟩
theorem Juc {R : Jo} {rb e : Nat} {k : BS} (hb : (rb, Obj.cells #[J3 k] e (0, 0)) ∈ R) (x : BS × BS) : PureR Tryz.prog 41 [vS x, .pointer (some ⟨rb, 0, none⟩)].toArray (.bool (decide (x.1 = k))) R := by
  refine Je Tryz.func41 rfl rfl fun w => ?_; refine sR fun _ hK1 => ?_; refine LN rfl fun r1 => ?_; refine Ji rfl (nK hK1 ?_); refine sR fun _ hK2 => ?_
  refine LS 2 [0] rfl rfl ?_; refine LR rfl (Jk rfl (Or.inr hb) rfl rfl) ?_; refine LR rfl (VD rfl rfl) ?_; refine Ji rfl (nK hK2 ?_); refine Jb (pT rfl rfl rfl fun w1 hs1 => ?_); exact ⟨rfl, hs1.keep⟩
theorem Jxl {R : Jo} {rb e : Nat} {k : BS} (hb : (rb, Obj.cells #[J3 k] e (0, 0)) ∈ R) (x : BS × BS) : PureR Tryz.prog 50 [vS x, .pointer (some ⟨rb, 0, none⟩)].toArray (.bool (decide (x.1 = k))) R := by
  refine Je Tryz.func50 rfl rfl fun w => ?_; refine sR fun _ hK1 => ?_; refine LN rfl fun r1 => ?_; refine Ji rfl (nK hK1 ?_); refine sR fun _ hK2 => ?_
  refine LS 2 [0] rfl rfl ?_; refine LR rfl (Jk rfl (Or.inr hb) rfl rfl) ?_; refine LR rfl (VD rfl rfl) ?_; refine Ji rfl (nK hK2 ?_); refine Jb (pT rfl rfl rfl fun w1 hs1 => ?_); exact ⟨rfl, hs1.keep⟩
theorem Jxm {R : Jo} {s : StL} (hs : s.In R) (k : BS) : PureR Tryz.prog 14 [s.val, J3 k].toArray (.tuple #[(Wl s k).val, .bool (WX s k)]) R := by
  have hl := hs.len
  have hseg := hs.seg
  refine Je Tryz.func14 rfl rfl fun w => ?_; refine sR fun _ hK1 => ?_; refine LN rfl fun r1 => ?_; refine LN rfl fun r2 => ?_; refine LN rfl fun r3 => ?_; refine Ji rfl (nK hK1 ?_); refine sR fun _ hK2 => ?_
  refine LS 2 [2] rfl rfl ?_; refine LR rfl (Ku rfl rfl) ?_; refine Jh (Rl := (r2, Obj.cells #[J3 k] 9 (0, 0)) :: R) rfl rfl rfl (enters_of Tryz.func34 (by kernel_rfl) rfl) (Jqb (caps := [.pointer (some ⟨r2, 0, none⟩)]) (pr := fun a => decide (a.addr = k)) hl (hseg.mono fun q hq => List.mem_cons_of_mem _ hq) (enters_of Tryz.func35 (by kernel_rfl) rfl) (fun a _ => Jub List.mem_cons_self a)) (fun q hq => (List.mem_cons.1 hq).elim (fun h => Or.inl (by rw [h]; simp)) Or.inr) ?_; refine Ji rfl (nK hK2 ?_); refine sQ fun _ hK3 => sR fun _ hK4 => ?_; refine LS 2 [] rfl rfl (nK hK4 ?_); refine Jc rfl (fun h5 => ?_) (fun h5 => ?_)
  try simp only [ZZ] at h5
  refine sQ fun _ hK6 => ?_
  have hf := wY (by assumption)
  refine Ja (LR rfl (JK (r := [_, _, _, _, _, _, _, _]) rfl rfl) ?_)
  refine LT 0 rfl rfl (Ji rfl ?_); refine nK hK6 (Jb (Jd ?_)); refine Jt rfl rfl (.cons (J9 (vs := [_, _, _, _, _, _, _, _]) rfl (kn 0 rfl) rfl rfl) (.cons (J1 rfl) .nil)) (fun w1 hs1 => ?_); refine ⟨?_, hs1.keep⟩; rw [(zJ hf).1, (zJ hf).2]; rfl
  · try simp only [ZZ] at h5
    refine Jg (hK3 ?_); refine sQ fun _ hK7 => ?_
    obtain ⟨i, a, hidx, ha, hf⟩ := Jh2 (by assumption)
    refine Ja (LS 3 [2] rfl rfl ?_)
    refine LR rfl (Jr (j := i) rfl hseg rfl rfl rfl (by first | rfl | omega) (by have := (List.getElem?_eq_some_iff.1 ha).1; omega)) ?_; refine LR rfl (KL AcL.len (fun q hq => Or.inr hq) rfl hseg ha rfl rfl) ?_
    refine LT 0 rfl rfl (Ji rfl ?_); refine nK hK7 (Jb ?_); refine Jt rfl rfl (.cons (J9 (vs := [_, _, _, _, _, _, _, _]) rfl (kn 0 rfl) rfl rfl) (.cons (J1 rfl) .nil)) (fun w1 hs1 => ?_); refine ⟨?_, hs1.keep⟩; rw [(Jdl hf).1, (Jdl hf).2]; rfl
theorem WC {R : Jo} {s : StL} (hs : s.In R) : PureR Tryz.prog 19 [s.val].toArray (.int .i64 (Qa s.er)) R := by
  have hl : s.accts.length ≤ 9223372036854775807 := hs.len
  have hseg := hs.seg
  obtain ⟨hc5, hcg⟩ := Js5 s
  refine Je Tryz.func19 rfl rfl fun w => ?_; refine sR fun K1 hK1 => ?_; refine LN rfl fun r1 => ?_; refine Ji rfl (nK hK1 ?_); clear hK1 K1; refine sQ fun K2 hK2 => sR fun K3 hK3 => ?_
  refine LS 2 [0] rfl rfl ?_; refine LR rfl (J4 rfl hseg rfl) ?_; refine JY rfl (nK hK3 ?_); clear hK3 K3; refine Jc rfl (fun h4 => ?_) (fun h4 => ?_)
  try simp only [ZZ] at h4
  refine sR fun K5 hK5 => Ji rfl (nK hK5 ?_); clear hK5 K5; refine Jb (Jd ?_); clear hK2 K2; refine pT rfl rfl rfl fun w1 hs1 => ?_; refine ⟨?_, hs1.keep⟩; rw [hc5 (by assumption)]; rfl
  · try simp only [ZZ] at h4
    refine Jg (hK2 ?_); clear hK2 K2; refine sQ fun K6 hK6 => sR fun K7 hK7 => ?_
    refine LS 2 [0] rfl rfl ?_; refine LR rfl (J4 rfl hseg rfl) ?_; refine Ji rfl (nK hK7 ?_); clear hK7 K7; refine Js (JL (σ := Nat) (fun i => i ≤ s.accts.length ∧ goS (Yl s.er i) (s.er.drop i) = goS none s.er) (fun i => [(1, .pointer (some ⟨r1, 0, none⟩)), (11, KP s.accts.length s.p), (12, .int .i64 (s.accts.length : Int)), (13, .int .i64 (i : Int))]) (fun _ => [(r1, .cells s.cells.toArray 24 (0, 0))]) (fun _ _ _ => True) (fun i => s.accts.length - i) 0 ⟨Nat.zero_le _, rfl⟩ (.cons rfl (.cons rfl (.cons rfl (.cons rfl .nil)))) (List.Sublist.refl _) (fun _ _ h => h) ?_); rintro i ⟨hi1, hinv⟩; refine sR fun K8 hK8 => JY rfl (nK hK8 ?_); clear hK8 K8; refine sQ fun K9 hK9 => ?_; refine Jc rfl (fun h10 => ?_) (fun h10 => ?_)
    · try simp only [ZZ] at h10
      refine Jg (hK9 ?_); clear hK9 K9; refine sB fun K11 hK11 => sQ fun K12 hK12 => ?_
      obtain ⟨a, ha, hma⟩ := Vt (show i < s.accts.length by omega)
      rw [Js1 (YD ha)] at hinv; refine Ja (Ji rfl ?_)
      refine LR rfl (Jr (j := i) rfl hseg rfl rfl rfl (by first | rfl | omega) (by omega)) ?_; refine LR rfl (KL AcL.len (fun q hq => Or.inr hq) rfl hseg ha rfl rfl) ?_; refine LN rfl fun r2 => ?_; refine Ji rfl (Jz (k := 0) (n := 8) (ys := a.cells) rfl rfl rfl rfl rfl a.len rfl a.one rfl ?_); refine nK hK12 ?_; clear hK12 K12; refine sR fun K13 hK13 => ?_; refine LR rfl (Jq (xs := a.cells) (n := 8) rfl (kn 0 rfl) rfl rfl a.len) ?_; refine Jh rfl rfl rfl Jv4 (Jgj (hs.accts a hma)) (fun q hq => Or.inr hq) ?_; refine Ji rfl (nK hK13 ?_); clear hK13 K13; refine sQ fun K14 hK14 => sR fun K15 hK15 => ?_; refine LS 3 [] rfl rfl ?_
      refine J6 22 rfl (fun hb16 => ?_) (fun hb16 => ?_) <;> (try simp only [ZZ] at hb16) <;> first | (refine Ji rfl ?_) | (refine LK rfl ?_)
      all_goals refine LW 3 [] rfl rfl ?_
      all_goals first
        | (refine LK rfl ?_)
        | (refine J6 26 rfl (fun hb18 => ?_) (fun hb18 => ?_) <;> (try simp only [ZZ] at hb18) <;> first | (refine LR rfl (JM rfl rfl rfl) ?_) | (refine LK rfl ?_))
      all_goals refine LW 2 [1] rfl rfl ?_
      all_goals first
        | (refine JY rfl ?_; refine Ju (by omega) (by omega) ?_)
        | (refine LK rfl ?_)
      all_goals refine LW 1 [] rfl rfl ?_
      all_goals first
        | (refine JY rfl ?_; refine Ju (by omega) (by omega) ?_)
        | (refine LK rfl ?_)
      all_goals first
        | (obtain ⟨x, hx, hmx⟩ := Vt (show i - 1 < s.accts.length by omega); refine LR rfl (Jj8 (sz := 8) (a := i - 1) (b := i + 1) (m := 2) rfl hseg rfl rfl (by omega) (by omega) rfl rfl (by omega) (by omega) (by omega)) ?_; have hlast := Js4 hx (show i - 1 + 1 = i by omega))
        | (refine LK rfl ?_)
      all_goals first
        | (refine Jh rfl rfl rfl (enters_of Tryz.func38 (by kernel_rfl) rfl) (Jqc (xs := [x, a]) (show 2 ≤ 9223372036854775807 by decide) (hseg.two AcL.len hx ha (by omega))) (fun q hq => Or.inr hq) ?_; refine Jy (congrArg Value.bool (Jf4 x a)) ?_)
        | (refine LK rfl ?_)
      all_goals refine LW 2 [] rfl rfl ?_
      all_goals refine Jf ?_
      all_goals (
       refine hK15 ?_; clear hK15 K15; refine Jc rfl (fun h27 => ?_) (fun h27 => ?_)
       · try exact Bool.noConfusion h27
         all_goals try simp only [ZZ] at h27
         all_goals (
          refine Ja (Ji rfl ?_); refine nK hK14 ?_; clear hK14 K14; refine sQ fun K28 hK28 => ?_
          have hst : Ww (Yl s.er i) a.er = 11 ∨ Ww (Yl s.er i) a.er = Yy a.er := by unfold Ww; split <;> simp
          have hst : Ww (Yl s.er i) a.er = 11 := Js2 (by assumption) hlast (by assumption)
          rw [hst] at hinv; refine Ja (LS 2 [] rfl rfl ?_); refine nK hK28 ?_; clear hK28 K28; refine Jc rfl (fun h29 => ?_) (fun h29 => ?_)
          try simp only [ZZ] at h29
          refine sR fun K30 hK30 => LS 2 [] rfl rfl (nK hK30 ?_); clear hK30 K30; refine Jb (Jn (Jd ?_)); clear hK11 K11; refine Jd (Jn (Jd ?_)); clear hK6 K6; refine pT rfl rfl rfl fun w1 hs1 => ?_; refine ⟨?_, hs1.keep⟩; rw [hcg (by omega), ← hinv, if_pos (by simp_all)]; rfl
          try exact Bool.noConfusion h29
          skip)
       · try simp only [ZZ] at h27
         refine Jg (hK14 ?_); clear hK14 K14; refine sQ fun K31 hK31 => ?_
         have hst : Ww (Yl s.er i) a.er = 11 ∨ Ww (Yl s.er i) a.er = Yy a.er := by unfold Ww; split <;> simp
         have hst : Ww (Yl s.er i) a.er = Yy a.er := Js3 (by first | exact Or.inl (by assumption) | exact Or.inr (Or.inl (by rw [show i = 0 by omega]; rfl)) | exact Or.inr (Or.inr ⟨_, hlast, by assumption⟩))
         rw [hst] at hinv; refine Ja (LS 2 [] rfl rfl ?_); refine nK hK31 ?_; clear hK31 K31; refine Jc rfl (fun h32 => ?_) (fun h32 => ?_)
         try simp only [ZZ] at h32
         refine sR fun K33 hK33 => LS 2 [] rfl rfl (nK hK33 ?_); clear hK33 K33; refine Jb (Jn (Jd ?_)); clear hK11 K11; refine Jd (Jn (Jd ?_)); clear hK6 K6; refine pT rfl rfl rfl fun w1 hs1 => ?_; refine ⟨?_, hs1.keep⟩; rw [hcg (by omega), ← hinv, if_pos (by simp_all)]; rfl
         try simp only [ZZ] at h32
         refine Jg (Jj (hK11 ?_)); clear hK11 K11; refine Ja (JY rfl (Ju (by omega) (by omega) ?_)); refine Ji rfl (Jf (J8 ?_)); exact J2 (i + 1) ⟨by omega, by rw [if_neg (by simp_all)] at hinv; exact hinv⟩ (by omega) (.cons rfl (.cons rfl (.cons rfl (.cons rfl .nil)))) (List.sublist_cons_self _ _) (fun _ _ h => h)
       skip)
    · try simp only [ZZ] at h10
      refine JJ (Jm ?_); clear hK9 K9; refine Jm (J0 (hK6 ?_)); clear hK6 K6; refine sR fun K34 hK34 => Ji rfl (nK hK34 ?_); clear hK34 K34; refine Jb (pT rfl rfl rfl fun w1 hs1 => ?_); refine ⟨?_, hs1.keep⟩; rw [hcg (by omega), ← hinv, List.drop_of_length_le (by rw [s.er_len]; omega)]; rfl
theorem Jqj {R : Jo} {a : AcL} (ha : a.In R) (k : BS) : PureR Tryz.prog 20 [a.val, J3 k].toArray (J3 (Qn a.er k)) R := by
  have hl : a.slots.length ≤ 9223372036854775807 := ha.len
  have hseg := ha.seg
  refine Je Tryz.func20 rfl rfl fun w => ?_; refine sR fun _ hK1 => ?_; refine LN rfl fun r1 => ?_; refine LN rfl fun r2 => ?_; refine Ji rfl (nK hK1 ?_); refine sR fun _ hK2 => ?_
  refine LS 2 [1] rfl rfl ?_; refine LR rfl (Ku rfl rfl) ?_; refine Jh (Rl := (r2, Obj.cells #[J3 k] 9 (0, 0)) :: R) rfl rfl rfl Jv5 (yO (caps := [.pointer (some ⟨r2, 0, none⟩)]) (pr := fun x => decide (x.1 = k)) hl (hseg.mono fun q hq => List.mem_cons_of_mem _ hq) (enters_of Tryz.func41 (by kernel_rfl) rfl) (fun x _ => Juc List.mem_cons_self x)) (fun q hq => (List.mem_cons.1 hq).elim (fun h => Or.inl (by rw [h]; simp)) Or.inr) ?_; refine Ji rfl (nK hK2 ?_); refine sQ fun _ hK3 => sR fun _ hK4 => ?_; refine LS 2 [] rfl rfl (nK hK4 ?_); refine Jc rfl (fun h5 => ?_) (fun h5 => ?_)
  try simp only [ZZ] at h5
  refine sQ fun _ hK6 => ?_
  have hf := wY (by assumption)
  refine Ja (JF rfl rfl rfl Jv6 Jgi (Ji rfl ?_)); refine nK hK6 (Jb (Jd ?_)); refine pT rfl rfl rfl fun w1 hs1 => ?_; refine ⟨?_, hs1.keep⟩; rw [Jka (a := a.er) hf]; rfl
  · try simp only [ZZ] at h5
    refine Jg (hK3 ?_); refine sQ fun _ hK7 => ?_
    obtain ⟨i, x, hidx, hx, hf⟩ := Jh2 (by assumption)
    refine Ja (LS 3 [1] rfl rfl ?_)
    refine LR rfl (Jr (j := i) rfl hseg rfl rfl rfl (by first | rfl | omega) (by have := (List.getElem?_eq_some_iff.1 hx).1; omega)) ?_; refine LR rfl (Kz (off' := vN a.p + (i * 2 + 1)) rfl rfl (by show vN a.p + i * 2 + 1 = _; omega)) ?_; refine LR rfl (jQ Kn (k := 1) (v := J3 x.2) (fun q hq => Or.inr hq) rfl hseg hx rfl rfl) ?_; refine Ji rfl (nK hK7 ?_); refine Jb (pT rfl rfl rfl fun w1 hs1 => ?_); refine ⟨?_, hs1.keep⟩; rw [Jn5 (a := a.er) hf]; rfl
theorem Jqk {R : Jo} {xs : List (BS × BS)} {row : V5} (hl : xs.length ≤ 1000) (hrow : rowOk 2 xs.length (xs.flatMap QY) row) {g : FuncId} {caps : List Value} {pr : BS × BS → Bool} (eg : Enters Tryz.prog g) (hg : ∀ x ∈ xs, PureR Tryz.prog g (vS x :: caps).toArray (.bool (pr x)) R) :
    PureT (α := { row' : V5 // rowOk 2 (xs.filter fun x => !pr x).length ((xs.filter fun x => !pr x).flatMap QY) row' }) Tryz.prog 49 [JD xs.length row, .func (.func g) #[] caps.toArray].toArray (fun x => JD (xs.filter fun x => !pr x).length x.1) (JV 59 (xs.flatMap QY) row) (fun x => JV 59 ((xs.filter fun x => !pr x).flatMap QY) x.1) R := by
  have hseg := Ql (e := 59) hrow (by decide)
  have hV := Wm xs.length row (fun h => by subst h; exact hrow.1)
  have hidx := yO (R := JV 59 (xs.flatMap QY) row ++ R) (by omega) (hseg.mono fun q hq => List.mem_append_left _ hq) eg (fun x hx => (hg x hx).mono fun q hq => List.mem_append_right _ hq)
  rw [hV] at hidx
  obtain ⟨m, hm⟩ : ∃ m, m = YB pr xs := ⟨_, rfl⟩
  rw [← hm] at hidx; refine JI Tryz.func49 rfl rfl fun w => ?_; refine sR fun K1 hK1 => Ji rfl (nK hK1 ?_); clear hK1 K1; refine sR fun K2 hK2 => LS 2 [] rfl rfl ?_; refine Jh (Rl := JV 59 (xs.flatMap QY) row ++ R) rfl rfl rfl Jv5 hidx (fun q hq => (List.mem_append.1 hq).elim Or.inl Or.inr) ?_; refine Ji rfl (nK hK2 ?_); clear hK2 K2; refine sQ fun K3 hK3 => sR fun K4 hK4 => ?_; refine LS 2 [] rfl rfl (nK hK4 ?_); clear hK4 K4; refine Jc rfl (fun h5 => ?_) (fun h5 => ?_)
  try simp only [ZZ] at h5
  refine sR fun K6 hK6 => LS 2 [] rfl rfl (nK hK6 ?_); clear hK6 K6; refine Jb (Jd ?_); clear hK3 K3; refine pT rfl rfl rfl fun w1 hs1 => ?_
  (have hall := Js7 (pr := pr) (xs := xs) (by omega)
   rw [hall]
   exact ⟨⟨row, hrow⟩, rfl, hs1⟩)
  · try simp only [ZZ] at h5
    refine Jg (hK3 ?_); clear hK3 K3; refine sQ fun K7 hK7 => sQ fun K8 hK8 => ?_
    obtain ⟨i, e0⟩ : ∃ i : Nat, m = (i : Int) := by
      rcases wX (pr := pr) (xs := xs) with ⟨h, _⟩ | ⟨i, _, h, _⟩
      · unfold YB at hm h; split at hm <;> split at h <;> first | omega | simp_all
      exact ⟨i, hm.trans h⟩
    subst e0
    obtain ⟨hil, hif⟩ := Js6 hm.symm
    obtain ⟨r, cap, sp, rfl⟩ := row_some hrow (by omega)
    obtain ⟨hr1, hr2⟩ := hrow
    obtain ⟨x0, hx0, _⟩ := Vt hil
    have hsplit : xs.flatMap QY ++ sp = ((xs.take (i + 1)).filter fun x => !pr x).flatMap QY ++ (QY x0 ++ ((xs.drop (i + 1)).flatMap QY ++ sp)) := by
      rw [hif, ← List.append_assoc (QY x0), ← Jdm hx0, ← List.append_assoc, ← List.flatMap_append, List.take_append_drop]
    change HC _ _ _ [(r, .cells (xs.flatMap QY ++ sp).toArray 59 (0, 0))] _ _ _; rw [hsplit]
    have hcap : xs.length ≤ cap := by omega
    have hi1 : ((xs.take (i + 1)).filter fun x => !pr x).length = i := by rw [hif, List.length_take]; omega
    refine Ja (LS 2 [] rfl rfl (Ju (by omega) (by omega) ?_)); refine Ji rfl (nK hK8 ?_); clear hK8 K8; refine Js ?_; refine JL (σ := Nat × List Value) (fun s => s.1 ≤ xs.length ∧ ((xs.take s.1).filter fun x => !pr x).length < s.1 ∧ s.2.length + ((xs.take s.1).filter fun x => !pr x).length * 2 = s.1 * 2) (fun s => [(0, .slice (some ⟨r, 0, none⟩) xs.length cap), (1, .func (.func g) #[] caps.toArray), (5, .int .i64 (((xs.take s.1).filter fun x => !pr x).length : Nat)), (6, .int .i64 (s.1 : Int))]) (fun s => [(r, .cells (((xs.take s.1).filter fun x => !pr x).flatMap QY ++ (s.2 ++ ((xs.drop s.1).flatMap QY ++ sp))).toArray 59 (0, 0))]) (fun _ _ _ => True) (fun s => xs.length - s.1) (i + 1, QY x0) ⟨by simp only; omega, by simp only; omega, by simp only [Kn]; omega⟩ (.cons rfl (.cons rfl (.cons (by rw [hi1]; rfl) (.cons rfl .nil)))) (List.Sublist.refl _) (fun _ _ h => h) ?_; rintro ⟨j, G⟩ ⟨hj1, hj2, hG⟩; simp only at hj1 hj2 hG; change HC _ _ [(0, _), (1, _), (5, .int .i64 (((xs.take j).filter fun x => !pr x).length : Nat)), (6, .int .i64 (j : Int))] [(r, .cells (((xs.take j).filter fun x => !pr x).flatMap QY ++ (G ++ ((xs.drop j).flatMap QY ++ sp))).toArray 59 (0, 0))] _ _ _; refine sQ fun K9 hK9 => sR fun K10 hK10 => ?_; refine LS 2 [] rfl rfl ?_; refine LR rfl (KM rfl rfl) ?_; refine JY rfl (nK hK10 ?_); clear hK10 K10; refine Jc rfl (fun h11 => ?_) (fun h11 => ?_)
    try simp only [ZZ] at h11
    refine Jg (hK9 ?_); clear hK9 K9; refine sB fun K12 hK12 => sQ fun K13 hK13 => ?_
    obtain ⟨x, hx, hmx⟩ := Vt (show j < xs.length by omega)
    rw [Jdm hx, List.append_assoc (QY x)]; refine Ja (LS 2 [] rfl rfl (LR rfl (Kj (j := j) (m := 2) rfl rfl rfl rfl rfl (by omega) rfl) ?_)); refine LR rfl (Jw (n := 2) (vs := QY x) rfl (kn 0 rfl) rfl rfl (by simp only [List.toList_toArray]; rw [← List.append_assoc, List.drop_left' (by rw [List.length_append, KT Kn]; omega), List.take_left' (Kn x)]) rfl) ?_; refine LN rfl fun r1 => ?_; refine Jz (k := 0) (n := 2) (ys := QY x) rfl rfl rfl rfl rfl rfl rfl rfl rfl ?_; refine nK hK13 ?_; clear hK13 K13; refine sR fun K14 hK14 => Ji rfl (LR rfl (Jq (xs := QY x) (n := 2) rfl (kn 0 rfl) rfl rfl rfl) (Jh rfl rfl rfl eg (hg x hmx) (fun q hq => Or.inr hq) ?_)); refine JY rfl (nK hK14 ?_); clear hK14 K14; refine Jc rfl (fun h15 => ?_) (fun h15 => ?_)
    try simp only [ZZ] at h15
    refine sQ fun K16 hK16 => ?_
    obtain ⟨M, G2, hcut, lM⟩ := cut (l := G ++ QY x) (a := 2) (by rw [List.length_append, Kn]; omega)
    have lG2 : G2.length = G.length := by have := congrArg List.length hcut; simp only [List.length_append, Kn] at this; omega
    have hkeep := Ym (pr := fun x => !pr x) hx
    rw [if_pos (by simp_all)] at hkeep; refine Ja (LS 2 [] rfl rfl (LR rfl (Jq (xs := QY x) (n := 2) rfl (kn 0 rfl) rfl rfl rfl) ?_)); refine LR rfl (Kj (j := ((xs.take j).filter fun x => !pr x).length) (m := 2) rfl rfl rfl rfl rfl (by omega) rfl) ?_; refine Vb (k := 1) (n := 2) (vs := (QY x).toArray) (cs' := (((xs.take j).filter fun x => !pr x).flatMap QY ++ (QY x ++ (G2 ++ ((xs.drop (j + 1)).flatMap QY ++ sp)))).toArray) rfl rfl rfl rfl rfl rfl rfl (by simp only [List.size_toArray, List.length_append, KT Kn]; omega) (by apply Array.toList_inj.1; simp only [List.toList_toArray, Nat.zero_add]; rw [show G ++ (QY x ++ ((xs.drop (j + 1)).flatMap QY ++ sp)) = M ++ (G2 ++ ((xs.drop (j + 1)).flatMap QY ++ sp)) by rw [← List.append_assoc, hcut, List.append_assoc]]; exact Xz (KT Kn _) lM) rfl ?_; refine nK hK16 ?_; clear hK16 K16; refine Ja (LS 2 [] rfl rfl (Ju (by omega) (by omega) ?_)); refine Ji rfl (Jf ?_); refine Jj (hK12 ?_); clear hK12 K12; refine Ja (LS 2 [] rfl rfl (Ju (by omega) (by omega) ?_)); refine Ji rfl (Jf (J8 ?_)); exact J2 (j + 1, G2) ⟨by simp only; omega, by simp only; rw [hkeep, List.length_append, List.length_singleton]; omega, by simp only; rw [hkeep, List.length_append, List.length_singleton]; omega⟩ (by simp only; omega) (.cons rfl (.cons rfl (.cons (by simp only [Vz]; rw [hkeep, List.length_append, List.length_singleton]; rfl) (.cons rfl .nil)))) (by simp only [hkeep, List.flatMap_append, List.flatMap_singleton, List.append_assoc]; exact List.sublist_cons_self _ _) (fun _ _ h => h)
    try simp only [ZZ] at h15
    refine Jg (Jj (hK12 ?_)); clear hK12 K12; refine Ja (LS 2 [] rfl rfl (Ju (by omega) (by omega) ?_)); refine Ji rfl (Jf (J8 ?_))
    (have hdel := Ym (pr := fun x => !pr x) hx
     rw [if_neg (by simp_all), List.append_nil] at hdel
     exact J2 (j + 1, G ++ QY x) ⟨by simp only; omega, by simp only; rw [hdel]; omega, by simp only [List.length_append, Kn]; rw [hdel]; omega⟩ (by simp only; omega) (.cons rfl (.cons rfl (.cons (by simp only [Vz]; rw [hdel]; try rfl) (.cons rfl .nil)))) (by simp only [hdel, List.append_assoc]; exact List.sublist_cons_self _ _) (fun _ _ h => h))
    · try simp only [ZZ] at h11
      refine JJ (Jm ?_); clear hK9 K9; refine Jm (J0 (hK7 ?_)); clear hK7 K7; refine sQ fun K17 hK17 => ?_
      have hjn : j = xs.length := by omega
      have hdrop : (xs.drop j).flatMap QY = [] := by rw [List.drop_of_length_le (by omega)]; rfl
      rw [hdrop, List.nil_append]; refine Ja (LS 2 [] rfl rfl ?_); refine LR rfl (JR (sz := 2) (m := ((xs.take j).filter fun x => !pr x).length) (kl := some ((xs.take j).filter fun x => !pr x).length) (kh := none) (km := none) (q := xs.length) (z := cap) (off' := ((xs.take j).filter fun x => !pr x).length * 2) rfl rfl rfl ⟨_, rfl⟩ trivial trivial rfl rfl rfl (by omega) (by omega) (by omega) (fun _ => rfl) (by rw [if_neg (by omega)]; omega)) ?_; refine Jj2 (k := 0) (sz := 2) rfl rfl rfl rfl rfl rfl rfl (by decide) (by simp only [List.size_toArray, List.length_append, KT Kn, List.length_drop]; omega) (Xz (P := ((xs.take j).filter fun x => !pr x).flatMap QY) (M := G) (S := sp) (KT Kn _) (by omega)) rfl ?_; refine nK hK17 ?_; clear hK17 K17; refine sR fun K18 hK18 => LS 2 [] rfl rfl ?_
      refine LR rfl (JR (sz := 2) (q := ((xs.take j).filter fun x => !pr x).length) (kl := none) (kh := some ((xs.take j).filter fun x => !pr x).length) (km := none) (m := 0) (z := cap) (off' := 0) rfl rfl rfl trivial ⟨_, rfl⟩ trivial rfl rfl rfl (by omega) (by omega) (by omega) (fun h => by cases h) (by split <;> omega)) ?_; refine Ji rfl (nK hK18 ?_); clear hK18 K18; refine Jb (pT rfl rfl rfl fun w1 hs1 => ?_)
      (have hfull : (xs.take j).filter (fun x => !pr x) = xs.filter fun x => !pr x := by rw [hjn, List.take_length]
       rw [hfull] at hs1 ⊢; refine ⟨⟨some (r, cap, _), KT Kn _, ?_⟩, rfl, hs1.weakL (by simp only [JV]; exact List.Sublist.refl _)⟩
       have hz : ∀ n, (Builtin.zeroCells (Value.agg #[Value.string ⟨#[]⟩, Value.string ⟨#[]⟩]).cells n).toList.length = n * 2 := fun n => by rw [Array.length_toList, size_zeroCells]; rfl
       rw [List.length_append, hz]
       have := List.length_filter_le (fun x => !pr x) xs
       omega)
theorem Jvo {R : Jo} {a : AcL} (ha : a.In R) (k v : BS) : PureT (α := AcRes R (wM a.er k v)) Tryz.prog 25 [a.val, J3 k, J3 v].toArray (fun x => x.val) [] (fun x => x.L) R := by
  have hlk := Jgj ha
  have hl := ha.len
  have hseg := ha.seg
  have hset : wM a.er k v = if Yy a.er ≠ 0 then (a.er, Yy a.er) else if k.length ≠ 32 ∨ v.length ≠ 32 then (a.er, 2) else if (Qk a.slots k v).length > 16 then (a.er, 5) else (⟨a.addr, a.nonce, a.bal, a.code, Qk a.slots k v⟩, 0) := rfl
  refine JI Tryz.func25 rfl rfl fun w => ?_; refine sR fun _ hK1 => ?_; refine LN rfl fun r1 => ?_; refine LN rfl fun r2 => ?_; refine LN rfl fun r3 => ?_; refine Ji rfl (nK hK1 ?_); refine sQ fun _ hK2 => sR fun _ hK3 => ?_; refine LR rfl (Jw (vs := [_, _, _, _, _, _, _, _]) rfl (kn 2 rfl) rfl rfl rfl rfl) ?_; refine Jh rfl rfl rfl Jv4 hlk (fun q hq => Or.inr hq) ?_; refine Ji rfl (nK hK3 ?_); refine sR fun _ hK4 => LS 2 [] rfl rfl (nK hK4 ?_); refine Jc rfl (fun h5 => ?_) (fun h5 => ?_)
  try simp only [ZZ] at h5
  refine sR fun _ hK6 => LS 2 [2] rfl rfl ?_
  refine LT 0 rfl rfl (Ji rfl ?_); refine nK hK6 (Jb (Jd ?_)); refine Jt rfl rfl (.cons (J9 (vs := [_, _, _, _, _, _, _, _]) rfl (kn 0 rfl) rfl rfl) (.cons (J1 rfl) .nil)) (fun w1 hs1 => ?_); rw [hset, if_pos (by omega)]; exact ⟨⟨a, Yy a.er, [], ha, rfl⟩, rfl, hs1.weakL (List.nil_sublist _)⟩
  · try simp only [ZZ] at h5
    refine Jg (hK2 ?_); refine sQ fun _ hK7 => sR fun _ hK8 => ?_; refine LR rfl (Jk rfl (kn 1 rfl) rfl rfl) ?_; refine LR rfl (Ke rfl rfl) ?_; refine LS 2 [] rfl rfl ?_
    refine J6 19 rfl (fun hb9 => ?_) (fun hb9 => ?_) <;> (try simp only [ZZ] at hb9) <;> first | (refine Ji rfl ?_) | (refine LK rfl ?_)
    all_goals first
      | (refine LR rfl (Ke rfl rfl) ?_)
      | (refine LK rfl ?_)
    all_goals refine LW 2 [] rfl rfl ?_
    all_goals refine Jf ?_
    all_goals (
     refine hK8 ?_; refine Jc rfl (fun h12 => ?_) (fun h12 => ?_)
     try simp only [ZZ] at h12
     refine sR fun _ hK13 => ?_; refine LR rfl (Jw (vs := [_, _, _, _, _, _, _, _]) rfl (kn 2 rfl) rfl rfl rfl rfl) ?_
     refine LT 0 rfl rfl (Ji rfl ?_); refine nK hK13 (Jb (Jd ?_)); refine Jt rfl rfl (.cons (J9 (vs := [_, _, _, _, _, _, _, _]) rfl (kn 0 rfl) rfl rfl) (.cons (J1 rfl) .nil)) (fun w1 hs1 => ?_); rw [hset, if_neg (by omega), if_pos (by omega)]; exact ⟨⟨a, 2, [], ha, rfl⟩, rfl, hs1.weakL (List.nil_sublist _)⟩
     · try exact Bool.noConfusion h12
       all_goals try simp only [ZZ] at h12
       all_goals (
        refine Jg (hK7 ?_); refine sQ fun _ hK14 => ?_
        have hok : KG Prod.fst a.slots ∧ a.slots.length ≤ 16 := ⟨(Wk (a := a.er) (by omega)).2.2.1, (Wk (a := a.er) (by omega)).2.2.2.2⟩
        have hinl : (QF Prod.fst (k, v) a.slots).length ≤ 17 := by
          have := hok.2
          rw [Jhu hok.1]
          split <;> omega
        refine Ja ?_
        refine LS 4 [2, 1] rfl rfl ?_; refine LR rfl (JK (r := [_, _]) rfl rfl) ?_; refine Qd rfl rfl rfl (enters_of Tryz.func47 (by kernel_rfl) rfl) (Jt8 (by have := hok.2; omega) hseg hok.1 (k, v)) (fun q hq => Or.inr hq) fun x => ?_
        obtain ⟨row, hrow⟩ := x
        refine KC List.perm_append_comm ?_; change HL _ _ ((30, JD (QF Prod.fst (k, v) a.slots).length row) :: _) ((r3, _) :: (r2, _) :: (r1, _) :: JV _ _ row) _ _ _ _; refine Ji rfl (nK hK14 ?_); refine sQ fun _ hK15 => sR fun _ hK16 => ?_; refine Ji rfl (JF rfl rfl rfl Jv6 Jgi (LR rfl (VD rfl rfl) ?_)); refine nK hK16 ?_; refine Jc rfl (fun h17 => ?_) (fun h17 => ?_)
        try simp only [ZZ] at h17
        have hdC := Jqk (R := [(r2, Obj.cells #[J3 k] 9 (0, 0))]) (caps := [.pointer (some ⟨r2, 0, none⟩)]) (pr := fun x => decide (x.1 = k)) (by omega) hrow (enters_of Tryz.func50 (by kernel_rfl) rfl) (fun x _ => Jxl List.mem_cons_self x)
        rw [Jf5, show q9 Prod.fst k a.slots = Qk a.slots k v from by unfold Qk; rw [if_pos (by assumption)]] at hdC; refine Ja (Ji rfl (LR rfl (Ku rfl rfl) ?_)); refine Vu (T := JV _ _ row) (L0 := [(r3, _), (r2, _), (r1, _)]) (Rl := [(r2, Obj.cells #[J3 k] 9 (0, 0))]) (List.perm_append_comm (l₁ := [_, _, _])) rfl rfl rfl (enters_of Tryz.func49 (by kernel_rfl) rfl) hdC (fun q hq => Or.inl (by rw [List.mem_singleton.1 hq]; exact List.mem_cons_of_mem _ List.mem_cons_self)) fun x => ?_
        obtain ⟨row2, hrow2⟩ := x
        refine KC List.perm_append_comm ?_; change HL _ _ ((36, JD (Qk a.slots k v).length row2) :: _) ((r3, _) :: (r2, _) :: (r1, _) :: JV _ _ row2) _ _ _ _; refine Ji rfl (nK hK15 ?_); refine sQ fun _ hK18 => sQ fun _ hK19 => ?_
        try rw [show QF Prod.fst (k, v) a.slots = Qk a.slots k v from by unfold Qk; rw [if_neg (by assumption)]] at hrow ⊢
        refine Ja (Ji rfl (LR rfl (Xt rfl hrow2.zero rfl) ?_)); refine JY rfl (nK hK19 ?_); refine Jc rfl (fun h20 => ?_) (fun h20 => ?_)
        try simp only [ZZ] at h20
        refine sR fun _ hK21 => ?_; refine LR rfl (Jw (vs := [_, _, _, _, _, _, _, _]) rfl (kn 2 rfl) rfl rfl rfl rfl) ?_
        refine LT 0 rfl rfl (Ji rfl ?_); refine nK hK21 (Jb (Jd ?_)); refine Jt rfl rfl (.cons (J9 (vs := [_, _, _, _, _, _, _, _]) rfl (kn 0 rfl) rfl rfl) (.cons (J1 rfl) .nil)) (fun w1 hs1 => ?_); rw [hset, if_neg (by omega), if_neg (by omega), if_pos (by omega)]; exact ⟨⟨a, 5, [], ha, rfl⟩, rfl, hs1.weakL (List.nil_sublist _)⟩
        try simp only [ZZ] at h20
        refine Jg (hK18 ?_); refine sR fun _ hK22 => Ji rfl ?_
        refine LS 1 [] rfl rfl ?_; refine Kx (k := 2) (cs' := #[J3 a.addr, uV a.nonce, uV a.bal.a, uV a.bal.b, uV a.bal.c, uV a.bal.d, J3 a.code, JD (Qk a.slots k v).length row2]) rfl rfl rfl rfl rfl (Zk _ _) rfl rfl rfl rfl ?_; refine nK hK22 (sR fun _ hK23 => ?_); refine LR rfl (Jw (vs := [_, _, _, _, _, _, _, _]) rfl (kn 2 rfl) rfl rfl rfl rfl) ?_; refine Vb (k := 0) (n := 8) (cs' := #[J3 a.addr, uV a.nonce, uV a.bal.a, uV a.bal.b, uV a.bal.c, uV a.bal.d, J3 a.code, JD (Qk a.slots k v).length row2]) (vs := #[_, _, _, _, _, _, _, _]) rfl rfl rfl rfl rfl rfl (by show (QW (JD _ _) && true) = true; rw [Zk]; rfl) (by exact Nat.le_of_ble_eq_true rfl) rfl rfl ?_; refine Ji rfl (nK hK23 ?_); refine Jb ?_; refine Jt rfl rfl (.cons (J9 (vs := [_, _, _, _, _, _, _, _]) rfl (kn 0 rfl) rfl rfl) (.cons (J1 rfl) .nil)) (fun w1 hs1 => ?_)
        (rw [hset, if_neg (by omega), if_neg (by omega), if_neg (by omega)]
         exact ⟨⟨⟨a.addr, a.nonce, a.bal, a.code, Qk a.slots k v, Vv row2⟩, 0, JV 59 ((Qk a.slots k v).flatMap QY) row2, wZ ha (by omega) (by omega) (by omega) (Ql hrow2 (by decide)), rfl⟩, by show Ending.returned _ = Ending.returned (Value.tuple #[Value.agg #[J3 a.addr, uV a.nonce, uV a.bal.a, uV a.bal.b, uV a.bal.c, uV a.bal.d, J3 a.code, KP (Qk a.slots k v).length (Vv row2)], .int .i64 0]); rw [Wm _ _ hrow2.zero]; rfl, hs1.weakL (List.sublist_append_right [_, _, _] _)⟩)
        try simp only [ZZ] at h17
        refine Jg (hK15 ?_); refine sQ fun _ hK24 => sQ fun _ hK25 => ?_
        try rw [show QF Prod.fst (k, v) a.slots = Qk a.slots k v from by unfold Qk; rw [if_neg (by assumption)]] at hrow ⊢
        refine Ja (Ji rfl (LR rfl (Xt rfl hrow.zero rfl) ?_)); refine JY rfl (nK hK25 ?_); refine Jc rfl (fun h26 => ?_) (fun h26 => ?_)
        try simp only [ZZ] at h26
        refine sR fun _ hK27 => ?_; refine LR rfl (Jw (vs := [_, _, _, _, _, _, _, _]) rfl (kn 2 rfl) rfl rfl rfl rfl) ?_
        refine LT 0 rfl rfl (Ji rfl ?_); refine nK hK27 (Jb (Jd ?_)); refine Jt rfl rfl (.cons (J9 (vs := [_, _, _, _, _, _, _, _]) rfl (kn 0 rfl) rfl rfl) (.cons (J1 rfl) .nil)) (fun w1 hs1 => ?_); rw [hset, if_neg (by omega), if_neg (by omega), if_pos (by omega)]; exact ⟨⟨a, 5, [], ha, rfl⟩, rfl, hs1.weakL (List.nil_sublist _)⟩
        try simp only [ZZ] at h26
        refine Jg (hK24 ?_); refine sR fun _ hK28 => Ji rfl ?_
        refine LS 1 [] rfl rfl ?_; refine Kx (k := 2) (cs' := #[J3 a.addr, uV a.nonce, uV a.bal.a, uV a.bal.b, uV a.bal.c, uV a.bal.d, J3 a.code, JD (Qk a.slots k v).length row]) rfl rfl rfl rfl rfl (Zk _ _) rfl rfl rfl rfl ?_; refine nK hK28 (sR fun _ hK29 => ?_); refine LR rfl (Jw (vs := [_, _, _, _, _, _, _, _]) rfl (kn 2 rfl) rfl rfl rfl rfl) ?_; refine Vb (k := 0) (n := 8) (cs' := #[J3 a.addr, uV a.nonce, uV a.bal.a, uV a.bal.b, uV a.bal.c, uV a.bal.d, J3 a.code, JD (Qk a.slots k v).length row]) (vs := #[_, _, _, _, _, _, _, _]) rfl rfl rfl rfl rfl rfl (by show (QW (JD _ _) && true) = true; rw [Zk]; rfl) (by exact Nat.le_of_ble_eq_true rfl) rfl rfl ?_; refine Ji rfl (nK hK29 ?_); refine Jb ?_; refine Jt rfl rfl (.cons (J9 (vs := [_, _, _, _, _, _, _, _]) rfl (kn 0 rfl) rfl rfl) (.cons (J1 rfl) .nil)) (fun w1 hs1 => ?_)
        (rw [hset, if_neg (by omega), if_neg (by omega), if_neg (by omega)]
         exact ⟨⟨⟨a.addr, a.nonce, a.bal, a.code, Qk a.slots k v, Vv row⟩, 0, JV 59 ((Qk a.slots k v).flatMap QY) row, wZ ha (by omega) (by omega) (by omega) (Ql hrow (by decide)), rfl⟩, by show Ending.returned _ = Ending.returned (Value.tuple #[Value.agg #[J3 a.addr, uV a.nonce, uV a.bal.a, uV a.bal.b, uV a.bal.c, uV a.bal.d, J3 a.code, KP (Qk a.slots k v).length (Vv row)], .int .i64 0]); rw [Wm _ _ hrow.zero]; rfl, hs1.weakL (List.sublist_append_right [_, _, _] _)⟩)
        skip)
     skip)
theorem Jzg {R : Jo} {s : StL} {a : AcL} (hs : s.In R) (ha : a.In R) : PureT (α := StRes R (Jsp s.er a.er)) Tryz.prog 23 [s.val, a.val].toArray (fun x => x.val) [] (fun x => x.L) R := by
  have hc := WC hs
  have hlk := Jgj ha
  have hl := hs.len
  have hseg := hs.seg
  have hput : Jsp s.er a.er = if Qa s.er ≠ 0 then (s.er, Qa s.er) else if Yy a.er ≠ 0 then (s.er, Yy a.er) else if (QF AcE.addr a.er s.er).length > 32 then (s.er, 5) else (QF AcE.addr a.er s.er, 0) := rfl
  have hil : (QF AcE.addr a.er s.er).length = (QF AcL.addr a s.accts).length := by unfold StL.er; rw [← Jf6, List.length_map]
  rw [hil] at hput; refine JI Tryz.func23 rfl rfl fun w => ?_; refine sR fun _ hK1 => ?_; refine LN rfl fun r1 => ?_; refine LN rfl fun r2 => ?_; refine LN rfl fun r3 => ?_; refine Ji rfl (nK hK1 ?_); refine sQ fun _ hK2 => sR fun _ hK3 => ?_; refine LR rfl (Jw (vs := [_]) rfl (kn 2 rfl) rfl rfl rfl rfl) ?_; refine Jh rfl rfl rfl Jfh hc (fun q hq => Or.inr hq) ?_; refine Ji rfl (nK hK3 ?_); refine sR fun _ hK4 => LS 2 [] rfl rfl (nK hK4 ?_); refine Jc rfl (fun h5 => ?_) (fun h5 => ?_)
  try simp only [ZZ] at h5
  refine sR fun _ hK6 => LS 2 [2] rfl rfl ?_
  refine LT 0 rfl rfl (Ji rfl ?_); refine nK hK6 (Jb (Jd ?_)); refine Jt rfl rfl (.cons (J9 (vs := [_]) rfl (kn 0 rfl) rfl rfl) (.cons (J1 rfl) .nil)) (fun w1 hs1 => ?_); rw [hput, if_pos (by omega)]; exact ⟨⟨s, Qa s.er, [], hs, rfl⟩, rfl, hs1.weakL (List.nil_sublist _)⟩
  · try simp only [ZZ] at h5
    refine Jg (hK2 ?_); refine sQ fun _ hK7 => sR fun _ hK8 => ?_; refine LR rfl (Jw (vs := [_, _, _, _, _, _, _, _]) rfl (kn 1 rfl) rfl rfl rfl rfl) ?_; refine Jh rfl rfl rfl Jv4 hlk (fun q hq => Or.inr hq) ?_; refine Ji rfl (nK hK8 ?_); refine sR fun _ hK9 => LS 2 [] rfl rfl (nK hK9 ?_); refine Jc rfl (fun h10 => ?_) (fun h10 => ?_)
    try simp only [ZZ] at h10
    refine sR fun _ hK11 => LS 2 [2] rfl rfl ?_
    refine LT 0 rfl rfl (Ji rfl ?_); refine nK hK11 (Jb (Jd ?_)); refine Jt rfl rfl (.cons (J9 (vs := [_]) rfl (kn 0 rfl) rfl rfl) (.cons (J1 rfl) .nil)) (fun w1 hs1 => ?_); rw [hput, if_neg (by omega), if_pos (by omega)]; exact ⟨⟨s, Yy a.er, [], hs, rfl⟩, rfl, hs1.weakL (List.nil_sublist _)⟩
    · try simp only [ZZ] at h10
      refine Jg (hK7 ?_); refine sQ fun _ hK12 => ?_
      have hok : s.accts.length ≤ 32 ∧ KG AcL.addr s.accts := by
        have h := wO.1 (show Qa s.er = 0 by omega)
        rw [s.er_len] at h; exact ⟨h.1, (Jkb s).2 h.2.2⟩
      refine Ja ?_
      refine LS 3 [2, 1] rfl rfl ?_; refine Qd rfl rfl rfl (enters_of Tryz.func46 (by kernel_rfl) rfl) (Jt7 (by omega) hseg hok.2 a) (fun q hq => Or.inr hq) fun x => ?_
      obtain ⟨row, hrow⟩ := x
      refine KC List.perm_append_comm ?_; change HL _ _ ((24, JD (QF AcL.addr a s.accts).length row) :: _) ((r3, _) :: (r2, _) :: (r1, _) :: JV _ _ row) _ _ _ _; refine Ji rfl (nK hK12 ?_); refine sQ fun _ hK13 => sR fun _ hK14 => ?_; refine Ji rfl (LR rfl (Xt rfl hrow.zero rfl) (JY rfl ?_)); refine nK hK14 ?_; refine Jc rfl (fun h15 => ?_) (fun h15 => ?_)
      try simp only [ZZ] at h15
      refine sR fun _ hK16 => ?_; refine LR rfl (Jw (vs := [_]) rfl (kn 2 rfl) rfl rfl rfl rfl) ?_
      refine LT 0 rfl rfl (Ji rfl ?_); refine nK hK16 (Jb (Jd ?_)); refine Jt rfl rfl (.cons (J9 (vs := [_]) rfl (kn 0 rfl) rfl rfl) (.cons (J1 rfl) .nil)) (fun w1 hs1 => ?_); rw [hput, if_neg (by omega), if_neg (by omega), if_pos (by omega)]; exact ⟨⟨s, 5, [], hs, rfl⟩, rfl, hs1.weakL (List.nil_sublist _)⟩
      · try simp only [ZZ] at h15
        refine Jg (hK13 ?_); refine sR fun _ hK17 => Ji rfl ?_
        refine LR rfl (JK (r := [JD _ row]) rfl (by cases row <;> rfl)) ?_; refine Vb (k := 0) (n := 1) (cs' := #[JD (QF AcL.addr a s.accts).length row]) (vs := #[_]) rfl rfl rfl rfl rfl rfl (by show (QW (JD _ _) && true) = true; rw [Zk]; rfl) (by exact Nat.le_of_ble_eq_true rfl) rfl rfl ?_; refine Ji rfl (nK hK17 ?_); refine Jb ?_; refine Jt rfl rfl (.cons (J9 (vs := [_]) rfl (kn 0 rfl) rfl rfl) (.cons (J1 rfl) .nil)) (fun w1 hs1 => ?_)
        (rw [hput, if_neg (by omega), if_neg (by omega), if_neg (by omega)]
         exact ⟨⟨⟨QF AcL.addr a s.accts, Vv row⟩, 0, JV 34 ((QF AcL.addr a s.accts).flatMap AcL.cells) row, ⟨by show (QF AcL.addr a s.accts).length ≤ 9223372036854775807; omega, (Ql hrow (by decide)).mono fun q hq => List.mem_append_left _ hq, fun x hx => ((vT hx).elim (fun e => by rw [e]; exact ha) (hs.accts x)).mono fun q hq => List.mem_append_right _ hq⟩, by unfold StL.er; rw [Jf6]⟩, by show Ending.returned _ = Ending.returned (Value.tuple #[Value.agg #[KP (QF AcL.addr a s.accts).length (Vv row)], .int .i64 0]); rw [Wm _ _ hrow.zero]; rfl, hs1.weakL (List.sublist_append_right [_, _, _] _)⟩)
theorem Jql {R : Jo} {xs ys : List (BS × BS)} {p q : Pl} (hl : xs.length ≤ 9223372036854775807) (hl2 : ys.length ≤ 9223372036854775807) (hs : Seg R xs.length (xs.flatMap QY) p) (hs' : Seg R ys.length (ys.flatMap QY) q) :
    PureR Tryz.prog 44 [KP xs.length p, KP ys.length q].toArray (.bool (decide (xs = ys))) R := by
  refine Je Tryz.func44 rfl rfl fun w => ?_; refine sR fun K1 hK1 => Ji rfl (nK hK1 ?_); clear hK1 K1; refine sQ fun K2 hK2 => sR fun K3 hK3 => ?_; refine Ji rfl (LR rfl (J4 rfl hs rfl) ?_); refine Ji rfl (LR rfl (J4 rfl hs' rfl) (JY rfl ?_)); refine nK hK3 ?_; clear hK3 K3; refine Jc rfl (fun h4 => ?_) (fun h4 => ?_)
  try simp only [ZZ] at h4
  refine sR fun K5 hK5 => Ji rfl (nK hK5 ?_); clear hK5 K5; refine Jb (Jd ?_); clear hK2 K2; refine pT rfl rfl rfl fun w1 hs1 => ?_; refine ⟨?_, hs1.keep⟩; rw [decide_eq_false (show ¬ xs = ys from fun e => by have := congrArg List.length e; omega)]; rfl
  · try simp only [ZZ] at h4
    refine Jg (hK2 ?_); clear hK2 K2; refine sQ fun K6 hK6 => sR fun K7 hK7 => ?_; refine Ji rfl (LR rfl (J4 rfl hs rfl) (Ji rfl ?_)); refine nK hK7 ?_; clear hK7 K7; refine Js ?_
    have hll : xs.length = ys.length := by omega
    refine JL (σ := Nat) (fun i => i ≤ xs.length ∧ ∀ j, j < i → xs[j]? = ys[j]?) (fun i => [(0, KP xs.length p), (1, KP ys.length q), (12, .int .i64 (xs.length : Int)), (13, .int .i64 (i : Int))]) (fun _ => []) (fun _ _ _ => True) (fun i => xs.length - i) 0 ⟨by omega, fun j hj => absurd hj (by omega)⟩ (.cons rfl (.cons rfl (.cons rfl (.cons rfl .nil)))) (List.nil_sublist _) (fun _ _ h => h) ?_; rintro i ⟨hi1, hinv⟩; refine sR fun K8 hK8 => JY rfl (nK hK8 ?_); clear hK8 K8; refine sQ fun K9 hK9 => ?_; refine Jc rfl (fun h10 => ?_) (fun h10 => ?_)
    try simp only [ZZ] at h10
    refine Jg (hK9 ?_); clear hK9 K9; refine sB fun K11 hK11 => sR fun K12 hK12 => ?_; refine LS 2 [] rfl rfl (nK hK12 ?_); clear hK12 K12; refine sQ fun K13 hK13 => ?_
    obtain ⟨x, hx, hmx⟩ := Vt (show i < xs.length by omega)
    obtain ⟨y, hy, hmy⟩ := Vt (show i < ys.length by omega)
    refine Kc 9 (by kernel_rfl) (by kernel_rfl) ?_; refine Jl rfl rfl rfl (Jp rfl) ?_; refine Jl rfl rfl rfl (Jp rfl) ?_
    refine Jl rfl rfl rfl (Jr (j := i) rfl hs rfl rfl rfl (by first | rfl | omega) (by omega)) ?_; refine Jl rfl rfl rfl (KL Kn (fun q hq => Or.inr hq) rfl hs hx rfl rfl) ?_; refine Jl rfl rfl rfl (Jp rfl) ?_; refine Jl rfl rfl rfl (Jp rfl) ?_
    refine Jl rfl rfl rfl (Jr (j := i) rfl hs' rfl rfl rfl (by first | rfl | omega) (by omega)) ?_; refine Jl rfl rfl rfl (KL Kn (fun q hq => Or.inr hq) rfl hs' hy rfl rfl) ?_; refine Jl rfl rfl rfl (Jh5 rfl rfl rfl (by kernel_rfl) (by kernel_rfl) (.scal (by decide) rfl rfl rfl rfl rfl (.scal (by decide) rfl rfl rfl rfl rfl .nil))) ?_; refine QC (congrArg (fun b => Value.bool (!b)) (Jh7 x y)) ?_; refine KA ?_; refine nK hK13 ?_; clear hK13 K13; refine Jc rfl (fun h14 => ?_) (fun h14 => ?_)
    try simp only [ZZ] at h14
    refine sR fun K15 hK15 => Ji rfl (nK hK15 ?_); clear hK15 K15; refine Jb (Jn (Jd ?_)); clear hK11 K11; refine Jd (Jn (Jd ?_)); clear hK6 K6; refine pT rfl rfl rfl fun w1 hs1 => ?_; refine ⟨?_, hs1.keep⟩; rw [decide_eq_false (Jn7 hx hy (by simp_all))]; rfl
    try simp only [ZZ] at h14
    refine Jg (Jj (hK11 ?_)); clear hK11 K11; refine Ja (JY rfl (Ju (by omega) (by omega) ?_)); refine Ji rfl (Jf (J8 ?_))
    exact J2 (i + 1) ⟨by omega, fun j hj => by
      rcases Nat.lt_succ_iff_lt_or_eq.1 hj with hj | rfl
      exact hinv j hj
      rw [hx, hy]; simp_all⟩ (by omega) (.cons rfl (.cons rfl (.cons rfl (.cons rfl .nil)))) (List.nil_sublist _) (fun _ _ h => h)
    · try simp only [ZZ] at h10
      refine JJ (Jm ?_); clear hK9 K9; refine Jm (J0 (hK6 ?_)); clear hK6 K6; refine sR fun K16 hK16 => Ji rfl (nK hK16 ?_); clear hK16 K16; refine Jb (pT rfl rfl rfl fun w1 hs1 => ?_); refine ⟨?_, hs1.keep⟩; rw [decide_eq_true (Jn6 hll (by omega) hinv)]; rfl
theorem Jud (a b : AcL) : a.er = b.er ↔ a.addr = b.addr ∧ a.nonce = b.nonce ∧ a.bal = b.bal ∧ a.code = b.code ∧ a.slots = b.slots := by
  unfold AcL.er
  simp
theorem Jue {R : Jo} {a b : AcL} (ha : a.In R) (hb : b.In R) : PureR Tryz.prog 43 [vA a, vA b].toArray (.bool (decide (a.er = b.er))) R := by
  have heq := Jql ha.len hb.len ha.seg hb.seg
  have hE : decide (a.er = b.er) = (decide (a.addr = b.addr) && (decide (a.nonce = b.nonce) && (decide (a.bal = b.bal) && (decide (a.code = b.code) && decide (a.slots = b.slots))))) := by
    rw [Bool.eq_iff_iff]; simp only [decide_eq_true_eq, Bool.and_eq_true]; exact Jud a b
  rw [hE]; refine Je Tryz.func43 rfl rfl fun w => ?_; refine sR fun K1 hK1 => ?_; refine LN rfl fun r1 => ?_; refine LN rfl fun r2 => ?_; refine Ji rfl (nK hK1 ?_); clear hK1 K1; refine sR fun K2 hK2 => LS 2 [1] rfl rfl ?_
  refine LS 2 [0] rfl rfl ?_; refine LR rfl (VD rfl rfl) ?_; refine Ji rfl ?_
  refine J6 10 rfl (fun hb3 => ?_) (fun hb3 => ?_) <;> (try simp only [ZZ] at hb3) <;> first | (refine LR rfl (JM rfl rfl rfl) ?_) | (refine LK rfl ?_)
  all_goals refine LW 1 [1] rfl rfl ?_
  all_goals first
    | (refine LR rfl (JM rfl rfl rfl) ?_)
    | (refine LK rfl ?_)
  all_goals refine LW 2 [0] rfl rfl ?_
  all_goals first | (refine Jy (congrArg Value.bool (eqU a.nonce b.nonce)) ?_) | skip
  all_goals refine LW 2 [] rfl rfl ?_
  all_goals first
    | (refine LK rfl ?_)
    | (refine J6 17 rfl (fun hb8 => ?_) (fun hb8 => ?_) <;> (try simp only [ZZ] at hb8) <;> first | (refine LR rfl (JM rfl rfl rfl) ?_) | (refine LK rfl ?_))
  all_goals refine LW 1 [1] rfl rfl ?_
  all_goals first
    | (refine LR rfl (JM rfl rfl rfl) ?_)
    | (refine LK rfl ?_)
  all_goals refine LW 1 [0] rfl rfl ?_
  all_goals first
    | (refine LR rfl (xE rfl rfl rfl rfl rfl (by kernel_rfl) rfl rfl rfl rfl) ?_)
    | (refine LK rfl ?_)
  all_goals first | (refine Jy (congrArg Value.bool (eqW a.bal b.bal)) ?_) | skip
  all_goals refine LW 2 [] rfl rfl ?_
  all_goals first
    | (refine LK rfl ?_)
    | (refine J6 24 rfl (fun hb13 => ?_) (fun hb13 => ?_) <;> (try simp only [ZZ] at hb13) <;> first | (refine LR rfl (JM rfl rfl rfl) ?_) | (refine LK rfl ?_))
  all_goals refine LW 1 [1] rfl rfl ?_
  all_goals first
    | (refine LR rfl (JM rfl rfl rfl) ?_)
    | (refine LK rfl ?_)
  all_goals refine LW 1 [0] rfl rfl ?_
  all_goals first
    | (refine LR rfl (VD rfl rfl) ?_)
    | (refine LK rfl ?_)
  all_goals refine LW 2 [] rfl rfl ?_
  all_goals first
    | (refine LK rfl ?_)
    | (refine J6 31 rfl (fun hb18 => ?_) (fun hb18 => ?_) <;> (try simp only [ZZ] at hb18) <;> first | (refine LR rfl (JM rfl rfl rfl) ?_) | (refine LK rfl ?_))
  all_goals refine LW 1 [1] rfl rfl ?_
  all_goals first
    | (refine LR rfl (JM rfl rfl rfl) ?_)
    | (refine LK rfl ?_)
  all_goals refine LW 1 [0] rfl rfl ?_
  all_goals first
    | (refine Jh rfl rfl rfl (enters_of Tryz.func44 (by kernel_rfl) rfl) heq (fun q hq => Or.inr hq) ?_)
    | (refine LK rfl ?_)
  all_goals refine LW 2 [] rfl rfl ?_
  all_goals refine Jf ?_
  all_goals (
   refine hK2 ?_; clear hK2 K2; refine Jb (pT rfl rfl rfl fun w1 hs1 => ?_); refine ⟨?_, hs1.keep⟩
   simp_all [JN]
   skip)
theorem qP {s t : StL} : s.er = t.er ↔ s.accts.length = t.accts.length ∧ ∀ (i : Nat) a b, s.accts[i]? = some a → t.accts[i]? = some b → a.er = b.er := by
  constructor
  · intro h
    refine ⟨by have := congrArg List.length h; rwa [s.er_len, t.er_len] at this, fun i a b ha hb => ?_⟩
    have h1 := YD ha
    have h2 := YD hb
    rw [h, h2] at h1; exact (Option.some.inj h1).symm
  · rintro ⟨h1, h2⟩
    apply List.ext_getElem?
    intro i
    by_cases hi : i < s.accts.length
    · obtain ⟨a, ha, _⟩ := Vt hi
      obtain ⟨b, hb, _⟩ := Vt (show i < t.accts.length by omega)
      rw [YD ha, YD hb, h2 i a b ha hb]
    · rw [List.getElem?_eq_none (by rw [s.er_len]; omega), List.getElem?_eq_none (by rw [t.er_len]; omega)]
theorem Jqm {R : Jo} {s t : StL} (hs : s.In R) (ht : t.In R) :
    PureR Tryz.prog 45 [KP s.accts.length s.p, KP t.accts.length t.p, fV 43].toArray (.bool (decide (s.er = t.er))) R := by
  have hl : s.accts.length ≤ 9223372036854775807 := hs.len
  have hl2 : t.accts.length ≤ 9223372036854775807 := ht.len
  have h1 := hs.seg
  have h2 := ht.seg
  refine Je Tryz.func45 rfl rfl fun w => ?_; refine sR fun K1 hK1 => Ji rfl (nK hK1 ?_); clear hK1 K1; refine sQ fun K2 hK2 => sR fun K3 hK3 => ?_; refine Ji rfl (LR rfl (J4 rfl h1 rfl) ?_); refine Ji rfl (LR rfl (J4 rfl h2 rfl) (JY rfl ?_)); refine nK hK3 ?_; clear hK3 K3; refine Jc rfl (fun h4 => ?_) (fun h4 => ?_)
  try simp only [ZZ] at h4
  refine sR fun K5 hK5 => Ji rfl (nK hK5 ?_); clear hK5 K5; refine Jb (Jd ?_); clear hK2 K2; refine pT rfl rfl rfl fun w1 hs1 => ?_; refine ⟨?_, hs1.keep⟩; rw [decide_eq_false (show ¬ s.er = t.er from fun e => by have := (qP.1 e).1; omega)]; rfl
  · try simp only [ZZ] at h4
    refine Jg (hK2 ?_); clear hK2 K2; refine sQ fun K6 hK6 => sR fun K7 hK7 => ?_; refine Ji rfl (LR rfl (J4 rfl h1 rfl) (Ji rfl ?_)); refine nK hK7 ?_; clear hK7 K7; refine Js ?_
    have hll : s.accts.length = t.accts.length := by omega
    refine JL (σ := Nat) (fun i => i ≤ s.accts.length ∧ ∀ q, q < i → ∀ a b, s.accts[q]? = some a → t.accts[q]? = some b → a.er = b.er) (fun i => [(1, KP t.accts.length t.p), (2, fV 43), (15, KP s.accts.length s.p), (16, .int .i64 (s.accts.length : Int)), (17, .int .i64 (i : Int))]) (fun _ => []) (fun _ _ _ => True) (fun i => s.accts.length - i) 0 ⟨by omega, fun j hj => absurd hj (by omega)⟩ (.cons rfl (.cons rfl (.cons rfl (.cons rfl (.cons rfl .nil))))) (List.nil_sublist _) (fun _ _ h => h) ?_; rintro i ⟨hi1, hinv⟩; refine sR fun K8 hK8 => JY rfl (nK hK8 ?_); clear hK8 K8; refine sQ fun K9 hK9 => ?_; refine Jc rfl (fun h10 => ?_) (fun h10 => ?_)
    try simp only [ZZ] at h10
    refine Jg (hK9 ?_); clear hK9 K9; refine sB fun K11 hK11 => sQ fun K12 hK12 => ?_
    obtain ⟨x, hx, hmx⟩ := Vt (show i < s.accts.length by omega)
    obtain ⟨y, hy, hmy⟩ := Vt (show i < t.accts.length by omega)
    refine Ja (Ji rfl ?_)
    refine LR rfl (Jr (j := i) rfl h1 rfl rfl rfl (by first | rfl | omega) (by omega)) ?_; refine LR rfl (KL AcL.len (fun q hq => Or.inr hq) rfl h1 hx rfl rfl) ?_; refine LN rfl fun r1 => ?_; refine Ji rfl (Jz (k := 0) (n := 8) (ys := x.cells) rfl rfl rfl rfl rfl x.len rfl x.one rfl ?_); refine nK hK12 ?_; clear hK12 K12; refine sR fun K13 hK13 => LS 2 [] rfl rfl ?_
    refine LR rfl (Jr (j := i) rfl h2 rfl rfl rfl (by first | rfl | omega) (by omega)) ?_; refine LR rfl (KL AcL.len (fun q hq => Or.inr hq) rfl h2 hy rfl rfl) ?_; refine LN rfl fun r2 => ?_; refine Jz (k := 0) (n := 8) (ys := y.cells) rfl rfl rfl rfl rfl y.len rfl y.one rfl ?_; refine nK hK13 ?_; clear hK13 K13; refine sR fun K14 hK14 => ?_; refine Ji rfl (LR rfl (Jq (xs := x.cells) (n := 8) rfl (kn 1 rfl) rfl rfl x.len) (LR rfl (Jq (xs := y.cells) (n := 8) rfl (kn 0 rfl) rfl rfl y.len) ?_)); refine Jh rfl rfl rfl (enters_of Tryz.func43 (by kernel_rfl) rfl) (Jue (hs.accts x hmx) (ht.accts y hmy)) (fun q hq => Or.inr hq) ?_; refine JY rfl (nK hK14 ?_); clear hK14 K14; refine Jc rfl (fun h15 => ?_) (fun h15 => ?_)
    try simp only [ZZ] at h15
    refine sR fun K16 hK16 => Ji rfl (nK hK16 ?_); clear hK16 K16; refine Jb (Jn (Jd ?_)); clear hK11 K11; refine Jd (Jn (Jd ?_)); clear hK6 K6; refine pT rfl rfl rfl fun w1 hs1 => ?_; refine ⟨?_, hs1.keep⟩; rw [decide_eq_false (show ¬ s.er = t.er from fun e => by have := (qP.1 e).2 i x y hx hy; simp_all)]; rfl
    try simp only [ZZ] at h15
    refine Jg (Jj (hK11 ?_)); clear hK11 K11; refine Ja (JY rfl (Ju (by omega) (by omega) ?_)); refine Ji rfl (Jf (J8 ?_))
    exact J2 (i + 1) ⟨by omega, fun q hq u v hu hv => by
      rcases Nat.lt_succ_iff_lt_or_eq.1 hq with hq | rfl
      exact hinv q hq u v hu hv
      rw [hx] at hu; rw [hy] at hv; cases hu; cases hv; simp_all⟩ (by omega) (.cons rfl (.cons rfl (.cons rfl (.cons rfl (.cons rfl .nil))))) (List.nil_sublist _) (fun _ _ h => h)
    · try simp only [ZZ] at h10
      refine JJ (Jm ?_); clear hK9 K9; refine Jm (J0 (hK6 ?_)); clear hK6 K6; refine sR fun K17 hK17 => Ji rfl (nK hK17 ?_); clear hK17 K17; refine Jb (pT rfl rfl rfl fun w1 hs1 => ?_); refine ⟨?_, hs1.keep⟩; rw [decide_eq_true (qP.2 ⟨hll, fun q a b ha hb => hinv q (by have := (List.getElem?_eq_some_iff.1 ha).1; omega) a b ha hb⟩)]; rfl
theorem yP {R : Jo} {s t : StL} (hs : s.In R) (ht : t.In R) : PureR Tryz.prog 21 [s.val, t.val].toArray (.bool (decide (s.er = t.er))) R := by
  have h := Jqm hs ht
  refine Je Tryz.func21 rfl rfl fun w => ?_; refine sR fun _ hK1 => ?_; refine LN rfl fun r1 => ?_; refine LN rfl fun r2 => ?_; refine Ji rfl (nK hK1 ?_); refine sR fun _ hK2 => Ji rfl (nK hK2 ?_); refine sR fun _ hK3 => LS 2 [1] rfl rfl ?_
  refine LS 3 [0] rfl rfl ?_; refine Jh rfl rfl rfl (enters_of Tryz.func45 (by kernel_rfl) rfl) h (fun q hq => Or.inr hq) ?_; refine Ji rfl (nK hK3 ?_); refine Jb (pT rfl rfl rfl fun w1 hs1 => ?_); exact ⟨rfl, hs1.keep⟩
def Yv (a : AcE) : Bool := !((decide (100 < a.addr.length) || (decide (60 < a.code.length) && decide (a.code.length ≤ 512))) || decide (20 < a.slots.length)) && a.slots.all fun x => !(decide (100 < x.1.length) || decide (100 < x.2.length))
def ZY : Nat → Int → List AcE → Bool × Int
  | _, n, [] => (true, n)
  | i, n, a :: l => if 40 < i then (true, n) else if Yv a = false then (false, n) else ZY (i + 1) (n + (a.slots.length : Int)) l
def Jbn (s : List AcE) : Bool := (ZY 0 0 s).1 && (decide (s.length ≤ 40) && decide ((ZY 0 0 s).2 ≤ 40))
theorem Juf {a : AcE} {i : Nat} {x : BS × BS} (hx : a.slots[i]? = some x) (h : x.1.length > 100 ∨ x.2.length > 100) : Yv a = false := by
  unfold Yv
  have : (a.slots.all fun x => !(decide (100 < x.1.length) || decide (100 < x.2.length))) = false := by
    rw [List.all_eq_false]
    exact ⟨x, List.mem_of_getElem? hx, by rcases h with h | h <;> simp [h]⟩
  rw [this, Bool.and_false]
theorem Jug {a : AcE} (h : Yv a = true) : a.slots.length ≤ 20 := by
  unfold Yv at h
  simp only [Bool.and_eq_true, Bool.not_eq_true', Bool.or_eq_false_iff, decide_eq_false_iff_not] at h; omega
theorem Jqn {i : Nat} {n : Int} {s : List AcE} {a : AcE} (h : s[i]? = some a) (hi : i ≤ 40) (hf : Yv a = true) : ZY i n (s.drop i) = ZY (i + 1) (n + (a.slots.length : Int)) (s.drop (i + 1)) := by
  obtain ⟨hlt, e⟩ := List.getElem?_eq_some_iff.1 h
  rw [List.drop_eq_getElem_cons hlt, e]
  unfold ZY
  rw [if_neg (by omega), if_neg (by rw [hf]; simp)]
  cases s.drop (i + 1) <;> rfl
theorem Jqo {i : Nat} {n : Int} {s : List AcE} (h : 40 < i ∨ s.length ≤ i) : ZY i n (s.drop i) = (true, n) := by
  rcases h with h | h
  · cases s.drop i with
    | nil => rfl
    | cons a l => unfold ZY; rw [if_pos h]
  · rw [List.drop_of_length_le h]; rfl
theorem Jqp {i : Nat} {n : Int} {s : List AcE} {a : AcE} (h : s[i]? = some a) (hi : i ≤ 40) (hf : Yv a = false) : (ZY i n (s.drop i)).1 = false := by
  obtain ⟨hlt, e⟩ := List.getElem?_eq_some_iff.1 h
  rw [List.drop_eq_getElem_cons hlt, e]
  unfold ZY
  rw [if_neg (by omega), if_pos hf]
theorem Jk5 {R : Jo} {a : AcL} (ha : a.In R) : PureR Tryz.prog 22 [a.val].toArray (.bool (Yv a.er)) R := by
  have hl := ha.len
  have hseg := ha.seg
  obtain ⟨res, hres⟩ : ∃ b, b = Yv a.er := ⟨_, rfl⟩
  rw [← hres]
  have h1 : (100 < (a.addr.length : Int) ∨ (60 < (a.code.length : Int) ∧ (a.code.length : Int) ≤ 512) ∨ 20 < (a.slots.length : Int)) → res = false := fun h => by
    rw [hres]; unfold Yv
    have : ((decide (100 < a.addr.length) || (decide (60 < a.code.length) && decide (a.code.length ≤ 512))) || decide (20 < a.slots.length)) = true := by
      simp only [Bool.or_eq_true, Bool.and_eq_true, decide_eq_true_eq]; omega
    show (!((decide (100 < a.addr.length) || (decide (60 < a.code.length) && decide (a.code.length ≤ 512))) || decide (20 < a.slots.length)) && _) = false
    rw [this]; rfl
  have h2 : ¬ (100 < (a.addr.length : Int) ∨ (60 < (a.code.length : Int) ∧ (a.code.length : Int) ≤ 512) ∨ 20 < (a.slots.length : Int)) → (∀ (j : Nat) (x : BS × BS), a.slots[j]? = some x → x.1.length ≤ 100 ∧ x.2.length ≤ 100) → res = true := fun h h' => by
    rw [hres]; unfold Yv
    have e : ((decide (100 < a.addr.length) || (decide (60 < a.code.length) && decide (a.code.length ≤ 512))) || decide (20 < a.slots.length)) = false := by
      simp only [Bool.or_eq_false_iff, Bool.and_eq_false_iff, decide_eq_false_iff_not]; omega
    show (!((decide (100 < a.addr.length) || (decide (60 < a.code.length) && decide (a.code.length ≤ 512))) || decide (20 < a.slots.length)) && _) = true
    rw [e]; simp only [Bool.not_false, Bool.true_and, List.all_eq_true]; intro x hx
    obtain ⟨j, hj⟩ := List.getElem?_of_mem hx
    obtain ⟨g1, g2⟩ := h' j x hj
    simp; omega
  refine Je Tryz.func22 rfl rfl fun w => ?_; refine sR fun K1 hK1 => ?_; refine Va (cs := a.cells.toArray) rfl rfl rfl rfl fun r1 => ?_; refine Ji rfl (nK hK1 ?_); clear hK1 K1; refine sQ fun K2 hK2 => sR fun K3 hK3 => ?_
  refine LS 2 [0] rfl rfl ?_; refine LR rfl (Ke rfl rfl) ?_; refine LS 2 [] rfl rfl ?_
  refine J6 8 rfl (fun hb4 => ?_) (fun hb4 => ?_) <;> (try simp only [ZZ] at hb4) <;> first | (refine LR rfl (JM rfl rfl rfl) ?_) | (refine LK rfl ?_)
  all_goals refine LW 1 [0] rfl rfl ?_
  all_goals first
    | (refine LR rfl (Ke rfl rfl) ?_)
    | (refine LK rfl ?_)
  all_goals refine LW 2 [] rfl rfl ?_
  all_goals first
    | (refine LK rfl ?_)
    | (refine J6 13 rfl (fun hb9 => ?_) (fun hb9 => ?_) <;> (try simp only [ZZ] at hb9) <;> first | (refine LR rfl (JM rfl rfl rfl) ?_) | (refine LK rfl ?_))
  all_goals refine LW 1 [0] rfl rfl ?_
  all_goals first
    | (refine LR rfl (Ke rfl rfl) ?_)
    | (refine LK rfl ?_)
  all_goals refine LW 4 [] rfl rfl ?_
  all_goals first
    | (refine LR rfl (JM rfl rfl rfl) ?_)
    | (refine LK rfl ?_)
    | (refine J6 20 rfl (fun hb14 => ?_) (fun hb14 => ?_) <;> (try simp only [ZZ] at hb14) <;> first | (refine LR rfl (JM rfl rfl rfl) ?_) | (refine LK rfl ?_))
  all_goals refine LW 1 [0] rfl rfl ?_
  all_goals first
    | (refine LR rfl (J4 rfl hseg rfl) ?_)
    | (refine LK rfl ?_)
  all_goals refine LW 2 [] rfl rfl ?_
  all_goals refine Jf ?_
  all_goals (
   refine hK3 ?_; clear hK3 K3; refine Jc rfl (fun h18 => ?_) (fun h18 => ?_)
   try simp only [ZZ] at h18
   refine sR fun K19 hK19 => Ji rfl (nK hK19 ?_); clear hK19 K19; refine Jb (Jd ?_); clear hK2 K2; refine pT rfl rfl rfl fun w1 hs1 => ?_; rw [h1 (by omega)]; exact ⟨rfl, hs1.keep⟩
   · try exact Bool.noConfusion h18
     all_goals try simp only [ZZ] at h18
     all_goals (
      refine Jg (hK2 ?_); clear hK2 K2; refine sQ fun K20 hK20 => sR fun K21 hK21 => ?_; refine Ji rfl (nK hK21 ?_); clear hK21 K21; refine Js ?_
      have h0 : ¬ (100 < (a.addr.length : Int) ∨ (60 < (a.code.length : Int) ∧ (a.code.length : Int) ≤ 512) ∨ 20 < (a.slots.length : Int)) := by
        simp_all
        all_goals first | done | omega | trace_state
      refine JL (σ := Nat) (fun i => i ≤ a.slots.length ∧ ∀ (j : Nat) (x : BS × BS), j < i → a.slots[j]? = some x → x.1.length ≤ 100 ∧ x.2.length ≤ 100) (fun i => [(1, .pointer (some ⟨r1, 0, none⟩)), (3, .int .i64 (i : Int))]) (fun _ => [(r1, .cells a.cells.toArray 34 (0, 0))]) (fun _ _ _ => True) (fun i => a.slots.length - i) 0 ⟨Nat.zero_le _, fun _ _ h => absurd h (Nat.not_lt_zero _)⟩ (.cons rfl (.cons rfl .nil)) (List.Sublist.refl _) (fun _ _ h => h) ?_; rintro i ⟨hi1, hinv⟩; refine sQ fun K22 hK22 => sR fun K23 hK23 => ?_; refine Ji rfl ?_
      refine LS 2 [0] rfl rfl ?_; refine LR rfl (J4 rfl hseg rfl) ?_; refine JY rfl (nK hK23 ?_); clear hK23 K23; refine Jc rfl (fun h24 => ?_) (fun h24 => ?_)
      · try simp only [ZZ] at h24
        refine Jg (hK22 ?_); clear hK22 K22; refine sB fun K25 hK25 => sQ fun K26 hK26 => ?_
        obtain ⟨x, hx, hmx⟩ := Vt (show i < a.slots.length by omega)
        have hxl := ha.slots x hmx
        refine Ja (LS 3 [0] rfl rfl ?_)
        refine LR rfl (Jr (j := i) rfl hseg rfl rfl rfl (by first | rfl | omega) (by omega)) ?_; refine LR rfl (Kz (off' := vN a.p + (i * 2 + 0)) rfl rfl (by show vN a.p + i * 2 + 0 = _; omega)) ?_; refine LR rfl (jQ Kn (k := 0) (v := J3 x.1) (fun q hq => Or.inr hq) rfl hseg hx rfl rfl) ?_; refine LR rfl (Ke rfl rfl) ?_; refine LS 2 [] rfl rfl ?_
        refine J6 41 rfl (fun hb27 => ?_) (fun hb27 => ?_) <;> (try simp only [ZZ] at hb27) <;> first | (refine LR rfl (JM rfl rfl rfl) ?_) | (refine LK rfl ?_)
        all_goals refine LW 2 [0] rfl rfl ?_
        all_goals first
          | (refine LR rfl (Jr (j := i) rfl hseg rfl rfl rfl (by first | rfl | omega) (by omega)) ?_)
          | (refine LK rfl ?_)
        all_goals first
          | (refine LR rfl (Kz (off' := vN a.p + (i * 2 + 1)) rfl rfl (by show vN a.p + i * 2 + 1 = _; omega)) ?_)
          | (refine LK rfl ?_)
        all_goals first
          | (refine LR rfl (jQ Kn (k := 1) (v := J3 x.2) (fun q hq => Or.inr hq) rfl hseg hx rfl rfl) ?_)
          | (refine LK rfl ?_)
        all_goals first
          | (refine LR rfl (Ke rfl rfl) ?_)
          | (refine LK rfl ?_)
        all_goals refine LW 2 [] rfl rfl ?_
        all_goals refine Jf ?_
        all_goals (
         refine hK26 ?_; clear hK26 K26; refine Jc rfl (fun h35 => ?_) (fun h35 => ?_)
         try simp only [ZZ] at h35
         refine sR fun K36 hK36 => Ji rfl (nK hK36 ?_); clear hK36 K36; refine Jb (Jn (Jd ?_)); clear hK25 K25; refine Jd (Jn (Jd ?_)); clear hK20 K20; refine pT rfl rfl rfl fun w1 hs1 => ?_; rw [hres, Juf hx (by omega)]; exact ⟨rfl, hs1.keep⟩
         · try exact Bool.noConfusion h35
           all_goals try simp only [ZZ] at h35
           all_goals (
            refine Jg (Jj (hK25 ?_)); clear hK25 K25; refine Ja (LS 2 [] rfl rfl (Ju (by omega) (by omega) ?_)); refine Ji rfl (Jf (J8 ?_))
            exact J2 (i + 1) ⟨by omega, fun j y hj hy => by
              rcases Nat.lt_succ_iff_lt_or_eq.1 hj with h | rfl
              exact hinv j y h hy
              · obtain rfl := Option.some.inj (hx.symm.trans hy); simp_all; all_goals first | done | omega | trace_state⟩ (by omega) (.cons rfl (.cons rfl .nil)) (List.Sublist.refl _) (fun _ _ h => h)
            skip)
         skip)
      try simp only [ZZ] at h24
      refine JJ (Jm ?_); clear hK22 K22; refine Jm (J0 (hK20 ?_)); clear hK20 K20; refine sR fun K37 hK37 => Ji rfl (nK hK37 ?_); clear hK37 K37; refine Jb (pT rfl rfl rfl fun w1 hs1 => ?_); rw [h2 h0 (fun j y hy => hinv j y (by have := (List.getElem?_eq_some_iff.1 hy).1; omega) hy)]; exact ⟨rfl, hs1.keep⟩
      skip)
   skip)
theorem Juh {R : Jo} {s : StL} (hs : s.In R) : PureR Tryz.prog 12 [s.val].toArray (.bool (Jbn s.er)) R := by
  have hl := hs.len
  have hseg := hs.seg
  obtain ⟨⟨rb, rn⟩, hres⟩ : ∃ b, b = ZY 0 0 s.er := ⟨_, rfl⟩
  have hfs : Jbn s.er = (rb && (decide (s.accts.length ≤ 40) && decide (rn ≤ 40))) := by unfold Jbn; rw [← hres, s.er_len]
  rw [hfs]; refine Je Tryz.func12 rfl rfl fun w => ?_; refine sR fun K1 hK1 => ?_; refine Va (cs := s.cells.toArray) rfl rfl rfl rfl fun r1 => ?_; refine Ji rfl (nK hK1 ?_); clear hK1 K1; refine sR fun K2 hK2 => Ji rfl (nK hK2 ?_); clear hK2 K2; refine sQ fun K3 hK3 => sR fun K4 hK4 => ?_; refine Ji rfl (nK hK4 ?_); clear hK4 K4; refine Js (JL (σ := Nat × Int) (fun q => q.1 ≤ s.accts.length ∧ 0 ≤ q.2 ∧ q.2 ≤ 20 * q.1 ∧ q.1 ≤ 41 ∧ ZY q.1 q.2 (s.er.drop q.1) = (rb, rn)) (fun q => [(1, .pointer (some ⟨r1, 0, none⟩)), (3, .int .i64 q.2), (4, .int .i64 (q.1 : Int))]) (fun _ => [(r1, .cells s.cells.toArray 24 (0, 0))]) (fun _ _ _ => True) (fun q => s.accts.length - q.1) (0, 0) ⟨Nat.zero_le _, by omega, by omega, by omega, hres.symm⟩ (.cons rfl (.cons rfl (.cons rfl .nil))) (List.Sublist.refl _) (fun _ _ h => h) ?_); rintro ⟨i, n⟩ ⟨hi1, hn0, hn1, hi41, hinv⟩; simp only at hi1 hn0 hn1 hi41 hinv; change HC _ _ [(1, _), (3, .int .i64 n), (4, .int .i64 (i : Int))] _ _ _ _; refine sQ fun K5 hK5 => sR fun K6 hK6 => ?_; refine Ji rfl ?_
  refine LS 2 [0] rfl rfl ?_; refine LR rfl (J4 rfl hseg rfl) ?_; refine LS 2 [] rfl rfl ?_
  refine J6 11 rfl (fun hb7 => ?_) (fun hb7 => ?_) <;> (try simp only [ZZ] at hb7) <;> first | (refine Ji rfl ?_) | (refine LK rfl ?_)
  all_goals refine LW 2 [] rfl rfl ?_
  all_goals refine Jf ?_
  all_goals (
   refine hK6 ?_; clear hK6 K6; refine Jc rfl (fun h9 => ?_) (fun h9 => ?_)
   · try exact Bool.noConfusion h9
     all_goals try simp only [ZZ] at h9
     all_goals (
      refine Jg (hK5 ?_); clear hK5 K5; refine sB fun K10 hK10 => sQ fun K11 hK11 => ?_
      obtain ⟨a, ha, hma⟩ := Vt (show i < s.accts.length by omega)
      have ha2 := hs.accts a hma
      have hi40 : i ≤ 40 := by simp_all <;> omega
      refine Ja (LS 3 [0] rfl rfl ?_)
      refine LR rfl (Jr (j := i) rfl hseg rfl rfl rfl (by first | rfl | omega) (by omega)) ?_; refine LR rfl (KL AcL.len (fun q hq => Or.inr hq) rfl hseg ha rfl rfl) ?_; refine Jh rfl rfl rfl (enters_of Tryz.func22 (by kernel_rfl) rfl) (Jk5 ha2) (fun q hq => Or.inr hq) ?_; refine Ji rfl (nK hK11 ?_); clear hK11 K11; refine sQ fun K12 hK12 => sR fun K13 hK13 => ?_; refine LS 2 [] rfl rfl (nK hK13 ?_); clear hK13 K13; refine Jc rfl (fun h14 => ?_) (fun h14 => ?_)
      try simp only [ZZ] at h14
      refine sR fun K15 hK15 => Ji rfl (nK hK15 ?_); clear hK15 K15; refine Jb (Jd ?_); clear hK12 K12; refine Jn (Jd ?_); clear hK10 K10; refine Jd (Jn (Jd ?_)); clear hK3 K3; refine pT rfl rfl rfl fun w1 hs1 => ?_
      (have hff : Yv a.er = false := by simp_all
       have h1 := Jqp (n := n) (YD ha) hi40 hff
       rw [hinv] at h1
       rw [show rb = false from h1]; exact ⟨rfl, hs1.keep⟩)
      try simp only [ZZ] at h14
      refine Jg (hK12 ?_); clear hK12 K12
      have hft : Yv a.er = true := by simp_all
      have h20 := Jug hft
      have h20 : a.slots.length ≤ 20 := h20
      rw [Jqn (YD ha) hi40 hft] at hinv; refine Ja (LS 4 [0] rfl rfl ?_)
      refine LR rfl (Jr (j := i) rfl hseg rfl rfl rfl (by first | rfl | omega) (by omega)) ?_; refine LR rfl (Kz (off' := vN s.p + (i * 8 + 7)) rfl rfl (by show vN s.p + i * 8 + 7 = _; omega)) ?_; refine LR rfl (jQ AcL.len (k := 7) (v := KP a.slots.length a.p) (fun q hq => Or.inr hq) rfl hseg ha rfl rfl) ?_; refine LR rfl (J4 rfl ha2.seg rfl) ?_; refine JY rfl (Ju (by omega) (by omega) ?_); refine Ji rfl (Jf ?_); refine Jj (hK10 ?_); clear hK10 K10; refine Ja (LS 2 [] rfl rfl (Ju (by omega) (by omega) ?_)); refine Ji rfl (Jf (J8 ?_)); exact J2 (i + 1, n + (a.slots.length : Int)) ⟨by simp only; omega, by simp only; omega, by simp only; omega, by simp only; omega, hinv⟩ (by simp only; omega) (.cons rfl (.cons rfl (.cons rfl .nil))) (List.Sublist.refl _) (fun _ _ h => h)
      skip)
   · try simp only [ZZ] at h9
     refine JJ (Jm ?_); clear hK5 K5; refine Jm (J0 (hK3 ?_)); clear hK3 K3; refine sR fun K16 hK16 => ?_
     refine LS 2 [0] rfl rfl ?_; refine LR rfl (J4 rfl hseg rfl) ?_; refine LS 2 [] rfl rfl ?_
     refine J6 38 rfl (fun hb17 => ?_) (fun hb17 => ?_) <;> (try simp only [ZZ] at hb17) <;> first | (refine Ji rfl ?_) | (refine LK rfl ?_)
     all_goals refine LW 3 [] rfl rfl ?_
     all_goals refine Jf ?_
     all_goals (
      refine hK16 ?_; clear hK16 K16; refine Jb (pT rfl rfl rfl fun w1 hs1 => ?_)
      first
        | (have hff : Yv a.er = false := by simp_all
           have h1 := Jqp (n := n) (YD ha) hi40 hff
           rw [hinv] at h1
           rw [show rb = false from h1]; exact ⟨rfl, hs1.keep⟩)
        | (rw [Jqo (by rw [s.er_len]; omega)] at hinv
           obtain ⟨rfl, rfl⟩ := Prod.mk.inj hinv
           refine ⟨?_, hs1.keep⟩
           simp [JN]
           all_goals first | done | omega | trace_state)
        | trace_state
      skip)
   skip)
theorem yQ (a b : AcL) : a.er = b.er ↔ a.addr = b.addr ∧ a.nonce = b.nonce ∧ a.bal = b.bal ∧ a.code = b.code ∧ a.slots = b.slots := by
  unfold AcL.er
  simp
theorem qn {a b : AcL} (h : ¬ a.addr = b.addr ∨ ¬ a.nonce = b.nonce ∨ ¬ a.bal = b.bal ∨ ¬ a.code = b.code ∨ ¬ a.slots.length = b.slots.length) : ¬ a.er = b.er := fun e => by
  obtain ⟨h1, h2, h3, h4, h5⟩ := (yQ a b).1 e
  rcases h with h | h | h | h | h
  · exact h h1
  · exact h h2
  · exact h h3
  · exact h h4
  · exact h (by rw [h5])
theorem yR {R : Jo} {a b : AcL} (ha : a.In R) (hb : b.In R) : PureR Tryz.prog 16 [a.val, b.val].toArray (.bool (decide (a.er = b.er))) R := by
  have hl : a.slots.length ≤ 9223372036854775807 := ha.len
  have hl2 : b.slots.length ≤ 9223372036854775807 := hb.len
  have h1 := ha.seg
  have h2 := hb.seg
  refine Je Tryz.func16 rfl rfl fun w => ?_; refine sR fun K1 hK1 => ?_; refine Va (cs := a.cells.toArray) rfl rfl rfl rfl fun ra => ?_; refine Va (cs := b.cells.toArray) rfl rfl rfl rfl fun rb => ?_; refine Ji rfl (nK hK1 ?_); clear hK1 K1; refine sQ fun K2 hK2 => sR fun K3 hK3 => ?_; refine LS 2 [1] rfl rfl ?_
  refine LS 2 [0] rfl rfl ?_; refine LR rfl (Y2 rfl rfl) ?_; refine Ji rfl ?_
  refine J6 11 rfl (fun hb4 => ?_) (fun hb4 => ?_) <;> (try simp only [ZZ] at hb4) <;> first | (refine LR rfl (JM rfl rfl rfl) ?_) | (refine LK rfl ?_)
  all_goals refine LW 1 [1] rfl rfl ?_
  all_goals first
    | (refine LR rfl (JM rfl rfl rfl) ?_)
    | (refine LK rfl ?_)
  all_goals refine LW 2 [0] rfl rfl ?_
  all_goals first | (refine Jy (congrArg (fun b => Value.bool (!b)) (eqU a.nonce b.nonce)) ?_) | skip
  all_goals refine LW 2 [] rfl rfl ?_
  all_goals first
    | (refine LK rfl ?_)
    | (refine J6 18 rfl (fun hb9 => ?_) (fun hb9 => ?_) <;> (try simp only [ZZ] at hb9) <;> first | (refine LR rfl (JM rfl rfl rfl) ?_) | (refine LK rfl ?_))
  all_goals refine LW 1 [1] rfl rfl ?_
  all_goals first
    | (refine LR rfl (JM rfl rfl rfl) ?_)
    | (refine LK rfl ?_)
  all_goals refine LW 1 [0] rfl rfl ?_
  all_goals first
    | (refine LR rfl (Jgv rfl rfl rfl rfl rfl (by kernel_rfl) rfl rfl rfl rfl) ?_)
    | (refine LK rfl ?_)
  all_goals first | (refine Jy (congrArg (fun b => Value.bool (!b)) (eqW a.bal b.bal)) ?_) | skip
  all_goals refine LW 2 [] rfl rfl ?_
  all_goals first
    | (refine LK rfl ?_)
    | (refine J6 25 rfl (fun hb14 => ?_) (fun hb14 => ?_) <;> (try simp only [ZZ] at hb14) <;> first | (refine LR rfl (JM rfl rfl rfl) ?_) | (refine LK rfl ?_))
  all_goals refine LW 1 [1] rfl rfl ?_
  all_goals first
    | (refine LR rfl (JM rfl rfl rfl) ?_)
    | (refine LK rfl ?_)
  all_goals refine LW 1 [0] rfl rfl ?_
  all_goals first
    | (refine LR rfl (Y2 rfl rfl) ?_)
    | (refine LK rfl ?_)
  all_goals refine LW 2 [] rfl rfl ?_
  all_goals first
    | (refine LK rfl ?_)
    | (refine J6 32 rfl (fun hb19 => ?_) (fun hb19 => ?_) <;> (try simp only [ZZ] at hb19) <;> first | (refine LR rfl (JM rfl rfl rfl) ?_) | (refine LK rfl ?_))
  all_goals refine LW 1 [1] rfl rfl ?_
  all_goals first
    | (refine LR rfl (J4 rfl h1 rfl) ?_)
    | (refine LK rfl ?_)
  all_goals first
    | (refine LR rfl (JM rfl rfl rfl) ?_)
    | (refine LK rfl ?_)
  all_goals refine LW 1 [0] rfl rfl ?_
  all_goals first
    | (refine LR rfl (J4 rfl h2 rfl) ?_)
    | (refine LK rfl ?_)
  all_goals refine LW 2 [] rfl rfl ?_
  all_goals refine Jf ?_
  all_goals (
   refine hK3 ?_; clear hK3 K3; refine Jc rfl (fun h26 => ?_) (fun h26 => ?_)
   try simp only [ZZ] at h26
   refine sR fun K27 hK27 => Ji rfl (nK hK27 ?_); clear hK27 K27; refine Jb (Jd ?_); clear hK2 K2; refine pT rfl rfl rfl fun w1 hs1 => ?_; refine ⟨?_, hs1.keep⟩
   first
     | (rw [decide_eq_false (qn (.inl (by assumption)))]; rfl)
     | (rw [decide_eq_false (qn (.inr (.inl (by assumption))))]; rfl)
     | (rw [decide_eq_false (qn (.inr (.inr (.inl (by assumption)))))]; rfl)
     | (rw [decide_eq_false (qn (.inr (.inr (.inr (.inl (by assumption))))))]; rfl)
     | (rw [decide_eq_false (qn (.inr (.inr (.inr (.inr (by omega))))))]; rfl)
   · try exact Bool.noConfusion h26
     all_goals try simp only [ZZ] at h26
     all_goals (
      refine Jg (hK2 ?_); clear hK2 K2; refine sQ fun K28 hK28 => sR fun K29 hK29 => ?_; refine Ji rfl (nK hK29 ?_); clear hK29 K29; refine Js ?_
      have hll : a.slots.length = b.slots.length := by omega
      have hflat : a.addr = b.addr ∧ a.nonce = b.nonce ∧ a.bal = b.bal ∧ a.code = b.code := by simp_all
      refine JL (σ := Nat) (fun i => i ≤ a.slots.length ∧ ∀ j, j < i → a.slots[j]? = b.slots[j]?) (fun i => [(2, Value.pointer (some ⟨ra, 0, none⟩)), (3, Value.pointer (some ⟨rb, 0, none⟩)), (5, .int .i64 (i : Int))]) (fun _ => [(rb, .cells b.cells.toArray 34 (0, 0)), (ra, .cells a.cells.toArray 34 (0, 0))]) (fun _ _ _ => True) (fun i => a.slots.length - i) 0 ⟨by omega, fun j hj => absurd hj (by omega)⟩ (.cons rfl (.cons rfl (.cons rfl .nil))) (List.Sublist.refl _) (fun _ _ h => h) ?_; rintro i ⟨hi1, hinv⟩; refine sQ fun K30 hK30 => sR fun K31 hK31 => ?_; refine Ji rfl ?_
      refine LS 2 [1] rfl rfl ?_; refine LR rfl (J4 rfl h1 rfl) ?_; refine JY rfl (nK hK31 ?_); clear hK31 K31; refine Jc rfl (fun h32 => ?_) (fun h32 => ?_)
      try simp only [ZZ] at h32
      refine Jg (hK30 ?_); clear hK30 K30; refine sB fun K33 hK33 => sQ fun K34 hK34 => ?_
      obtain ⟨x, hx, hmx⟩ := Vt (show i < a.slots.length by omega)
      obtain ⟨y, hy, hmy⟩ := Vt (show i < b.slots.length by omega)
      refine Kc 11 (by kernel_rfl) (by kernel_rfl) ?_
      refine Jl rfl rfl rfl (JM rfl rfl rfl) ?_; refine Jl rfl rfl rfl (Jk rfl (kn 1 rfl) rfl rfl) ?_; refine Jl rfl rfl rfl (Jp rfl) ?_
      refine Jl rfl rfl rfl (Jr (j := i) rfl h1 rfl rfl rfl (by first | rfl | omega) (by omega)) ?_; refine Jl rfl rfl rfl (KL Kn (fun q hq => Or.inr hq) rfl h1 hx rfl rfl) ?_
      refine Jl rfl rfl rfl (JM rfl rfl rfl) ?_; refine Jl rfl rfl rfl (Jk rfl (kn 0 rfl) rfl rfl) ?_; refine Jl rfl rfl rfl (Jp rfl) ?_
      refine Jl rfl rfl rfl (Jr (j := i) rfl h2 rfl rfl rfl (by first | rfl | omega) (by omega)) ?_; refine Jl rfl rfl rfl (KL Kn (fun q hq => Or.inr hq) rfl h2 hy rfl rfl) ?_; refine Jl rfl rfl rfl (Jh5 rfl rfl rfl (by kernel_rfl) (by kernel_rfl) (.scal (by decide) rfl rfl rfl rfl rfl (.scal (by decide) rfl rfl rfl rfl rfl .nil))) ?_; refine QC (congrArg (fun b => Value.bool (!b)) (Jh7 x y)) ?_; refine KA ?_; refine nK hK34 ?_; clear hK34 K34; refine Jc rfl (fun h35 => ?_) (fun h35 => ?_)
      try simp only [ZZ] at h35
      refine sR fun K36 hK36 => Ji rfl (nK hK36 ?_); clear hK36 K36; refine Jb (Jn (Jd ?_)); clear hK33 K33; refine Jd (Jn (Jd ?_)); clear hK28 K28; refine pT rfl rfl rfl fun w1 hs1 => ?_; refine ⟨?_, hs1.keep⟩; rw [decide_eq_false (show ¬ a.er = b.er from fun e => Jn7 hx hy (by simp_all) ((yQ a b).1 e).2.2.2.2)]; rfl
      try simp only [ZZ] at h35
      refine Jg (Jj (hK33 ?_)); clear hK33 K33; refine Ja (LS 2 [] rfl rfl (Ju (by omega) (by omega) ?_)); refine Ji rfl (Jf (J8 ?_))
      exact J2 (i + 1) ⟨by omega, fun j hj => by
        rcases Nat.lt_succ_iff_lt_or_eq.1 hj with hj | rfl
        exact hinv j hj
        rw [hx, hy]; simp_all⟩ (by omega) (.cons rfl (.cons rfl (.cons rfl .nil))) (List.Sublist.refl _) (fun _ _ h => h)
      try simp only [ZZ] at h32
      refine JJ (Jm ?_); clear hK30 K30; refine Jm (J0 (hK28 ?_)); clear hK28 K28; refine sR fun K37 hK37 => Ji rfl (nK hK37 ?_); clear hK37 K37; refine Jb (pT rfl rfl rfl fun w1 hs1 => ?_); refine ⟨?_, hs1.keep⟩; rw [decide_eq_true ((yQ a b).2 ⟨hflat.1, hflat.2.1, hflat.2.2.1, hflat.2.2.2, Jn6 hll (by omega) hinv⟩)]; rfl
      skip)
   skip)
structure Stay (s t : StL) (a key : BS) : Prop where
  there : WX s a = true → WX t a = true
  oth : a ≠ A0 → a ≠ A1 → WX s a = WX t a ∧ (Wl s a).er = (Wl t a).er
  nonce : (Wl s a).nonce = (Wl t a).nonce
  bal : (Wl s a).bal = (Wl t a).bal
  slot : (a = A0 → ¬ Jf1 key) → Qn (Wl s a).er key = Qn (Wl t a).er key
theorem Jxn {α : Type} {p : α → Bool} {l : List α} {j : Nat} {x : α} (h : l[j]? = some x) (hp : p x = true) : l.any p = true := List.any_eq_true.2 ⟨x, List.mem_of_getElem? h, hp⟩
theorem Jqq {α : Type} {p : α → Bool} {l : List α} (h : ∀ (j : Nat) x, l[j]? = some x → p x = false) : l.any p = false := by
  rw [List.any_eq_false]; intro x hx
  obtain ⟨j, hj⟩ := List.getElem?_of_mem hx
  rw [h j x hj]; simp
structure RackI (a : AcL) (rb : Bool) (i : Nat) (rs sp : Bool) : Prop where
  le : i ≤ a.slots.length
  odd : ∀ (j : Nat) x, j < i → a.slots[j]? = some x → vy x = false
  rs : rs = true ↔ rb = true ∧ ∀ (j : Nat) x y, j + 1 < i → a.slots[j]? = some x → a.slots[j + 1]? = some y → Op.bytesLess x.1 y.1 = true
  sp : sp = true ↔ ∃ (j : Nat) (x : BS × BS), j < i ∧ a.slots[j]? = some x ∧ x.2 = Wc
theorem RackI.zero (a : AcL) (rb : Bool) : RackI a rb 0 rb false := ⟨Nat.zero_le _, fun _ _ h => absurd h (Nat.not_lt_zero _), by simp, by simp⟩
theorem RackI.next {a : AcL} {rb : Bool} {i : Nat} {rs sp rs' sp' : Bool} {x : BS × BS} (h : RackI a rb i rs sp) (hx : a.slots[i]? = some x) (ho : x.1.length = 32 ∧ x.2.length = 32)
    (hr : rs' = (rs && (decide (i = 0) || Op.bytesLess ((a.slots[i - 1]?.map Prod.fst).getD []) x.1))) (hp : sp' = (sp || decide (x.2 = Wc))) : RackI a rb (i + 1) rs' sp' := by
  have hlt := (List.getElem?_eq_some_iff.1 hx).1
  refine ⟨hlt, fun j y hj hy => ?_, ?_, ?_⟩
  · rcases Nat.lt_succ_iff_lt_or_eq.1 hj with hj | rfl
    · exact h.odd j y hj hy
    · rw [hx] at hy; cases hy
      unfold vy; simp [ho.1, ho.2]
  · rw [hr, Bool.and_eq_true, h.rs, Bool.or_eq_true, decide_eq_true_eq]
    constructor
    · rintro ⟨⟨h1, h2⟩, h3⟩
      refine ⟨h1, fun j u v hj hu hv => ?_⟩
      rcases Nat.lt_succ_iff_lt_or_eq.1 hj with hj | hj
      · exact h2 j u v hj hu hv
      · subst hj
        rw [hx] at hv; cases hv; rw [show j + 1 - 1 = j by omega, hu] at h3; exact h3.resolve_left (by omega)
    · rintro ⟨h1, h2⟩
      refine ⟨⟨h1, fun j u v hj hu hv => h2 j u v (by omega) hu hv⟩, ?_⟩
      rcases Nat.eq_zero_or_pos i with h0 | h0
      · exact .inl h0
      · obtain ⟨j, rfl⟩ : ∃ j, i = j + 1 := ⟨i - 1, by omega⟩
        obtain ⟨u, hu, -⟩ := Vt (show j < a.slots.length by omega)
        rw [show j + 1 - 1 = j by omega, hu]; exact .inr (h2 j u x (by omega) hu hx)
  · rw [hp, Bool.or_eq_true, h.sp, decide_eq_true_eq]
    constructor
    · rintro (⟨j, u, hj, hu, e⟩ | e)
      · exact ⟨j, u, by omega, hu, e⟩
      · exact ⟨i, x, by omega, hx, e⟩
    · rintro ⟨j, u, hj, hu, e⟩
      rcases Nat.lt_succ_iff_lt_or_eq.1 hj with hj | rfl
      · exact .inl ⟨j, u, hj, hu, e⟩
      · rw [hx] at hu; cases hu; exact .inr e
theorem RackI.done {a : AcL} {rb : Bool} {rs sp : Bool} (h : RackI a rb a.slots.length rs sp) : a.slots.any vy = false ∧ rs = (rb && Vr Prod.fst a.slots) ∧ sp = a.slots.any XY := by
  have hlt : ∀ (j : Nat) (x : BS × BS), a.slots[j]? = some x → j < a.slots.length := fun j x hx => (List.getElem?_eq_some_iff.1 hx).1
  refine ⟨Jqq fun j x hx => h.odd j x (hlt j x hx) hx, ?_, ?_⟩
  · rw [Bool.eq_iff_iff, h.rs, Bool.and_eq_true]
    refine and_congr_right fun _ => ⟨fun hh => ZH fun j x y hx hy => hh j x y (hlt _ _ hy) hx hy, fun hh j x y _ hx hy => ?_⟩
    cases hb : Op.bytesLess x.1 y.1
    · rw [jS hx hy hb] at hh; cases hh
    · rfl
  · rw [Bool.eq_iff_iff, h.sp]
    constructor
    · rintro ⟨j, x, _, hx, e⟩
      exact Jxn hx (by unfold XY; rw [e]; simp)
    · intro hh
      obtain ⟨x, hx, e⟩ := List.any_eq_true.1 hh
      obtain ⟨j, hj⟩ := List.getElem?_of_mem hx
      exact ⟨j, x, hlt j x hj, hj, by simpa [XY] using e⟩
structure OutI {α : Type} (f : α → List Value) (sz : Nat) (acc : List α) (n : Nat) (xs : List Value) (row : V5) : Prop where
  num : n = acc.length
  cells : xs = acc.flatMap f
  ok : rowOk sz n xs row
theorem OutI.nil {α : Type} {f : α → List Value} {sz : Nat} : OutI f sz [] 0 [] none := ⟨rfl, rfl, rfl, rfl⟩
open Go.Proofs (Enters enters_of)
theorem qo {k n : Int} {p : Pl} {x : Ty} {l : List Vl} (hk : (k = 3 ∧ (l.length : Int) = n) ∨ (k = 4 ∧ (l.length : Int) ≤ n)) (h : ∀ v ∈ l, JW v x = 0) : JW (JX l 0) (.mk k n p [x]) = 0 := by
  have hL : ∀ (l : List Vl) (i : Nat), (∀ v ∈ l, JW v x = 0) → Qt l k 0 [x] i = 0 := by
    intro l
    induction l with
    | nil => intro i _; rw [Qt]
    | cons v l ih =>
      intro i h
      have e : JC k 0 [x] i = x := by unfold JC VX; rcases hk with ⟨rfl, _⟩ | ⟨rfl, _⟩ <;> rfl
      rw [Qt, e, if_pos (h v (by simp)), ih _ (fun w hw => h w (by simp [hw]))]
  unfold JX
  rw [W8 ?_ ?_, hL l 0 h]
  · rcases hk with ⟨rfl, h1⟩ | ⟨rfl, h1⟩ <;> simp <;> omega
  · rw [KY k n _ 0 0 0 0 [] none l none 0 _ rfl]
    rcases hk with ⟨rfl, h1⟩ | ⟨rfl, h1⟩ <;> simp [KK, h1]
theorem yS {a b c d : Nat} {n : Int} {p : Pl} (h : ((Qp [a, b, c, d]).length : Int) ≤ n) : JW (.mk a b c d [] none [] none 0) (.mk 1 n p []) = 0 := by
  rw [W8 (by simp) (by rw [KY 1 n _ a b c d [] none [] none 0 _ rfl]; simp [KK, h]), Qt]
theorem Jxo : ∀ i : Fin 256, (Qp [i.val, 0, 0, 0]).length ≤ 1 := by decide +kernel
theorem Jqr (b : UInt8) : JW (jd b) byT = 0 := yS (by have := Jxo ⟨b.toNat, Vg b⟩; simp only at this; omega)
theorem Jbo {s : BS} {n : Int} (h : (s.length : Int) = n) : JW (Zu s) (Wt 3 n) = 0 := qo (.inl ⟨rfl, by rw [List.length_map]; exact h⟩) fun v hv => by obtain ⟨b, _, rfl⟩ := List.mem_map.1 hv; exact Jqr b
theorem Jui {s : BS} {n : Int} (h : (s.length : Int) ≤ n) : JW (Zu s) (Wt 4 n) = 0 := qo (.inr ⟨rfl, by rw [List.length_map]; exact h⟩) fun v hv => by obtain ⟨b, _, rfl⟩ := List.mem_map.1 hv; exact Jqr b
theorem Juj {x : BS × BS} (h1 : x.1.length = 32) (h2 : x.2.length = 32) : JW (Ya x) qj = 0 := by
  unfold Ya qj JX
  rw [W8 (by simp) (by rw [KY 7 0 _ 0 0 0 0 [] none _ none 0 _ rfl]; simp [KK]), Qt, show JC 7 0 [Wt 3 32, Wt 3 32] 0 = Wt 3 32 from rfl, if_pos (Jbo (by omega)), Qt, show JC 7 0 [Wt 3 32, Wt 3 32] (0 + 1) = Wt 3 32 from rfl, if_pos (Jbo (by omega)), Qt]
theorem Juk {n : Nat} (h : XD n) : (Qp [n, 0, 0, 0]).length ≤ 8 := by
  have h1 := zy (l := [n, 0, 0, 0]) (Jwj h)
  rw [Jct] at h1; exact of_decide_eq_true h1.symm
theorem Jxp {a : AcE} (h : Yy a = 0) (hn : XD a.nonce) : JW (xq a) acT = 0 := by
  obtain ⟨h1, h2, _, h4, h5⟩ := Wk h
  obtain ⟨I, hI⟩ : ∃ I, I = [Wt 3 20, .mk 1 8 none [], .mk 1 32 none [], Wt 4 512, .mk 4 16 none [qj]] := ⟨_, rfl⟩
  have e0 : JC 7 0 I 0 = Wt 3 20 := by rw [hI]; rfl
  have e1 : JC 7 0 I (0 + 1) = .mk 1 8 none [] := by rw [hI]; rfl
  have e2 : JC 7 0 I (0 + 1 + 1) = .mk 1 32 none [] := by rw [hI]; rfl
  have e3 : JC 7 0 I (0 + 1 + 1 + 1) = Wt 4 512 := by rw [hI]; rfl
  have e4 : JC 7 0 I (0 + 1 + 1 + 1 + 1) = .mk 4 16 none [qj] := by rw [hI]; rfl
  have hl : I.length = 5 := by rw [hI]; rfl
  have hsl : JW (Vl.mk 0 0 0 0 [] none (a.slots.map Ya) none 0) (.mk 4 16 none [qj]) = 0 := qo (.inr ⟨rfl, by rw [List.length_map]; omega⟩) fun v hv => by
    obtain ⟨x, hx, rfl⟩ := List.mem_map.1 hv
    exact Juj (h2 x hx).1 (h2 x hx).2.1
  unfold xq acT JX
  rw [← hI, W8 (by simp) (by rw [hl, KY 7 0 _ 0 0 0 0 [] none _ none 0 _ rfl]; simp [KK]), Qt, e0, if_pos (Jbo (by omega)), Qt, e1, if_pos (yS (by have := Juk hn; omega)), Qt, e2, if_pos (yS (by have := jl [a.bal.a, a.bal.b, a.bal.c, a.bal.d]; omega)),
    Qt, e3, if_pos (Jui (by omega)), Qt, e4, if_pos hsl, Qt]
theorem Jul {l : List AcE} (h : Qa l = 0) (hn : ∀ a ∈ l, XD a.nonce) : QT Qg (VI l) = 0 := by
  obtain ⟨h1, h2, _⟩ := wO.1 h
  unfold QT
  rw [if_pos YL]
  exact qo (.inr ⟨rfl, by rw [List.length_map]; omega⟩) fun v hv => by
    obtain ⟨a, ha, rfl⟩ := List.mem_map.1 hv
    exact Jxp (h2 a ha) (hn a ha)
theorem Jbp {s : StL} (h : Qa s.er = 0) : s.accts.length ≤ 100000 ∧ ∀ a ∈ s.accts, Ac1 a := by
  obtain ⟨h1, h2, _⟩ := wO.1 h
  rw [s.er_len] at h1; refine ⟨by omega, fun a ha => ?_⟩
  obtain ⟨g1, g2, _, g4, g5⟩ := Wk (h2 a.er (List.mem_map.2 ⟨a, ha, rfl⟩))
  change a.addr.length = 20 at g1; change a.code.length ≤ 512 at g4; change a.slots.length ≤ 16 at g5; exact ⟨by omega, by omega, by omega, fun x hx => by obtain ⟨e1, e2, _⟩ := g2 x hx; omega⟩
theorem Jqs {R : Jo} {s : StL} (hs : s.In R) (h : Qa s.er = 0) : QT Qg (VI s.er) = 0 := Jul h fun a ha => by
  obtain ⟨b, hb, rfl⟩ := List.mem_map.1 ha
  exact (hs.accts b hb).nonce
theorem Jes : ∀ l : List Vl, (∀ x ∈ l, Nonempty (VR x)) → ∃ (ys : List Vl) (L : Jo), ys.map VH = l ∧ ∀ y ∈ ys, y.In L
  | [], _ => ⟨[], [], rfl, fun y hy => nomatch hy⟩
  | x :: l, h => by
    obtain ⟨ys, L, h1, h2⟩ := Jes l fun y hy => h y (List.mem_cons_of_mem _ hy)
    obtain ⟨v⟩ := h x List.mem_cons_self
    refine ⟨v.x :: ys, v.L ++ L, by rw [List.map_cons, v.er, h1], fun y hy => ?_⟩
    rcases List.mem_cons.1 hy with rfl | hy
    · exact v.ok.mono fun q hq => List.mem_append_left _ hq
    · exact (h2 y hy).mono fun q hq => List.mem_append_right _ hq
theorem ZT {l : List Vl} (h : ∀ x ∈ l, Nonempty (VR x)) (hl : l.length ≤ 100000) : Nonempty (VR (JX l 0)) := by
  obtain ⟨ys, L, h1, h2⟩ := Jes l h
  have hy : ys.length = l.length := by rw [← h1, List.length_map]
  exact ⟨⟨.mk 0 0 0 0 [] none ys (some (⟨0, 0, none⟩, ys.length)) 0, (0, .cells (Qf ys).toArray 0 (0, 0)) :: L, .mk u0 u0 u0 u0 (by decide) rfl (by omega) ⟨Nat.le_refl _, fun _ => ⟨rfl, _, 0, (0, 0), List.mem_cons_self, by rw [List.drop_zero, List.toList_toArray, List.take_length]⟩⟩ i0 fun x hx => (h2 x hx).mono fun q hq => List.mem_cons_of_mem _ hq, by rw [KE, QZ, h1]; rfl⟩⟩
theorem Jje {a b c d : Nat} (ha : XD a) (hb : XD b) (hc : XD c) (hd : XD d) : Nonempty (VR (.mk a b c d [] none [] none 0)) :=
  ⟨⟨.mk a b c d [] none [] none 0, [], .mk ha hb hc hd (by decide) rfl (by decide) rfl i0 (fun x hx => nomatch hx), by rw [KE, Xe]⟩⟩
theorem Jbq {s : BS} (hl : s.length ≤ 100000) : Nonempty (VR (Zu s)) := ⟨Jp9 hl⟩
theorem Jxq {a : AcL} (h : Ac1 a) (hn : XD a.nonce) (hb : a.bal.ok) : Nonempty (VR (xq a.er)) := by
  obtain ⟨h1, h2, h3, h4⟩ := h
  refine ZT (fun x hx => ?_) (by show 5 ≤ 100000; decide); simp only [List.mem_cons, List.not_mem_nil, or_false] at hx
  rcases hx with rfl | rfl | rfl | rfl | rfl
  · exact Jbq h1
  · exact Jje hn u0 u0 u0
  · exact Jje hb.a hb.b hb.c hb.d
  · exact Jbq h2
  · refine ZT (fun x hx => ?_) (by rw [List.length_map]; exact h3)
    obtain ⟨⟨k, v⟩, hy, rfl⟩ := List.mem_map.1 hx
    refine ZT (fun x hx => ?_) (by show 2 ≤ 100000; decide); simp only [List.mem_cons, List.not_mem_nil, or_false] at hx
    rcases hx with rfl | rfl
    · exact Jbq (h4 _ hy).1
    · exact Jbq (h4 _ hy).2
theorem Jgk {R : Jo} {s : StL} (hs : s.In R) (h : Qa s.er = 0) : Nonempty (VR (VI s.er)) := by
  obtain ⟨hn, hb⟩ := Jbp h
  refine ZT (fun x hx => ?_) (by rw [List.length_map, s.er_len]; exact hn)
  obtain ⟨a, ha, rfl⟩ := List.mem_map.1 hx
  obtain ⟨b, hb2, rfl⟩ := List.mem_map.1 ha
  exact Jxq (hb b hb2) (hs.accts b hb2).nonce (hs.accts b hb2).bal
def trSta : TR Qg := ⟨Jpn 0 0 0 0 0 0 0 0, [(0, Jku 0), (0, .cells #[.int .i64 3, .int .i64 32, .slice (some ⟨0, 0, none⟩) 1 1, .int .i64 3, .int .i64 32, .slice (some ⟨0, 0, none⟩) 1 1] 0 (0, 0)), (0, .cells #[.int .i64 7, .int .i64 0, .slice (some ⟨0, 0, none⟩) 2 2] 0 (0, 0)),
  (0, .cells #[.int .i64 3, .int .i64 20, .slice (some ⟨0, 0, none⟩) 1 1, .int .i64 1, .int .i64 8, .slice none 0 0, .int .i64 1, .int .i64 32, .slice none 0 0, .int .i64 4, .int .i64 512, .slice (some ⟨0, 0, none⟩) 1 1, .int .i64 4, .int .i64 16, .slice (some ⟨0, 0, none⟩) 1 1] 0 (0, 0)),
  (0, .cells #[.int .i64 7, .int .i64 0, .slice (some ⟨0, 0, none⟩) 5 5] 0 (0, 0))], Jix (e := 0) (by simp) (by simp) (by simp) (by simp) (by simp) (by simp) (by simp) (by simp), Jiy ..⟩
theorem Jjf (t : Ty) (v : Vl) : Ws t (VH v) = Ws t v := by unfold Ws QT; rw [Jbh, Jgf]
theorem Jqt (t : Ty) (v : Vl) : Yu t (VH v) = Yu t v := by unfold Yu QT; rw [Jbh, Jtm]
theorem Jum {T : Ty} {V : Vl} (t : TR T) (v : VR V) : Ws t.x v.x = Ws T V := by obtain ⟨x, L, ok, rfl⟩ := t; obtain ⟨y, M, ok2, rfl⟩ := v; rw [Jpz, Jjf]
theorem Jqu {T : Ty} {V : Vl} (t : TR T) (v : VR V) : Yu t.x v.x = Yu T V := by obtain ⟨x, L, ok, rfl⟩ := t; obtain ⟨y, M, ok2, rfl⟩ := v; rw [Jkz, Jqt]
theorem Jun (t : TR Qg) : V0 t.x 0 = 0 := by rw [← ql, t.er]; exact YL
theorem Jet {l : List AcE} (h : Qa l = 0) (hf : QT Qg (VI l) = 0) : qm l = (KB (VI l) Qg, 0) := by
  unfold qm Yu
  rw [if_neg (by omega), if_neg (by omega)]
theorem ZU {R : Jo} {s : StL} (hs : s.In R) (hw : Qa s.er = 0 → wV (VI s.er) ≤ 20000) : PureR Tryz.prog 27 [s.val].toArray (jm (Qs s.er)) R := by
  have hC := WC hs
  have hac := Jbp (s := s)
  have hlay := Jgk hs
  have hfit := Jqs hs
  have hb0 : Qa s.er ≠ 0 → Qs s.er = ([], Qa s.er) := fun h => by unfold Qs; rw [if_pos h]
  have hb1 : Qa s.er = 0 → Qs s.er = Ws Qg (VI s.er) := fun h => by unfold Qs; rw [if_neg (by omega)]
  obtain ⟨accts, p⟩ := s
  generalize hz0 : Qa (StL.er ⟨accts, p⟩) = z at *
  refine Je Tryz.func27 rfl rfl fun w => ?_; refine sR fun _ hK1 => ?_; refine LN rfl fun r1 => ?_; refine LS 2 [] rfl rfl (nK hK1 ?_); refine sQ fun _ hK2 => sR fun _ hK3 => ?_; refine LR rfl (Jw (vs := [_]) rfl (kn 0 rfl) rfl rfl rfl rfl) ?_; refine Jh rfl rfl rfl Jfh hC (fun q hq => Or.inr hq) ?_; refine Ji rfl (nK hK3 ?_); refine sR fun _ hK4 => LS 2 [] rfl rfl (nK hK4 ?_); refine Jc rfl (fun h5 => ?_) (fun h5 => ?_)
  try simp only [ZZ] at h5
  refine sR fun _ hK6 => LS 3 [] rfl rfl (nK hK6 ?_); refine Jb (Jd ?_); refine Jt rfl rfl (.cons (J1 rfl) (.cons (J1 rfl) .nil)) (fun w1 hs1 => ?_); refine ⟨?_, hs1.keep⟩; rw [hb0 (by assumption)]; rfl
  · try simp only [ZZ] at h5
    refine Jg (hK2 ?_); refine sQ fun _ hK7 => ?_
    have hz : z = 0 := by assumption
    obtain ⟨hn, hb⟩ := hac hz
    obtain ⟨v0⟩ := hlay hz
    have hww := hw hz
    refine JS [(r1, .cells #[KP accts.length p] 24 (0, 0))] [(0, .grow (Qz trSta (fun y => y.x.val) (fun y => y.L))), (1, .pure), (2, .pure), (3, .grow (Qz v0 (fun y => y.x.val) (fun y => y.L))), (5, .pure), (6, .pure)] 7 [1, 2, 0, 3, 4, 5, 6] (by kernel_rfl) (by kernel_rfl) (by first | exact (fun _ h => absurd h List.not_mem_nil) | simp [SubS] | (intro p hp; simp [hp])) ?_
    refine Jv (k := 1) rfl rfl rfl rfl rfl (fun _ hS => (JM rfl rfl rfl)) ?_; refine Jv (k := 2) rfl rfl rfl rfl rfl (fun _ hS => (Jk rfl (.inl (hS _ (Kw (n := 0) rfl))) rfl rfl)) ?_; refine Qe (k := 0) rfl rfl rfl rfl rfl Jv7 Jbe (fun q hq => nomatch hq) fun t => ?_; refine Qe (k := 3) rfl rfl rfl rfl rfl (enters_of Tryz.func54 (by kernel_rfl) rfl) (Jjc hs hn hb) (fun q hq => Or.inr hq) fun v => ?_
    refine Qq (k := 4) (Rl := v.L ++ t.L) rfl rfl rfl rfl rfl (enters_of Tryz.func52 (by kernel_rfl) rfl) (Jol (t.ok.mono fun q hq => List.mem_append_right _ hq) (v.ok.mono fun q hq => List.mem_append_left _ hq) (by rw [← Jpv v.x, v.er]; exact hww)) (fun q hq => .inl (by rcases List.mem_append.1 hq with h | h <;> simp [h])) ?_; refine WK (congrArg jm (Jum t v)) ?_; refine Jv (k := 5) rfl rfl rfl rfl rfl (fun _ hS => (Qm rfl rfl)) ?_; refine Jv (k := 6) rfl rfl rfl rfl rfl (fun _ hS => (Qm rfl rfl)) ?_; refine KD ?_; refine LS 2 [] rfl rfl (nK hK7 ?_); refine Jb ?_; refine Jt rfl rfl (.cons (J1 rfl) (.cons (J1 rfl) .nil)) (fun w1 hs1 => ?_); refine ⟨?_, hs1.keep⟩; rw [hb1 hz]; rfl
theorem Jeu {R : Jo} {s : StL} (hs : s.In R) (hw : Qa s.er = 0 → wV (VI s.er) ≤ 20000) : PureR Tryz.prog 29 [s.val].toArray (jm (qm s.er)) R := by
  have hC := WC hs
  have hac := Jbp (s := s)
  have hlay := Jgk hs
  have hfit := Jqs hs
  have hb0 : Qa s.er ≠ 0 → qm s.er = ([], Qa s.er) := fun h => by unfold qm; rw [if_pos h]
  have hb1 : Qa s.er = 0 → qm s.er = Yu Qg (VI s.er) := fun h => by unfold qm; rw [if_neg (by omega)]
  obtain ⟨accts, p⟩ := s
  generalize hz0 : Qa (StL.er ⟨accts, p⟩) = z at *
  refine Je Tryz.func29 rfl rfl fun w => ?_; refine sR fun _ hK1 => ?_; refine LN rfl fun r1 => ?_; refine LS 2 [] rfl rfl (nK hK1 ?_); refine sQ fun _ hK2 => sR fun _ hK3 => ?_; refine LR rfl (Jw (vs := [_]) rfl (kn 0 rfl) rfl rfl rfl rfl) ?_; refine Jh rfl rfl rfl Jfh hC (fun q hq => Or.inr hq) ?_; refine Ji rfl (nK hK3 ?_); refine sR fun _ hK4 => LS 2 [] rfl rfl (nK hK4 ?_); refine Jc rfl (fun h5 => ?_) (fun h5 => ?_)
  try simp only [ZZ] at h5
  refine sR fun _ hK6 => LS 3 [] rfl rfl (nK hK6 ?_); refine Jb (Jd ?_); refine Jt rfl rfl (.cons (J1 rfl) (.cons (J1 rfl) .nil)) (fun w1 hs1 => ?_); refine ⟨?_, hs1.keep⟩; rw [hb0 (by assumption)]; rfl
  · try simp only [ZZ] at h5
    refine Jg (hK2 ?_); refine sQ fun _ hK7 => ?_
    have hz : z = 0 := by assumption
    obtain ⟨hn, hb⟩ := hac hz
    obtain ⟨v0⟩ := hlay hz
    have hww := hw hz
    refine JS [(r1, .cells #[KP accts.length p] 24 (0, 0))] [(0, .grow (Qz trSta (fun y => y.x.val) (fun y => y.L))), (1, .pure), (2, .pure), (3, .grow (Qz v0 (fun y => y.x.val) (fun y => y.L))), (5, .pure), (6, .pure)] 7 [1, 2, 0, 3, 4, 5, 6] (by kernel_rfl) (by kernel_rfl) (by first | exact (fun _ h => absurd h List.not_mem_nil) | simp [SubS] | (intro p hp; simp [hp])) ?_
    refine Jv (k := 1) rfl rfl rfl rfl rfl (fun _ hS => (JM rfl rfl rfl)) ?_; refine Jv (k := 2) rfl rfl rfl rfl rfl (fun _ hS => (Jk rfl (.inl (hS _ (Kw (n := 0) rfl))) rfl rfl)) ?_; refine Qe (k := 0) rfl rfl rfl rfl rfl Jv7 Jbe (fun q hq => nomatch hq) fun t => ?_; refine Qe (k := 3) rfl rfl rfl rfl rfl (enters_of Tryz.func54 (by kernel_rfl) rfl) (Jjc hs hn hb) (fun q hq => Or.inr hq) fun v => ?_
    refine Qq (k := 4) (Rl := v.L ++ t.L) rfl rfl rfl rfl rfl (enters_of Tryz.func58 (by kernel_rfl) rfl) (Jtw (t.ok.mono fun q hq => List.mem_append_right _ hq) (v.ok.mono fun q hq => List.mem_append_left _ hq) (by rw [← Jpv v.x, v.er]; exact hww)) (fun q hq => .inl (by rcases List.mem_append.1 hq with h | h <;> simp [h])) ?_; refine WK (congrArg jm (Jqu t v)) ?_; refine Jv (k := 5) rfl rfl rfl rfl rfl (fun _ hS => (Qm rfl rfl)) ?_; refine Jv (k := 6) rfl rfl rfl rfl rfl (fun _ hS => (Qm rfl rfl)) ?_; refine KD ?_; refine LS 2 [] rfl rfl (nK hK7 ?_); refine Jb ?_; refine Jt rfl rfl (.cons (J1 rfl) (.cons (J1 rfl) .nil)) (fun w1 hs1 => ?_); refine ⟨?_, hs1.keep⟩; rw [hb1 hz]; rfl
theorem Juo (n : Nat) : wv [n, 0, 0, 0] = .tuple #[uV n, .bool true] := by unfold wv; rw [Jct]; rfl
theorem Jbr {R : Jo} {a b c d : Nat} {bits : List Bool} {pb : Pl} {items : List Vl} {pi : Pl} {pick : Int} (h : Vl.In R (.mk a b c d bits pb items pi pick)) : Seg R items.length (Qf items) pi := by cases h; assumption
theorem Jqv {R : Jo} {a b c d : Nat} {bits : List Bool} {pb : Pl} {items : List Vl} {pi : Pl} {pick : Int} (h : Vl.In R (.mk a b c d bits pb items pi pick)) : W4.ok ⟨a, b, c, d⟩ := by cases h; exact ⟨by assumption, by assumption, by assumption, by assumption⟩
theorem YN {a b c d : Nat} {bits : List Bool} {pb : Pl} {items : List Vl} {pi : Pl} {pick k n : Int} {p : Pl} {ins : List Ty} (h : JW (.mk a b c d bits pb items pi pick) (.mk k n p ins) = 0) : ¬ (k = 4 ∧ n < items.length) ∧ zt k n ins.length (.mk a b c d bits pb items pi pick) = true ∧ Qt items k pick ins 0 = 0 := by
  rw [JW] at h
  split at h
  · cases h
  · rename_i h1
    split at h
    · cases h
    · rename_i h2
      exact ⟨fun e => h1 (.inl e), by simpa using h2, h⟩
theorem Yw {v : Vl} {n : Int} {p : Pl} {x : Ty} (h : JW v (.mk 4 n p [x]) = 0) : (v.items.length : Int) ≤ n ∧ ∀ y ∈ v.items, JW y x = 0 := by
  obtain ⟨a, b, c, d, bits, pb, items, pi, pick⟩ := v
  obtain ⟨h1, _, h3⟩ := YN h
  refine ⟨by show (items.length : Int) ≤ n; omega, fun y hy => ?_⟩
  obtain ⟨j, hj⟩ := List.getElem?_of_mem hy
  exact VB h3 hj
theorem Jbs {v : Vl} {n : Int} {p : Pl} {x : Ty} (h : JW v (.mk 3 n p [x]) = 0) : (v.items.length : Int) = n := by
  obtain ⟨a, b, c, d, bits, pb, items, pi, pick⟩ := v
  obtain ⟨_, h2, _⟩ := YN h
  rw [KY 3 n _ a b c d bits pb items pi pick _ rfl] at h2; simp at h2; exact h2.2
theorem wg {v : Vl} {p : Pl} {ins : List Ty} (h : JW v (.mk 7 0 p ins) = 0) : v.items.length = ins.length ∧ ∀ (j : Nat) y, v.items[j]? = some y → JW y (ins.getD j default) = 0 := by
  obtain ⟨a, b, c, d, bits, pb, items, pi, pick⟩ := v
  obtain ⟨_, h2, h3⟩ := YN h
  rw [KY 7 0 _ a b c d bits pb items pi pick _ rfl] at h2; simp at h2; refine ⟨h2.2, fun j y hy => ?_⟩
  have := VB h3 hy
  rw [Nat.zero_add] at this; exact this
theorem Jqw {R : Jo} {v : Vl} {p : Pl} {ins : List Ty} (hv : v.In R) (h : JW v (.mk 1 8 p ins) = 0) : ∃ n, v.num = [n, 0, 0, 0] ∧ XD n := by
  obtain ⟨a, b, c, d, bits, pb, items, pi, pick⟩ := v
  obtain ⟨_, h2, _⟩ := YN h
  rw [KY 1 8 _ a b c d bits pb items pi pick _ rfl] at h2; simp at h2
  have hw := Jqv hv
  have h1 := zy (l := [a, b, c, d]) hw.wok
  rw [decide_eq_true (by have := h2.2; omega)] at h1; exact ⟨a, (Jnc h1).symm, hw.a⟩
theorem Jqx {z : Vl} (h : JW z qj = 0) : ∃ k0 k1, z.items = [k0, k1] ∧ k0.items.length = 32 ∧ k1.items.length = 32 := by
  obtain ⟨h1, h2⟩ := wg h
  match hz : z.items, h1 with
  | [k0, k1], _ =>
    have e0 := h2 0 k0 (by rw [hz]; rfl)
    have e1 := h2 1 k1 (by rw [hz]; rfl)
    exact ⟨k0, k1, rfl, by have := Jbs e0; omega, by have := Jbs e1; omega⟩
theorem Jup {R : Jo} {x : Vl} (hx : x.In R) (h : JW x acT = 0) : ∃ p0 p1 p2 p3 p4 : Vl, x.items = [p0, p1, p2, p3, p4] ∧ p0.items.length = 20 ∧ (p1.num.getD 1 0 = 0 ∧ p1.num.getD 2 0 = 0 ∧ p1.num.getD 3 0 = 0 ∧ XD (p1.num.getD 0 0)) ∧ True ∧ p3.items.length ≤ 512 ∧ (p4.items.length ≤ 16 ∧ ∀ z ∈ p4.items, ∃ k0 k1, z.items = [k0, k1] ∧ k0.items.length = 32 ∧ k1.items.length = 32) := by
  obtain ⟨h1, h2⟩ := wg h
  match hz : x.items, h1 with
  | [p0, p1, p2, p3, p4], _ =>
    have e0 := h2 0 p0 (by rw [hz]; rfl)
    have e1 := h2 1 p1 (by rw [hz]; rfl)
    have e3 := h2 3 p3 (by rw [hz]; rfl)
    have e4 := h2 4 p4 (by rw [hz]; rfl)
    have hi1 : p1.In R := by obtain ⟨a, b, c, d, bits, pb, items, pi, pick⟩ := x; exact hx.sub p1 (by show p1 ∈ items; rw [show items = _ from hz]; simp)
    obtain ⟨n, hn, hu⟩ := Jqw hi1 e1
    obtain ⟨g3, _⟩ := Yw e3
    obtain ⟨g4, g5⟩ := Yw e4
    refine ⟨p0, p1, p2, p3, p4, rfl, by have := Jbs e0; omega, by rw [hn]; exact ⟨rfl, rfl, rfl, hu⟩, trivial, by omega, by omega, fun z hz => Jqx (g5 z hz)⟩
theorem Jzh {gv : Vl} {ya yb yc yd : Nat} {ybits : List Bool} {ypb : Pl} {yitems : List Vl} {ypi : Pl} {ypick : Int} (h : JW gv Qg = 0) (e : VH (.mk ya yb yc yd ybits ypb yitems ypi ypick) = gv) : (yitems.length : Int) ≤ 32 ∧ ∀ y ∈ yitems, JW y acT = 0 := by
  rw [← e, Jbh] at h; exact Yw h
theorem qp (v : Vl) : (VH v).items = v.items.map VH := by obtain ⟨a, b, c, d, bits, pb, items, pi, pick⟩ := v; rw [KE, QZ]; rfl
theorem Jgl (v : Vl) : (VH v).num = v.num := by obtain ⟨a, b, c, d, bits, pb, items, pi, pick⟩ := v; rw [KE]; rfl
theorem Jbt (v : Vl) : XC (VH v) = XC v := by
  unfold XC; rw [qp, List.map_map]; exact List.map_congr_left fun x _ => by show UInt8.ofNat ((VH x).num.getD 0 0) = _; rw [Jgl]
theorem v0_er : VH v0L = v0L := by unfold v0L; rw [KE, Xe]
theorem YO (v : Vl) (i : Nat) : Wu (VH v) i = VH (Wu v i) := by
  unfold Wu
  rw [qp, List.getD_eq_getElem?_getD, List.getD_eq_getElem?_getD, List.getElem?_map]
  cases v.items[i]? with
  | none => exact v0_er.symm
  | some x => rfl
theorem Juq (v : Vl) : Wv (VH v) = Wv v := by unfold Wv; rw [YO, YO, Jbt, Jbt]
theorem Jxr (v : Vl) : acB (VH v) = acB v := by
  unfold acB w4B
  rw [YO, YO, YO, YO, YO, Jbt, Jbt, Jgl, Jgl, qp, List.map_map, show (Wv ∘ VH) = Wv from funext Juq]
theorem Jjg (v : Vl) : YM (VH v) = YM v := by unfold YM; rw [qp, List.map_map, show (acB ∘ VH) = acB from funext Jxr]
theorem Jqy {l : List Vl} {j : Nat} {a b c d : Nat} {bits : List Bool} {pb pi : Pl} {k0 k1 : Vl} {pick : Int} {cs : List Value} (h : l[j]? = some (.mk a b c d bits pb [k0, k1] pi pick)) (hc : cs = [J3 (XC k0), J3 (XC k1)]) : wQ ((l.take j).map Wv) ++ cs = wQ ((l.take (j + 1)).map Wv) := by
  rw [Ks h, List.map_append, hc]; unfold wQ; rw [List.flatMap_append]; rfl
theorem wh (v : Vl) : (XC v).length = v.items.length := by unfold XC; rw [List.length_map]
theorem Jxs {acs : List AcL} {E S : Jo} {p0a p0b p0c p0d p3a p3b p3c p3d : Nat} {p0bi p3bi : List Bool} {p0pb p0pi p3pb p3pi p : Pl} {p0it p3it zs : List Vl} {p0pk p3pk : Int} {n : Nat} {w : W4} (hin : ∀ a ∈ acs, AcL.In E a) (hs : Seg S (zs.map Wv).length (wQ (zs.map Wv)) p) (h0 : p0it.length = 20) (h3 : p3it.length ≤ 512) (hz : zs.length ≤ 16) (hn : XD n) (hw : w.ok) (hzz : ∀ z ∈ zs, ∃ k0 k1, z.items = [k0, k1] ∧ k0.items.length = 32 ∧ k1.items.length = 32) {q : AcL}
    (hq : q ∈ acs ++ [(⟨XC (.mk p0a p0b p0c p0d p0bi p0pb p0it p0pi p0pk), n, w, XC (.mk p3a p3b p3c p3d p3bi p3pb p3it p3pi p3pk), zs.map Wv, p⟩ : AcL)]) : AcL.In (S ++ E) q := by
  rcases List.mem_append.1 hq with hq | hq
  · exact (hin q hq).mono fun p hp => List.mem_append_right _ hp
  · rw [List.mem_singleton.1 hq]
    refine ⟨?_, hn, hw, ?_, ?_, hs.mono fun p hp => List.mem_append_left _ hp, fun x hx => ?_⟩
    · show (XC _).length ≤ WR; rw [wh]; show p0it.length ≤ WR; unfold WR; omega
    · show (XC _).length ≤ WR; rw [wh]; show p3it.length ≤ WR; unfold WR; omega
    · show (zs.map Wv).length ≤ WR; rw [List.length_map]; unfold WR; omega
    · obtain ⟨z, hz, rfl⟩ := List.mem_map.1 hx
      obtain ⟨k0, k1, e, e0, e1⟩ := hzz z hz
      have f0 : Wu z 0 = k0 := by unfold Wu; rw [e]; rfl
      have f1 : Wu z 1 = k1 := by unfold Wu; rw [e]; rfl
      unfold Wv
      rw [f0, f1]; exact ⟨by show (XC k0).length ≤ WR; rw [wh]; unfold WR; omega, by show (XC k1).length ≤ WR; rw [wh]; unfold WR; omega⟩
theorem Jxt {acs : List AcL} {yitems zs : List Vl} {i : Nat} {xa xb xc xd : Nat} {xbits : List Bool} {xpb xpi p p1pb p1pi p2pb p2pi p4pb p4pi : Pl} {xpick p1pk p2pk p4pk : Int} {P0 P3 : Vl} {n ba bb bc bd p4a p4b p4c p4d n1 n2 n3 : Nat} {p1bi p2bi p4bi : List Bool} {p1it p2it : List Vl} (her : acs.map AcL.er = (yitems.take i).map acB)
    (hx : yitems[i]? = some (.mk xa xb xc xd xbits xpb [P0, .mk n n1 n2 n3 p1bi p1pb p1it p1pi p1pk, .mk ba bb bc bd p2bi p2pb p2it p2pi p2pk, P3, .mk p4a p4b p4c p4d p4bi p4pb zs p4pi p4pk] xpi xpick)) :
    (acs ++ [(⟨XC P0, n, ⟨ba, bb, bc, bd⟩, XC P3, zs.map Wv, p⟩ : AcL)]).map AcL.er = (yitems.take (i + 1)).map acB := by
  rw [List.map_append, her, Ks hx, List.map_append]; rfl
theorem Jxu {acs : List AcL} {E : Jo} {row : V5} {e : Nat} (h : rowOk 8 acs.length (jP acs) row) (hl : acs.length ≤ 100000) (hin : ∀ a ∈ acs, AcL.In E a) : StL.In (JV e (jP acs) row ++ E) ⟨acs, Vv row⟩ :=
  ⟨by show acs.length ≤ WR; unfold WR; omega, (Ql h (by decide)).mono fun q hq => List.mem_append_left _ hq, fun a ha => (hin a ha).mono fun q hq => List.mem_append_right _ hq⟩
theorem Jqz {T : Ty} (t : TR T) (s : BS) : getR t.x s = getR T s := by obtain ⟨x, L, ok, rfl⟩ := t; rw [Jp3]
theorem Jev {s : BS} (h : (getR Qg s).2 = 0) : JW (getR Qg s).1 Qg = 0 := by
  unfold getR at h ⊢
  rw [if_neg (by rw [YL]; decide)] at h ⊢
  by_cases h1 : 65536 < s.length
  · rw [if_pos h1] at h; cases h
  · rw [if_neg h1] at h ⊢
    exact (Jik Qg 0 YL s _ (by omega) (Prod.ext rfl h)).1
open Classical in
theorem Jxv {α : Type} (b c : α) (Y T : List α) : (b :: (Y ++ (T ++ [c]))).Perm (b :: c :: (Y ++ T)) := by
  rw [List.perm_iff_count]; intro x; simp only [List.count_append, List.count_cons, List.count_nil]; omega
open Classical in
theorem yT {α : Type} (M S W : List α) : (M ++ (S ++ W)).Perm (S ++ (M ++ W)) := by
  rw [List.perm_iff_count]; intro x; simp only [List.count_append]; omega
open Classical in
theorem Jxw {α : Type} (M S V W : List α) : (M ++ (S ++ (V ++ W))).Perm (V ++ (M ++ (S ++ W))) := by
  rw [List.perm_iff_count]; intro x; simp only [List.count_append]; omega
open Classical in
theorem Jxx {α : Type} (r : α) (P M W : List α) : (r :: (P ++ (M ++ W))).Perm (P ++ (M ++ (r :: W))) := by
  rw [List.perm_iff_count]; intro x; simp only [List.count_append, List.count_cons]; omega
open Classical in
theorem Jxy {α : Type} (r a b : α) (M S E W : List α) : (r :: a :: b :: (M ++ (S ++ (E ++ W)))).Perm (a :: b :: (M ++ (r :: ((S ++ E) ++ W)))) := by
  rw [List.perm_iff_count]; intro x; simp only [List.count_append, List.count_cons]; omega
set_option maxHeartbeats 4000000 in
theorem qQ (s : BS) : PureT (α := StRes [] (Vf s)) Tryz.prog 31 [J3 s].toArray (fun x => x.val) [] (fun x => x.L) [] := by
  have hgt : ∀ t : TR Qg, PureT (α := VR (getR Qg s).1) Tryz.prog 60 [t.x.val, J3 s].toArray (fun y => .tuple #[y.x.val, .int .i64 (getR Qg s).2]) [] (fun y => y.L) t.L := fun t => by
    have := Jy9 t.ok s
    rw [Jqz t s] at this; exact this
  have hfit := Jev (s := s)
  have hPa : (getR Qg s).2 ≠ 0 → Vf s = ([], (getR Qg s).2) := fun h => by unfold Vf; rw [if_pos h]
  have hPb : (getR Qg s).2 = 0 → Qa (YM (getR Qg s).1) ≠ 0 → Vf s = ([], Qa (YM (getR Qg s).1)) := fun h h2 => by unfold Vf; rw [if_neg (by omega), if_pos h2]
  have hPc : (getR Qg s).2 = 0 → Qa (YM (getR Qg s).1) = 0 → Vf s = (YM (getR Qg s).1, 0) := fun h h2 => by unfold Vf; rw [if_neg (by omega), if_neg (by omega)]
  generalize (getR Qg s).1 = gv at hgt hfit hPa hPb hPc
  generalize (getR Qg s).2 = ge at hgt hfit hPa hPb hPc
  refine JI Tryz.func31 rfl rfl fun w => ?_; refine sR fun _ hK1 => ?_; refine LN rfl fun r1 => ?_; refine Ji rfl (nK hK1 ?_); refine sR fun _ hK2 => ?_; refine Qd rfl rfl rfl Jv7 (Jbe) (fun q hq => nomatch hq) fun t => ?_; refine Ji rfl (Qd rfl rfl rfl (enters_of Tryz.func60 (by kernel_rfl) rfl) (hgt t) (fun q hq => .inl (List.mem_append_left _ hq)) fun y => ?_)
  obtain ⟨⟨ya, yb, yc, yd, ybits, ypb, yitems, ypi, ypick⟩, yL, yok, yer⟩ := y
  refine LS 3 [] rfl rfl ?_; refine LN rfl fun r2 => ?_; refine KC (Jxv ..) ?_
  refine LT 0 rfl rfl (Ji rfl ?_); refine nK hK2 (sQ fun _ hK3 => ?_); refine sR fun _ hK4 => LS 2 [] rfl rfl (nK hK4 ?_); refine Jc rfl (fun h5 => ?_) (fun h5 => ?_)
  try simp only [ZZ] at h5
  refine sR fun _ hK6 => ?_; refine LR rfl (JK (r := [_]) rfl rfl) ?_; refine Ji rfl ?_
  refine LT 1 rfl rfl (Ji rfl ?_); refine nK hK6 (Jb (Jd ?_)); refine Jt rfl rfl (.cons (J9 (vs := [_]) rfl (kn 1 rfl) rfl rfl) (.cons (J1 rfl) .nil)) (fun w1 hs1 => ?_); exact ⟨⟨st0L, ge, [], qB, by rw [hPa (by assumption)]; rfl⟩, rfl, hs1.weakL (List.nil_sublist _)⟩
  · try simp only [ZZ] at h5
    refine Jg (hK3 ?_); refine sQ fun _ hK7 => ?_
    have hge : ge = 0 := by assumption
    have hyfit := Jzh (hfit hge) yer
    have hsY : Seg yL yitems.length (Qf yitems) ypi := Jbr yok
    obtain ⟨hy32, hyf⟩ := hyfit
    have hyin := yok.sub
    have hby : YM gv = yitems.map acB := by rw [← yer]; exact Jjg _
    refine Ja (LN rfl fun r3 => ?_); refine nK hK7 (sQ fun _ hK8 => ?_); refine sR fun _ hK9 => ?_
    refine LS 2 [1] rfl rfl ?_; refine LR rfl (J4 rfl hsY rfl) ?_; refine Ji rfl (nK hK9 ?_); refine Js ?_; refine JL (σ := Nat × List AcL × V5 × Jo) (fun q => q.1 ≤ yitems.length ∧ rowOk 8 q.1 (jP q.2.1) q.2.2.1 ∧ (∀ a ∈ q.2.1, AcL.In q.2.2.2 a) ∧ q.2.1.map AcL.er = (yitems.take q.1).map acB) (fun q => [(2, VG r1), (6, VG r3), (26, KP yitems.length ypi), (27, .int .i64 (yitems.length : Int)), (28, .int .i64 (q.1 : Int))]) (fun q => (r3, .cells #[JD q.1 q.2.2.1] 24 (0, 0)) :: (r2, .cells #[uV ya, uV yb, uV yc, uV yd, KP ybits.length ypb, KP yitems.length ypi, .int .i64 ypick] 81 (0, 0)) :: (r1, .cells #[.slice none 0 0] 24 (0, 0)) :: (JV 34 (jP q.2.1) q.2.2.1 ++ (q.2.2.2 ++ yL))) (fun _ _ _ => True) (fun q => yitems.length - q.1) (0, [], none, []) ⟨Nat.zero_le _, ⟨rfl, rfl⟩, fun x hx => (nomatch hx), rfl⟩ (.cons rfl (.cons rfl (.cons rfl (.cons rfl (.cons rfl .nil))))) (by simp only [JV, List.nil_append]; exact .cons_cons _ (.cons_cons _ (.cons_cons _ (List.sublist_append_left _ _)))) (fun _ _ h => h) ?_; rintro ⟨i, acs, row, E⟩ ⟨hi1, hrow, hin, her⟩; simp only at hi1 hrow hin her; refine sR fun _ hK10 => JY rfl (nK hK10 ?_); refine sQ fun _ hK11 => ?_; refine Jc rfl (fun h12 => ?_) (fun h12 => ?_)
    · try simp only [ZZ] at h12
      refine Jg (hK11 ?_); refine sB fun _ hK13 => sQ fun _ hK14 => ?_
      obtain ⟨x, hx, hxm⟩ := Vt (show i < yitems.length by omega)
      obtain ⟨p0, p1, p2, p3, p4, hxi, hp0, hp1, hp2, hp3, hp4⟩ := Jup (hyin x hxm) (hyf x hxm)
      obtain ⟨xa, xb, xc, xd, xbits, xpb, xitems, xpi, xpick⟩ := x
      change xitems = _ at hxi; subst hxi
      have hxin : Vl.In yL _ := hyin _ hxm
      have hsx : Seg yL _ (Qf _) xpi := Jbr hxin
      have hpi0 := hxin.sub p0 (by simp)
      have hpi1 := hxin.sub p1 (by simp)
      have hpi2 := hxin.sub p2 (by simp)
      have hpi3 := hxin.sub p3 (by simp)
      have hpi4 := hxin.sub p4 (by simp)
      obtain ⟨p0a, p0b, p0c, p0d, p0bi, p0pb, p0it, p0pi, p0pk⟩ := p0
      obtain ⟨p1a, p1b, p1c, p1d, p1bi, p1pb, p1it, p1pi, p1pk⟩ := p1
      obtain ⟨p2a, p2b, p2c, p2d, p2bi, p2pb, p2it, p2pi, p2pk⟩ := p2
      obtain ⟨p3a, p3b, p3c, p3d, p3bi, p3pb, p3it, p3pi, p3pk⟩ := p3
      obtain ⟨p4a, p4b, p4c, p4d, p4bi, p4pb, p4it, p4pi, p4pk⟩ := p4
      obtain ⟨hq0, hq1, hq2, hq3⟩ : p1b = 0 ∧ p1c = 0 ∧ p1d = 0 ∧ XD p1a := hp1
      subst hq0 hq1 hq2
      obtain ⟨hz16, hzz⟩ := hp4
      change p4it.length ≤ 16 at hz16
      have hsz : Seg yL p4it.length (Qf p4it) p4pi := Jbr hpi4
      change p0it.length = 20 at hp0; change p3it.length ≤ 512 at hp3
      have hba : W4.ok ⟨p2a, p2b, p2c, p2d⟩ := Jqv hpi2
      refine Ja (LR rfl (Jr (j := i) rfl hsY rfl rfl rfl rfl (by omega)) (LR rfl (QL (fun q hq => .inl (by simp only [List.mem_cons, List.mem_append, hq, or_true, true_or])) rfl hsY hx rfl rfl) ?_)); refine LN rfl fun r4 => ?_
      refine LT 0 rfl rfl (nK hK14 ?_); refine sR fun _ hK15 => ?_
      refine LS 2 [0] rfl rfl ?_; refine LR rfl (Jr (j := 1) rfl hsx rfl rfl rfl rfl (by exact Nat.le_of_ble_eq_true rfl)) ?_; refine LR rfl (Kz (off' := vN xpi + 7) rfl rfl (by show vN xpi + 1 * 7 + 0 = _; omega)) ?_; refine LR rfl (Xl (j := 7) (vs := [uV p1a, uV 0, uV 0, uV 0]) (fun q hq => .inl (by simp only [List.mem_cons, List.mem_append, hq, or_true, true_or])) rfl hsx (Nat.le_of_ble_eq_true rfl) rfl rfl rfl rfl) ?_; refine JF rfl rfl rfl (enters_of Tryz.func61 (by kernel_rfl) rfl) (xT (l := [p1a, 0, 0, 0]) (Jwj hq3)) ?_; refine Jy ((Juo p1a)) ?_; refine LS 5 [] rfl rfl (nK hK15 ?_); refine sQ fun _ hK16 => ?_
      refine JS [(r4, .cells #[uV xa, uV xb, uV xc, uV xd, KP xbits.length xpb, KP 5 xpi, .int .i64 xpick] 81 (0, 0))] [(0, .pure), (1, .pure), (2, .pure), (5, .pure), (6, .pure), (7, .pure), (8, .pure), (9, .pure), (11, .pure), (12, .pure), (13, .pure), (16, .pure), (17, .grow (Wj xH (.cells #[.string ⟨#[]⟩, .int .u64 0, .int .u64 0, .int .u64 0, .int .u64 0, .int .u64 0, .string ⟨#[]⟩, .slice none 0 0] 34 (0, 0))))] 18 [0, 1, 2, 3, 4, 5, 6, 7, 8, 9, 10, 11, 12, 13, 14, 15, 16, 17] (by kernel_rfl) (by kernel_rfl) (by first | exact (fun _ h => absurd h List.not_mem_nil) | simp [SubS] | (intro p hp; simp [hp])) ?_
      refine Jv (k := 0) rfl rfl rfl rfl rfl (fun _ hS => (JM rfl rfl rfl)) ?_; refine Jv (k := 1) rfl rfl rfl rfl rfl (fun _ hS => (Jk rfl (.inl (hS _ (Kw (n := 0) rfl))) rfl rfl)) ?_; refine Jv (k := 2) rfl rfl rfl rfl rfl (fun _ _ => Jr (j := 0) rfl hsx rfl rfl rfl rfl (by exact Nat.le_of_ble_eq_true rfl)) ?_; refine KZ (k := 3) rfl rfl rfl rfl rfl (QL (fun q hq => .inl (by simp only [List.mem_cons, List.mem_append, hq, or_true, true_or])) rfl hsx rfl rfl rfl) ?_; refine Qq (k := 4) (Rl := yL) rfl rfl rfl rfl rfl Jrs (Jt1 hpi0 (by show _ ≤ 100000; show p0it.length ≤ 100000; omega)) (fun q hq => .inl (by simp only [List.mem_cons, List.mem_append, hq, or_true, true_or])) ?_; refine Jv (k := 5) rfl rfl rfl rfl rfl (fun _ hS => (Jp rfl)) ?_
      refine Jv (k := 6) rfl rfl rfl rfl rfl (fun _ hS => (JM rfl rfl rfl)) ?_; refine Jv (k := 7) rfl rfl rfl rfl rfl (fun _ hS => (Jk rfl (.inl (hS _ (Kw (n := 0) rfl))) rfl rfl)) ?_; refine Jv (k := 8) rfl rfl rfl rfl rfl (fun _ _ => Jr (j := 2) rfl hsx rfl rfl rfl rfl (by exact Nat.le_of_ble_eq_true rfl)) ?_; refine Jv (k := 9) rfl rfl rfl rfl rfl (fun _ _ => Kz (off' := vN xpi + 14) rfl rfl (by show vN xpi + 2 * 7 + 0 = _; omega)) ?_; refine KZ (k := 10) rfl rfl rfl rfl rfl (Xl (j := 14) (vs := [uV p2a, uV p2b, uV p2c, uV p2d]) (fun q hq => .inl (by simp only [List.mem_cons, List.mem_append, hq, or_true, true_or])) rfl hsx (Nat.le_of_ble_eq_true rfl) rfl rfl rfl rfl) ?_
      refine Jv (k := 11) rfl rfl rfl rfl rfl (fun _ hS => (JM rfl rfl rfl)) ?_; refine Jv (k := 12) rfl rfl rfl rfl rfl (fun _ hS => (Jk rfl (.inl (hS _ (Kw (n := 0) rfl))) rfl rfl)) ?_; refine Jv (k := 13) rfl rfl rfl rfl rfl (fun _ _ => Jr (j := 3) rfl hsx rfl rfl rfl rfl (by exact Nat.le_of_ble_eq_true rfl)) ?_; refine KZ (k := 14) rfl rfl rfl rfl rfl (QL (fun q hq => .inl (by simp only [List.mem_cons, List.mem_append, hq, or_true, true_or])) rfl hsx rfl rfl rfl) ?_; refine Qq (k := 15) (Rl := yL) rfl rfl rfl rfl rfl Jrs (Jt1 hpi3 (by show _ ≤ 100000; show p3it.length ≤ 100000; omega)) (fun q hq => .inl (by simp only [List.mem_cons, List.mem_append, hq, or_true, true_or])) ?_; refine Jv (k := 16) rfl rfl rfl rfl rfl (fun _ hS => (JK (r := [_, _, _, _, _, _, _, _]) rfl rfl)) ?_; refine Yi (k := 17) (cs := #[_, _, _, _, _, _, _, _]) rfl rfl rfl rfl rfl rfl fun r5 => ?_; refine KD ?_
      refine LT 0 rfl rfl (nK hK16 ?_); refine sQ fun _ hK17 => sR fun _ hK18 => ?_
      refine LS 2 [1] rfl rfl ?_; refine LR rfl (Jr (j := 4) rfl hsx rfl rfl rfl rfl (by exact Nat.le_of_ble_eq_true rfl)) ?_; refine LR rfl (Kz (off' := vN xpi + 33) rfl rfl (by show vN xpi + 4 * 7 + 5 = _; omega)) ?_; refine LR rfl (jE (j := 33) (v := KP p4it.length p4pi) (fun q hq => .inl (by simp only [List.mem_cons, List.mem_append, hq, or_true, true_or])) rfl hsx (Nat.le_of_ble_eq_true rfl) rfl rfl) ?_; refine LR rfl (J4 rfl hsz rfl) ?_; refine Ji rfl (nK hK18 ?_); refine Js ?_; refine JL (σ := Nat × V5) (fun q => q.1 ≤ p4it.length ∧ rowOk 2 q.1 (wQ ((p4it.take q.1).map Wv)) q.2) (fun q => [(2, VG r1), (6, VG r3), (11, VG r5), (26, KP yitems.length ypi), (27, .int .i64 (yitems.length : Int)), (28, .int .i64 (i : Int)), (62, KP p4it.length p4pi), (63, .int .i64 (p4it.length : Int)), (64, .int .i64 (q.1 : Int))]) (fun q => (r5, .cells #[J3 (XC (.mk p0a p0b p0c p0d p0bi p0pb p0it p0pi p0pk)), uV p1a, uV p2a, uV p2b, uV p2c, uV p2d, J3 (XC (.mk p3a p3b p3c p3d p3bi p3pb p3it p3pi p3pk)), JD q.1 q.2] 34 (0, 0)) :: (r3, .cells #[JD i row] 24 (0, 0)) :: (r2, .cells #[uV ya, uV yb, uV yc, uV yd, KP ybits.length ypb, KP yitems.length ypi, .int .i64 ypick] 81 (0, 0)) :: (r1, .cells #[.slice none 0 0] 24 (0, 0)) :: (JV 59 (wQ ((p4it.take q.1).map Wv)) q.2 ++ (JV 34 (jP acs) row ++ (E ++ yL)))) (fun _ _ _ => True) (fun q => p4it.length - q.1) (0, none) ⟨Nat.zero_le _, ⟨rfl, rfl⟩⟩ (.cons rfl (.cons rfl (.cons rfl (.cons rfl (.cons rfl (.cons rfl (.cons rfl (.cons rfl (.cons rfl .nil))))))))) (by simp only [JV, List.nil_append]; exact .cons_cons _ (.cons _ (List.Sublist.refl _))) (fun _ _ h => h) ?_; rintro ⟨j, rw2⟩ ⟨hj1, hrow2⟩; simp only at hj1 hrow2; refine sR fun _ hK19 => JY rfl (nK hK19 ?_); refine sQ fun _ hK20 => ?_; refine Jc rfl (fun h21 => ?_) (fun h21 => ?_)
      · try simp only [ZZ] at h21
        refine Jg (hK20 ?_); refine sB fun _ hK22 => sQ fun _ hK23 => ?_
        obtain ⟨z, hz, hzm⟩ := Vt (show j < p4it.length by omega)
        obtain ⟨k0, k1, hzi, hk0, hk1⟩ := hzz z hzm
        obtain ⟨za, zb, zc, zd, zbits, zpb, zitems, zpi, zpick⟩ := z
        change zitems = _ at hzi; subst hzi
        have hzin : Vl.In yL _ := hpi4.sub _ hzm
        have hsq : Seg yL _ (Qf _) zpi := Jbr hzin
        have hki0 := hzin.sub k0 (by simp)
        have hki1 := hzin.sub k1 (by simp)
        refine Ja (LR rfl (Jr (j := j) rfl hsz rfl rfl rfl rfl (by omega)) (LR rfl (QL (fun q hq => .inl (by simp only [List.mem_cons, List.mem_append, hq, or_true, true_or])) rfl hsz hz rfl rfl) ?_)); refine LN rfl fun r6 => ?_
        refine LT 0 rfl rfl (nK hK23 ?_)
        refine JS [(r5, .cells #[J3 (XC (.mk p0a p0b p0c p0d p0bi p0pb p0it p0pi p0pk)), uV p1a, uV p2a, uV p2b, uV p2c, uV p2d, J3 (XC (.mk p3a p3b p3c p3d p3bi p3pb p3it p3pi p3pk)), JD j rw2] 34 (0, 0)), (r6, .cells #[uV za, uV zb, uV zc, uV zd, KP zbits.length zpb, KP 2 zpi, .int .i64 zpick] 81 (0, 0))] [(0, .pure), (1, .pure), (2, .pure), (3, .pure), (4, .pure), (7, .pure), (8, .pure), (9, .pure), (12, .pure), (13, .grow (Wj (slV 1) (.cells #[J3 (XC k0), J3 (XC k1)] 59 (0, 0))))] 14 [0, 1, 2, 3, 4, 5, 6, 7, 8, 9, 10, 11, 12, 13] (by kernel_rfl) (by kernel_rfl) (by first | exact (fun _ h => absurd h List.not_mem_nil) | simp [SubS] | (intro p hp; simp [hp])) ?_
        refine Jv (k := 0) rfl rfl rfl rfl rfl (fun _ hS => (JM rfl rfl rfl)) ?_; refine Jv (k := 1) rfl rfl rfl rfl rfl (fun _ hS => (Jk rfl (.inl (hS _ (Kw (n := 0) rfl))) rfl rfl)) ?_
        refine Jv (k := 2) rfl rfl rfl rfl rfl (fun _ hS => (JM rfl rfl rfl)) ?_; refine Jv (k := 3) rfl rfl rfl rfl rfl (fun _ hS => (Jk rfl (.inl (hS _ (Kw (n := 1) rfl))) rfl rfl)) ?_; refine Jv (k := 4) rfl rfl rfl rfl rfl (fun _ _ => Jr (j := 0) rfl hsq rfl rfl rfl rfl (by exact Nat.le_of_ble_eq_true rfl)) ?_; refine KZ (k := 5) rfl rfl rfl rfl rfl (QL (fun q hq => .inl (by simp only [List.mem_cons, List.mem_append, hq, or_true, true_or])) rfl hsq rfl rfl rfl) ?_; refine Qq (k := 6) (Rl := yL) rfl rfl rfl rfl rfl Jrs (Jt1 hki0 (by show _ ≤ 100000; omega)) (fun q hq => .inl (by simp only [List.mem_cons, List.mem_append, hq, or_true, true_or])) ?_
        refine Jv (k := 7) rfl rfl rfl rfl rfl (fun _ hS => (JM rfl rfl rfl)) ?_; refine Jv (k := 8) rfl rfl rfl rfl rfl (fun _ hS => (Jk rfl (.inl (hS _ (Kw (n := 1) rfl))) rfl rfl)) ?_; refine Jv (k := 9) rfl rfl rfl rfl rfl (fun _ _ => Jr (j := 1) rfl hsq rfl rfl rfl rfl (by exact Nat.le_of_ble_eq_true rfl)) ?_; refine KZ (k := 10) rfl rfl rfl rfl rfl (QL (fun q hq => .inl (by simp only [List.mem_cons, List.mem_append, hq, or_true, true_or])) rfl hsq rfl rfl rfl) ?_; refine Qq (k := 11) (Rl := yL) rfl rfl rfl rfl rfl Jrs (Jt1 hki1 (by show _ ≤ 100000; omega)) (fun q hq => .inl (by simp only [List.mem_cons, List.mem_append, hq, or_true, true_or])) ?_; refine Jv (k := 12) rfl rfl rfl rfl rfl (fun _ hS => (JK (r := [_, _]) rfl rfl)) ?_; refine VV (k := 13) (n := 1) (sz := 2) (vs := [_]) (zs := [_, _]) (r := [J3 (XC k0), J3 (XC k1)]) rfl rfl rfl rfl rfl rfl rfl rfl rfl rfl rfl (by rw [Kv]; exact rfl) rfl fun rc => ?_; refine KD ?_; refine KC (yT (M := [_, _, _, _, _, _]) ..) ?_; refine Km (L0 := _) (xs := wQ ((p4it.take j).map Wv)) (row := rw2) (n := j) (sz := 2) (b := 32) (news := [_, _]) (List.Perm.refl _) rfl rfl rfl rfl (kn 0 rfl) rfl rfl rfl rfl rfl (by decide) rfl rfl rfl (by decide) hrow2 (by omega) (by omega) fun ra cap sp hra => ?_
        refine LS 1 [] rfl rfl ?_; refine Kx (k := 3) (cs' := #[J3 (XC (.mk p0a p0b p0c p0d p0bi p0pb p0it p0pi p0pk)), uV p1a, uV p2a, uV p2b, uV p2c, uV p2d, J3 (XC (.mk p3a p3b p3c p3d p3bi p3pb p3it p3pi p3pk)), JD (j + 1) (some (ra, cap, sp))]) rfl rfl rfl rfl rfl rfl rfl rfl rfl rfl ?_; refine Jf (Jj (hK22 ?_)); refine Ja ?_
        refine JY rfl ?_; refine Jy (show _ = Value.int .i64 ((j + 1 : Nat) : Int) from by rw [wrap_i64 (by omega) (by omega)]; congr 1 <;> omega) ?_; refine Ji rfl (Jf (J8 ?_)); rw [Jqy hz rfl] at hra ⊢; refine XA (Jxx (P := [_, _]) (M := [_, _, _, _]) ..) ?_; exact J2 (j + 1, some (ra, cap, sp)) ⟨by simp only; omega, hra⟩ (by simp only; omega) (.cons rfl (.cons rfl (.cons rfl (.cons rfl (.cons rfl (.cons rfl (.cons rfl (.cons rfl (.cons rfl .nil))))))))) (.cons _ (.cons _ (List.Sublist.refl _))) (fun _ _ h => h)
      · try simp only [ZZ] at h21
        refine JJ (Jm ?_); refine Jm (J0 (hK17 ?_))
        obtain rfl : j = p4it.length := by omega
        rw [List.take_length] at hrow2 ⊢
        have hvr2 : JD p4it.length rw2 = KP (p4it.map Wv).length (Vv rw2) := by rw [List.length_map]; exact (Wm _ _ (fun h => by rw [h] at hrow2; exact hrow2.1)).symm
        rw [hvr2]; rw [show p4it.length = (p4it.map Wv).length by rw [List.length_map]] at hrow2; refine Ja ?_
        refine LS 3 [1, 0] rfl rfl ?_; refine Ki (vs := [_]) (zs := [_, _, _, _, _, _, _, _]) (r := [_, _, _, _, _, _, _, _]) rfl rfl rfl rfl rfl rfl rfl rfl rfl (by rw [Kv]; exact rfl) rfl fun r7 => ?_; refine KC (Jxw (M := [_, _, _, _, _]) ..) ?_; refine Km (L0 := _) (xs := jP acs) (row := row) (n := i) (sz := 8) (b := 96) (news := [_, _, _, _, _, _, _, _]) (List.Perm.refl _) rfl rfl rfl rfl (kn 0 rfl) rfl rfl rfl rfl rfl (by decide) rfl rfl rfl (by decide) hrow (by omega) (by omega) fun ra cap sp hra => ?_
        refine LS 1 [] rfl rfl ?_; refine Kx (k := 3) (cs' := #[JD (i + 1) (some (ra, cap, sp))]) rfl rfl rfl rfl rfl rfl rfl rfl rfl rfl ?_; refine Jf (Jj (hK13 ?_)); refine Ja ?_
        refine JY rfl ?_; refine Jy (show _ = Value.int .i64 ((i + 1 : Nat) : Int) from by rw [wrap_i64 (by omega) (by omega)]; congr 1 <;> omega) ?_; refine Ji rfl (Jf (J8 ?_))
        have hvc : jP acs ++ AcL.cells (⟨XC (.mk p0a p0b p0c p0d p0bi p0pb p0it p0pi p0pk), p1a, ⟨p2a, p2b, p2c, p2d⟩, XC (.mk p3a p3b p3c p3d p3bi p3pb p3it p3pi p3pk), p4it.map Wv, Vv rw2⟩ : AcL) = jP (acs ++ [(⟨XC (.mk p0a p0b p0c p0d p0bi p0pb p0it p0pi p0pk), p1a, ⟨p2a, p2b, p2c, p2d⟩, XC (.mk p3a p3b p3c p3d p3bi p3pb p3it p3pi p3pk), p4it.map Wv, Vv rw2⟩ : AcL)]) := by unfold jP; rw [List.flatMap_append]; simp
        refine XA (Jxy (M := [_, _, _]) ..) ?_; exact J2 (i + 1, acs ++ [(⟨XC (.mk p0a p0b p0c p0d p0bi p0pb p0it p0pi p0pk), p1a, ⟨p2a, p2b, p2c, p2d⟩, XC (.mk p3a p3b p3c p3d p3bi p3pb p3it p3pi p3pk), p4it.map Wv, Vv rw2⟩ : AcL)], some (ra, cap, sp), JV 59 (wQ (p4it.map Wv)) rw2 ++ E) ⟨by simp only; omega, by simp only; rw [← hvc]; exact hra, fun z hz => Jxs hin (Ql hrow2 (by decide)) hp0 hp3 hz16 hq3 hba hzz hz, Jxt her hx⟩ (by simp only; omega) (.cons rfl (.cons rfl (.cons rfl (.cons rfl (.cons rfl .nil))))) (by simp only; rw [← hvc]; exact .cons _ (.cons _ (List.Sublist.refl _))) (fun _ _ h => h)
    · try simp only [ZZ] at h12
      refine JJ (Jm ?_); refine Jm (J0 (hK8 ?_)); refine sQ fun _ hK24 => sQ fun _ hK25 => ?_
      have hiM : i = yitems.length := by omega
      have hvl : acs.length = i := by have := congrArg List.length her; simp at this; omega
      rw [hiM, List.take_length] at her
      have hvr : JD i row = KP acs.length (Vv row) := by rw [← hvl]; exact (Wm _ _ (fun h => by rw [h] at hrow; rw [hvl]; exact hrow.1)).symm
      rw [hvr]; rw [← hvl] at hrow
      have hsin : StL.In (JV 34 (jP acs) row ++ E) ⟨acs, Vv row⟩ := Jxu hrow (by omega) hin
      have hck : Qa (StL.er ⟨acs, Vv row⟩) = Qa (YM gv) := by show Qa (acs.map AcL.er) = _; rw [her, ← hby]
      refine Ja (LR rfl (Jw (vs := [_]) rfl (kn 0 rfl) rfl rfl rfl rfl) ?_)
      refine Jh (Rl := JV 34 (jP acs) row ++ E) rfl rfl rfl Jfh (WC (s := ⟨acs, Vv row⟩) hsin) (fun q hq => .inl (by rcases List.mem_append.1 hq with h | h <;> simp [h])) ?_; refine Jy (congrArg (Value.int .i64) hck) ?_; generalize hcz : Qa (YM gv) = ck at *; refine Ji rfl (nK hK25 ?_); refine sR fun _ hK26 => LS 2 [] rfl rfl (nK hK26 ?_); refine Jc rfl (fun h27 => ?_) (fun h27 => ?_)
      try simp only [ZZ] at h27
      refine sR fun _ hK28 => ?_; refine LR rfl (JK (r := [_]) rfl rfl) ?_; refine Ji rfl ?_
      refine LT 2 rfl rfl (Ji rfl ?_); refine nK hK28 (Jb (Jd ?_)); refine Jt rfl rfl (.cons (J9 (vs := [_]) rfl (kn 2 rfl) rfl rfl) (.cons (J1 rfl) .nil)) (fun w1 hs1 => ?_); exact ⟨⟨st0L, ck, [], qB, by rw [hPb hge (by assumption)]; rfl⟩, rfl, hs1.weakL (List.nil_sublist _)⟩
      · try simp only [ZZ] at h27
        refine Jg (hK24 ?_); refine sR fun _ hK29 => ?_; refine LR rfl (Jw (vs := [_]) rfl (kn 0 rfl) rfl rfl rfl rfl) ?_
        refine LT 2 rfl rfl (Ji rfl ?_); refine nK hK29 (Jb ?_); refine Jt rfl rfl (.cons (J9 (vs := [_]) rfl (kn 2 rfl) rfl rfl) (.cons (J1 rfl) .nil)) (fun w1 hs1 => ?_); exact ⟨⟨⟨acs, Vv row⟩, 0, JV 34 (jP acs) row ++ E, by simpa using hsin, by rw [hPc hge (by assumption)]; show (acs.map AcL.er, _) = _; rw [her, ← hby]⟩, rfl, hs1.weakL (.cons _ (.cons _ (.cons _ ((List.Sublist.refl _).append (List.sublist_append_left _ _)))))⟩
def VN : BS := List.replicate 32 0
def Zx : BS := List.replicate 31 0 ++ [7]
def a0W : AcE := ⟨List.replicate 20 0, 1, ⟨5, 0, 0, 0⟩, [99], []⟩
def qq : AcE := ⟨List.replicate 20 0, 1, ⟨5, 0, 0, 0⟩, [99], [(VN, Zx)]⟩
theorem J0r : wM a0W VN Zx = (qq, 0) := by decide +kernel
theorem J0s : Jsp [] qq = ([qq], 0) := by decide +kernel
theorem Jzi : (Qs [qq]).2 = 0 ∧ (Qs [qq]).1.length = 137 := by decide +kernel
theorem J0t : Qs [] = ([], 0) := by decide +kernel
theorem J0u : Vf (Qs [qq]).1 = ([qq], 0) := by decide +kernel
theorem J0v : wM qq VN VN = (a0W, 0) := by decide +kernel
theorem Jzj : Qn qq VN = Zx ∧ Qn a0W VN = VN := by decide +kernel
theorem Jxz : Qa [qq] = 0 ∧ Qa [ac0] = 2 := by decide +kernel
theorem J0w : VJ [qq] a0W.addr = some qq := by decide +kernel
theorem Jzk : QT Qg (VI []) = 0 ∧ QT Qg (VI [qq]) = 0 := by decide +kernel
def Q1 : BS := [173, 50, 40, 182, 118, 247, 211, 205, 66, 132, 165, 68, 63, 23, 241, 150, 43, 54, 228, 145, 179, 10, 64, 178, 64, 88, 73, 229, 151, 186, 95, 181]
def Q2 : BS := [180, 193, 25, 81, 149, 124, 111, 143, 100, 44, 74, 246, 28, 214, 178, 70, 64, 254, 198, 220, 127, 198, 7, 238, 130, 6, 169, 158, 146, 65, 13, 48]
def Q3 : BS := [33, 221, 185, 163, 86, 129, 92, 63, 172, 16, 38, 182, 222, 197, 223, 49, 36, 175, 186, 219, 72, 92, 155, 165, 163, 227, 57, 138, 4, 183, 186, 133]
def Q4 : BS := [229, 135, 105, 179, 42, 27, 234, 241, 234, 39, 55, 90, 68, 9, 90, 13, 31, 182, 100, 206, 45, 211, 88, 231, 252, 191, 183, 140, 38, 161, 147, 68]
def Q5 : BS := [14, 176, 30, 191, 201, 237, 39, 80, 12, 212, 223, 201, 121, 39, 45, 31, 9, 19, 204, 159, 102, 84, 13, 126, 128, 5, 129, 17, 9, 225, 207, 45]
def Q6 : BS := [96, 77, 89, 36, 103, 234, 171, 101, 127, 86, 19, 141, 165, 3, 154, 226, 46, 200, 192, 119, 115, 164, 178, 43, 215, 43, 143, 81, 243, 38, 157, 220]
def P99 : BS := [99, 0, 0, 0, 0, 0, 0, 0, 0, 0, 0, 0, 0, 0, 0, 0, 0, 0, 0, 0, 0, 0, 0, 0, 0, 0, 0, 0, 0, 0, 0, 0]
def PK : BS := [0, 0, 0, 0, 0, 0, 0, 0, 0, 0, 0, 0, 0, 0, 0, 0, 0, 0, 0, 0, 0, 0, 0, 0, 0, 0, 0, 0, 0, 0, 0, 0]
def PV : BS := [0, 0, 0, 0, 0, 0, 0, 0, 0, 0, 0, 0, 0, 0, 0, 0, 0, 0, 0, 0, 0, 0, 0, 0, 0, 0, 0, 0, 0, 0, 0, 7]
def PA : BS := [0, 0, 0, 0, 0, 0, 0, 0, 0, 0, 0, 0, 0, 0, 0, 0, 0, 0, 0, 0, 0, 0, 0, 0, 0, 0, 0, 0, 0, 0, 0, 0]
def PN : BS := [1, 0, 0, 0, 0, 0, 0, 0, 0, 0, 0, 0, 0, 0, 0, 0, 0, 0, 0, 0, 0, 0, 0, 0, 0, 0, 0, 0, 0, 0, 0, 0]
def PB : BS := [5, 0, 0, 0, 0, 0, 0, 0, 0, 0, 0, 0, 0, 0, 0, 0, 0, 0, 0, 0, 0, 0, 0, 0, 0, 0, 0, 0, 0, 0, 0, 0]
def Q7 : BS := [128, 254, 150, 100, 183, 3, 234, 100, 255, 5, 28, 105, 143, 172, 232, 125, 162, 79, 15, 193, 202, 27, 191, 186, 36, 126, 5, 43, 158, 34, 177, 205]
def Q8 : BS := [12, 143, 253, 230, 89, 92, 177, 101, 195, 65, 172, 208, 17, 208, 134, 148, 105, 130, 245, 12, 127, 155, 223, 118, 245, 87, 156, 192, 149, 130, 164, 20]
def Q9 : BS := [231, 246, 47, 82, 53, 130, 220, 255, 58, 248, 170, 101, 254, 92, 10, 94, 129, 224, 115, 51, 214, 167, 236, 16, 87, 100, 76, 60, 193, 22, 77, 189]
def Q10 : BS := [62, 120, 232, 158, 100, 195, 92, 170, 194, 97, 28, 191, 252, 174, 252, 159, 248, 79, 56, 159, 46, 150, 149, 73, 15, 76, 171, 79, 8, 134, 182, 49]
def Q11 : BS := [159, 191, 115, 214, 144, 225, 62, 161, 22, 15, 4, 77, 135, 125, 79, 179, 121, 216, 64, 99, 137, 162, 186, 191, 199, 253, 71, 153, 77, 133, 6, 62]
def Q12 : BS := [109, 82, 87, 32, 78, 190, 125, 136, 253, 145, 174, 135, 148, 28, 178, 221, 157, 128, 98, 182, 74, 229, 162, 189, 45, 40, 236, 64, 185, 251, 246, 223]
def Q13 : BS := [219, 84, 93, 126, 90, 22, 97, 214, 219, 12, 175, 14, 24, 35, 121, 19, 96, 147, 115, 67, 116, 140, 18, 143, 200, 28, 219, 18, 126, 175, 208, 40]
def Q14 : BS := [23, 242, 83, 39, 154, 106, 105, 48, 122, 17, 49, 169, 103, 30, 223, 237, 241, 103, 177, 103, 204, 94, 81, 103, 51, 252, 125, 148, 139, 186, 173, 45]
def Q15 : BS := [52, 223, 211, 179, 13, 160, 50, 23, 248, 175, 8, 3, 182, 4, 200, 151, 161, 119, 191, 139, 113, 79, 167, 155, 96, 200, 79, 82, 8, 239, 145, 74]
def Q16 : BS := [186, 37, 126, 111, 240, 170, 21, 181, 16, 119, 161, 166, 87, 169, 48, 133, 3, 137, 27, 65, 143, 247, 91, 85, 73, 120, 43, 235, 92, 122, 96, 239]
def Q17 : BS := [180, 173, 121, 44, 79, 132, 42, 240, 211, 151, 148, 221, 8, 138, 131, 255, 77, 30, 250, 106, 90, 143, 30, 18, 161, 252, 51, 238, 73, 69, 76, 177]
def Q18 : BS := [84, 232, 13, 242, 58, 159, 134, 25, 68, 76, 175, 139, 251, 62, 114, 226, 64, 114, 104, 255, 38, 198, 163, 22, 62, 224, 158, 73, 64, 114, 159, 201]
def Q19 : BS := [115, 202, 162, 40, 166, 138, 128, 42, 134, 248, 234, 146, 132, 24, 105, 205, 223, 138, 177, 25, 35, 114, 55, 117, 208, 134, 150, 85, 151, 188, 191, 229]
def Q20 : BS := [180, 10, 97, 218, 138, 109, 67, 207, 163, 113, 133, 201, 96, 160, 57, 16, 63, 175, 109, 127, 187, 77, 142, 232, 170, 181, 195, 67, 58, 55, 225, 169]
def Q21 : BS := [253, 23, 46, 35, 170, 157, 49, 24, 12, 247, 30, 169, 0, 87, 50, 185, 216, 5, 140, 215, 36, 182, 139, 203, 0, 33, 239, 230, 200, 70, 39, 49]
def Q22 : BS := [244, 78, 169, 243, 102, 83, 141, 100, 144, 182, 111, 119, 6, 61, 2, 212, 232, 28, 167, 44, 206, 184, 74, 212, 24, 116, 209, 86, 62, 76, 252, 225]
def Q23 : BS := [9, 105, 40, 196, 205, 136, 217, 62, 206, 76, 176, 220, 112, 142, 1, 36, 83, 196, 135, 68, 65, 28, 63, 234, 254, 89, 74, 34, 119, 48, 210, 228]
def Q24 : BS := [88, 211, 15, 198, 238, 204, 186, 245, 5, 111, 150, 205, 215, 28, 56, 16, 233, 35, 194, 185, 183, 143, 241, 68, 99, 169, 24, 34, 58, 107, 231, 130]
def Q25 : BS := [181, 114, 115, 158, 66, 182, 22, 134, 105, 251, 139, 3, 221, 144, 86, 197, 8, 77, 55, 53, 110, 249, 221, 86, 58, 43, 248, 36, 64, 34, 148, 171]
def Q26 : BS := [52, 127, 120, 91, 102, 123, 138, 53, 132, 85, 67, 94, 157, 185, 194, 118, 141, 49, 10, 26, 63, 78, 145, 197, 145, 212, 176, 30, 206, 94, 6, 183]
def Q27 : BS := [135, 195, 149, 32, 136, 174, 247, 12, 19, 129, 47, 222, 135, 39, 233, 95, 192, 198, 12, 79, 85, 128, 196, 204, 132, 162, 119, 43, 49, 122, 252, 83]
def Q28 : BS := [204, 113, 241, 227, 0, 55, 44, 218, 77, 42, 78, 41, 79, 110, 129, 142, 159, 90, 155, 61, 22, 163, 210, 15, 17, 201, 135, 63, 61, 32, 192, 95]
def Q29 : BS := [211, 5, 113, 100, 174, 43, 94, 143, 48, 107, 194, 22, 250, 134, 93, 174, 214, 17, 81, 90, 35, 252, 254, 108, 57, 144, 147, 130, 70, 243, 107, 235]
theorem hq1 : WU (z32 ++ z32) = Q1 := by decide +kernel
theorem hq2 : WU (Q1 ++ Q1) = Q2 := by decide +kernel
theorem hq3 : WU (Q2 ++ Q2) = Q3 := by decide +kernel
theorem hq4 : WU (Q3 ++ Q3) = Q4 := by decide +kernel
theorem hq5 : WU (Q4 ++ Q4) = Q5 := by decide +kernel
theorem hq6 : XZ Q5 0 = Q6 := by decide +kernel
theorem hq7 : WU (P99 ++ z32) = Q7 := by decide +kernel
theorem hq8 : WU (Q7 ++ Q1) = Q8 := by decide +kernel
theorem hq9 : WU (Q8 ++ Q2) = Q9 := by decide +kernel
theorem J02 : WU (Q9 ++ Q3) = Q10 := by decide +kernel
theorem J03 : XZ Q10 1 = Q11 := by decide +kernel
theorem J04 : WU (PK ++ PV) = Q12 := by decide +kernel
theorem J05 : WU (Q12 ++ z32) = Q13 := by decide +kernel
theorem J06 : WU (Q13 ++ Q1) = Q14 := by decide +kernel
theorem J07 : WU (Q14 ++ Q2) = Q15 := by decide +kernel
theorem J08 : WU (Q15 ++ Q3) = Q16 := by decide +kernel
theorem J09 : XZ Q16 1 = Q17 := by decide +kernel
theorem J1a : WU (PA ++ PN) = Q18 := by decide +kernel
theorem J1b : WU (PB ++ Q11) = Q19 := by decide +kernel
theorem J1c : WU (Q17 ++ z32) = Q20 := by decide +kernel
theorem J1d : WU (Q18 ++ Q19) = Q21 := by decide +kernel
theorem J1e : WU (Q20 ++ Q1) = Q22 := by decide +kernel
theorem J1f : WU (Q21 ++ Q22) = Q23 := by decide +kernel
theorem J1g : WU (Q23 ++ z32) = Q24 := by decide +kernel
theorem J1h : WU (Q24 ++ Q1) = Q25 := by decide +kernel
theorem J1i : WU (Q25 ++ Q2) = Q26 := by decide +kernel
theorem J1j : WU (Q26 ++ Q3) = Q27 := by decide +kernel
theorem J1k : WU (Q27 ++ Q4) = Q28 := by decide +kernel
theorem J1l : XZ Q28 1 = Q29 := by decide +kernel
theorem Yx (k : Nat) (a z : BS) : VU (k + 1) [a] z = VU k [WU (a ++ z)] (WU (z ++ z)) := rfl
theorem Jew (k : Nat) (z : BS) : VU (k + 1) [] z = VU k [] (WU (z ++ z)) := rfl
theorem Jvp (k : Nat) (a b z : BS) : VU (k + 1) [a, b] z = VU k [WU (a ++ b)] (WU (z ++ z)) := by rw [VU]; simp [Q0, SL.pairUp]
theorem Jzl (k : Nat) (a b c z : BS) : VU (k + 1) [a, b, c] z = VU k [WU (a ++ b), WU (c ++ z)] (WU (z ++ z)) := by rw [VU]; simp [Q0, SL.pairUp]
theorem Jzm (k : Nat) (a b c d e z : BS) : VU (k + 1) [a, b, c, d, e] z = VU k [WU (a ++ b), WU (c ++ d), WU (e ++ z)] (WU (z ++ z)) := by rw [VU]; simp [Q0, SL.pairUp]
theorem Jex (a z : BS) : VU 0 [a] z = a := rfl
theorem Jzn (z : BS) : VU 0 [] z = z := rfl
theorem Jq0 : KB (VI []) Qg = Q6 := by
  have e1 : Vi [] 32 = Q5 := by
    rw [← YE (by decide), show lg 32 = 5 by decide +kernel, Jew, hq1, Jew, hq2, Jew, hq3, Jew, hq4, Jew, hq5, Jzn]
  unfold VI JX Qg
  rw [WT, if_neg (by decide), if_pos rfl]
  unfold Xa
  rw [if_neg (by decide), if_neg (by decide +kernel)]
  show XZ (Vi [] 32) 0 = _
  rw [e1, hq6]
theorem xt {l : List Vl} {x : Ty} {n : Int} (hx : X8 x = false) : KB (JX l 0) (.mk 4 n none [x]) = XZ (Vi (Kh l 4 0 [x] 0) n.toNat) l.length := by
  unfold JX
  rw [WT, if_neg (by decide), if_pos rfl]
  unfold Xa
  rw [if_neg (by decide), if_neg (by rw [show [x].getD 0 default = x from rfl, hx]; decide)]
theorem Jey {l : List Vl} {ins : List Ty} : KB (JX l 0) (.mk 7 0 none ins) = Vi (Kh l 7 0 ins 0) ins.length := by
  unfold JX
  rw [WT, if_neg (by decide), if_neg (by decide), if_neg (by decide), if_neg (by decide), if_neg (by decide)]
  unfold Xa
  rw [if_pos rfl]
theorem Jk7 : KB (Zu [99]) (Wt 4 512) = Q11 := by
  have e1 : Xa 4 512 [byT] [jd 99] (Kh [jd 99] 4 0 [byT] 0) = Vi [P99] 16 := by
    unfold Xa
    rw [if_neg (by decide), if_pos (by decide +kernel), show YH (Xj [jd 99] ([byT].getD 0 default)) = [P99] by decide +kernel, show ((512 : Int).toNat * (JQ ([byT].getD 0 default)).toNat + 31) / 32 = 16 by decide +kernel]
  have e2 : Vi [P99] 16 = Q10 := by
    rw [← YE (by decide), show lg 16 = 4 by decide +kernel, Yx, hq7, hq1, Yx, hq8, hq2, Yx, hq9, hq3, Yx, J02, hq4, Jex]
  unfold Zu JX Wt
  rw [WT, if_neg (by decide), if_pos rfl]
  show XZ (Xa 4 512 [byT] [jd 99] (Kh [jd 99] 4 0 [byT] 0)) 1 = _
  rw [e1, e2, J03]
theorem Jq1 : KB (Zu VN) (Wt 3 32) = PK := by decide +kernel
theorem Jq2 : KB (Zu Zx) (Wt 3 32) = PV := by decide +kernel
theorem Jq3 : KB (Zu (List.replicate 20 0)) (Wt 3 20) = PA := by decide +kernel
theorem Jk8 : KB (Ya (VN, Zx)) qj = Q12 := by
  unfold Ya qj
  rw [Jey]
  show Vi [KB (Zu VN) (Wt 3 32), KB (Zu Zx) (Wt 3 32)] 2 = _
  rw [Jq1, Jq2, ← YE (by decide), show lg 2 = 1 by decide +kernel, Jvp, J04, Jex]
theorem Jgm : KB (JX [Ya (VN, Zx)] 0) (.mk 4 16 none [qj]) = Q17 := by
  rw [xt (by decide +kernel)]
  show XZ (Vi [KB (Ya (VN, Zx)) qj] 16) 1 = _
  rw [Jk8, ← YE (by decide), show lg 16 = 4 by decide +kernel, Yx, J05, hq1, Yx, J06, hq2, Yx, J07, hq3, Yx, J08, hq4, Jex, J09]
theorem Jur : KB (xq qq) acT = Q23 := by
  unfold xq acT
  rw [Jey]
  show Vi [KB (Zu (List.replicate 20 0)) (Wt 3 20), KB (.mk 1 0 0 0 [] none [] none 0) (.mk 1 8 none []), KB (.mk 5 0 0 0 [] none [] none 0) (.mk 1 32 none []), KB (Zu [99]) (Wt 4 512), KB (JX [Ya (VN, Zx)] 0) (.mk 4 16 none [qj])] 5 = _
  rw [Jq3, Jk7, Jgm, show KB (.mk 1 0 0 0 [] none [] none 0) (.mk 1 8 none []) = PN by decide +kernel, show KB (.mk 5 0 0 0 [] none [] none 0) (.mk 1 32 none []) = PB by decide +kernel, ← YE (by decide), show lg 5 = 3 by decide +kernel, Jzm, J1a, J1b, J1c, hq1, Jzl, J1d, J1e, hq2, Jvp, J1f, Jex]
theorem Jq4 : KB (VI [qq]) Qg = Q29 := by
  unfold VI Qg
  rw [xt (by decide +kernel)]
  show XZ (Vi [KB (xq qq) acT] 32) 1 = _
  rw [Jur, ← YE (by decide), show lg 32 = 5 by decide +kernel, Yx, J1g, hq1, Yx, J1h, hq2, Yx, J1i, hq3, Yx, J1j, hq4, Yx, J1k, hq5, Jex, J1l]
theorem J1m : qm [] = (Q6, 0) := by rw [Jet (by decide +kernel) Jzk.1, Jq0]
theorem J1n : qm [qq] = (Q29, 0) := by rw [Jet Jxz.1 Jzk.2, Jq4]
theorem J1o : Q6 ≠ Q29 := by decide +kernel
def zh : BS := List.replicate 20 0
def a0L : AcL := ⟨zh, 1, ⟨5, 0, 0, 0⟩, [99], [], none⟩
theorem Jq5 {R : Jo} : a0L.In R := ⟨by decide, by unfold XD; decide, ⟨by unfold XD; decide, Wx, Wx, Wx⟩, by decide, by decide, rfl, by simp [a0L]⟩
theorem Zy {a b : Bool} (h : a = b) : Value.bool a = .bool b := congrArg _ h
theorem Jzo {a b : BS} (h : a ≠ b) : (!decide (a = b)) = true := by simp [h]
theorem Jq6 {s : BS} {n : Nat} (h : s.length = n) : Value.int .i64 (s.length : Int) = .int .i64 (n : Int) := by rw [h]
theorem Jus (r : Nat) : StL.In [(r, Obj.cells ac0L.cells.toArray 34 (0, 0))] ⟨[ac0L], some (⟨r, 0, none⟩, 1)⟩ :=
  ⟨by show 1 ≤ WR; decide, ⟨Nat.le_refl _, fun _ => ⟨rfl, _, _, _, List.mem_singleton_self _, rfl⟩⟩, fun a ha => by rw [List.mem_singleton.1 ha]; exact Jns⟩
theorem J1p : wV (VI [qq]) ≤ 20000 := by decide +kernel
set_option maxHeartbeats 2000000 in
theorem Jk9 : Pure Tryz.prog 11 #[] (.bool true) := by
  have k1 : wM a0L.er VN Zx = (qq, 0) := J0r
  have k2 := J0s
  have k3 : VJ [qq] zh = some qq := J0w
  have k4 := J1p
  have k5 := J0v
  have k6 := Jzj.1
  have k7 : Qn a0L.er VN = VN := Jzj.2
  have k8 := Jxz.1
  have k9 := Jxz.2
  have hB := show Qs [qq] = ((Qs [qq]).1, 0) from Prod.ext rfl Jzi.1
  have htl := Jzi.2
  have hP := J0u
  have hE := J0t
  generalize (Qs [qq]).1 = tb at hB htl hP
  have hR0 := J1m
  have hR1 := J1n
  have hne := J1o
  have hrl : Q29.length = 32 := by decide
  generalize Q6 = ra at hR0 hne
  generalize Q29 = rb at hR1 hne hrl
  refine JG Tryz.func11 rfl rfl fun w => ?_; refine sR fun _ hK1 => Ji rfl (nK hK1 ?_); refine sR fun _ hK2 => ?_; refine Xg (n := 32) (b := 1) rfl rfl rfl rfl rfl rfl rfl rfl rfl (by decide) (by decide) fun rk => ?_; rw [show List.replicate 32 (Value.int .u8 0) = (VN).map bV from rfl]; refine LR rfl (QV (b := VN) (row := some (rk, 32, [])) (e := 5) (show _ = some (JD (List.length VN) _) from rfl) ⟨rfl, rfl⟩ (fun p hp => .inl (by rw [List.mem_singleton.1 hp, List.append_nil]; exact List.mem_cons_self)) rfl rfl rfl) ?_; refine Ji rfl (nK hK2 ?_); refine sR fun _ hK3 => ?_; refine Ji rfl (LR rfl (VE (kl := some (.i64, 1)) (kh := none) (m := 1) (n := 32) rfl rfl rfl rfl rfl rfl (by decide) (by decide) (show _ = List.replicate 31 0 from rfl)) (LR rfl (V7 (a := List.replicate 31 0) (b := [7]) rfl rfl (by decide)) ?_)); refine Jy (show _ = J3 Zx from rfl) ?_; refine Ji rfl (nK hK3 ?_); refine sR fun _ hK4 => ?_; refine Xg (n := 20) (b := 1) rfl rfl rfl rfl rfl rfl rfl rfl rfl (by decide) (by decide) fun rz => ?_; rw [show List.replicate 20 (Value.int .u8 0) = (zh).map bV from rfl]; refine LR rfl (QV (b := zh) (row := some (rz, 20, [])) (e := 5) (show _ = some (JD (List.length zh) _) from rfl) ⟨rfl, rfl⟩ (fun p hp => .inl (by rw [List.mem_singleton.1 hp, List.append_nil]; exact List.mem_cons_self)) rfl rfl rfl) ?_; refine LR rfl (JK (r := [_, _, _, _]) rfl rfl) ?_; refine LR rfl (JK (r := [_, _, _, _, _, _, _, _]) rfl rfl) ?_; refine LN rfl fun r1 => ?_; refine Jz (k := 0) (n := 8) (ys := (a0L).cells) rfl rfl rfl rfl rfl rfl rfl rfl rfl ?_; refine nK hK4 (sR fun _ hK5 => ?_); refine LR rfl (Jq (xs := (a0L).cells) (n := 8) rfl (kn 0 rfl) rfl rfl rfl) ?_; refine LS 2 [] rfl rfl ?_; refine Qd rfl rfl rfl (enters_of Tryz.func25 (by kernel_rfl) rfl) (Jvo (R := []) Jq5 VN Zx) (fun q hq => nomatch hq) fun x => ?_; refine KC List.perm_append_comm ?_
  obtain ⟨xa, xe, xL, xok, xeq⟩ := x
  obtain ⟨hxa, rfl⟩ : xa.er = qq ∧ xe = 0 := by have := xeq.trans k1; exact Prod.mk.inj this
  have xok : xa.In xL := by simpa using xok
  change HL _ _ ((37, .tuple #[xa.val, .int .i64 0]) :: _) (_ :: _ :: _ :: xL) _ _ _ _; refine LS 3 [] rfl rfl ?_; refine LN rfl fun r2 => ?_; refine Jz (k := 0) (n := 8) (ys := (xa).cells) rfl rfl rfl rfl rfl rfl rfl rfl rfl ?_; refine Ji rfl (nK hK5 ?_); refine sR fun _ hK6 => ?_; refine LR rfl (JK (r := [_]) rfl rfl) ?_; refine LR rfl (Jq (xs := (xa).cells) (n := 8) rfl (kn 0 rfl) rfl rfl rfl) ?_; refine Qd rfl rfl rfl (enters_of Tryz.func23 (by kernel_rfl) rfl) (Jzg (R := xL) (s := st0L) qB xok) (fun q hq => .inl (by simp [hq])) fun y => ?_; refine KC (yT _ [_, _, _, _] xL) ?_
  obtain ⟨ys, ye, yL, yok, yeq⟩ := y
  obtain ⟨hys, rfl⟩ : ys.er = [qq] ∧ ye = 0 := by have := yeq.trans ((congrArg (Jsp []) hxa).trans k2); exact Prod.mk.inj this
  change HL _ _ ((43, .tuple #[ys.val, .int .i64 0]) :: _) (_ :: _ :: _ :: _ :: (yL ++ xL)) _ _ _ _; refine LS 3 [] rfl rfl ?_; refine LN rfl fun r3 => ?_; refine Jz (k := 0) (n := 1) (ys := (ys).cells) rfl rfl rfl rfl rfl rfl rfl rfl rfl ?_; refine Ji rfl (nK hK6 ?_); refine sR fun _ hK7 => ?_; refine LR rfl (Jq (xs := (ys).cells) (n := 1) rfl (kn 0 rfl) rfl rfl rfl) ?_; refine LS 2 [2] rfl rfl ?_
  refine Jh rfl rfl rfl (enters_of Tryz.func14 (by kernel_rfl) rfl) (Jxm (R := yL ++ xL) yok zh) (fun q hq => .inl (by simp only [List.mem_append] at hq; rcases hq with h | h <;> simp [h])) ?_
  have hcf : WX ys zh = true := by rw [Jn4, hys, k3]; rfl
  have hce : (Wl ys zh).er = qq := by rw [Jsz, hys, k3]; rfl
  have hci := Js0 yok zh
  rw [hcf]
  generalize Wl ys zh = ca at hce hci ⊢
  refine LS 3 [] rfl rfl ?_; refine LN rfl fun r4 => ?_; refine Jz (k := 0) (n := 8) (ys := (ca).cells) rfl rfl rfl rfl rfl rfl rfl rfl rfl ?_; refine Ji rfl (nK hK7 ?_); refine sR fun _ hK8 => ?_; refine LR rfl (Jq (xs := (ys).cells) (n := 1) rfl (kn 1 rfl) rfl rfl rfl) ?_
  refine Jh rfl rfl rfl Jrp (ZU (R := yL ++ xL) yok (fun _ => by rw [hys]; exact k4)) (fun q hq => .inl (by simp only [List.mem_append] at hq; rcases hq with h | h <;> simp [h])) ?_; refine Jy ((congrArg jm (by rw [hys]; exact hB) : _ = jm (tb, 0))) ?_; refine LS 5 [] rfl rfl (nK hK8 ?_); refine sR fun _ hK9 => Ji rfl (Qd rfl rfl rfl Jv3 (qQ tb) (fun q hq => nomatch hq) fun u => (KC (yT _ [_, _, _, _, _, _] _) ?_))
  obtain ⟨us, ue, uL, uok, ueq⟩ := u
  obtain ⟨hus, rfl⟩ : us.er = [qq] ∧ ue = 0 := by have := ueq.trans hP; exact Prod.mk.inj this
  have uok : us.In uL := by simpa using uok
  change HL _ _ ((60, .tuple #[us.val, .int .i64 0]) :: _) (_ :: _ :: _ :: _ :: _ :: _ :: (uL ++ (yL ++ xL))) _ _ _ _; refine LS 3 [] rfl rfl ?_; refine LN rfl fun r5 => ?_; refine Jz (k := 0) (n := 1) (ys := (us).cells) rfl rfl rfl rfl rfl rfl rfl rfl rfl ?_; refine Ji rfl (nK hK9 ?_); refine sR fun _ hK10 => ?_; refine LR rfl (JK (r := [_]) rfl rfl) ?_; refine Jh rfl rfl rfl Jrp (ZU (R := []) (s := st0L) qB (fun _ => by decide +kernel)) (fun q hq => nomatch hq) ?_; refine Jy ((congrArg jm hE : _ = jm ([], 0))) ?_; refine LS 5 [] rfl rfl (nK hK10 ?_); refine sR fun _ hK11 => ?_; refine LR rfl (Jq (xs := (xa).cells) (n := 8) rfl (kn 3 rfl) rfl rfl rfl) ?_; refine LS 2 [] rfl rfl ?_; refine Qd rfl rfl rfl (enters_of Tryz.func25 (by kernel_rfl) rfl) (Jvo (R := xL) xok VN VN) (fun q hq => .inl (by simp [hq])) fun z => ?_; refine KC (yT _ [_, _, _, _, _, _, _] _) ?_
  obtain ⟨da, de, dL, dok, deq⟩ := z
  obtain ⟨hda, rfl⟩ : da.er = a0W ∧ de = 0 := by have := deq.trans ((congrArg (fun e => wM e VN VN) hxa).trans k5); exact Prod.mk.inj this
  change HL _ _ ((72, .tuple #[da.val, .int .i64 0]) :: _) (_ :: _ :: _ :: _ :: _ :: _ :: _ :: (dL ++ (uL ++ (yL ++ xL)))) _ _ _ _; refine LS 3 [] rfl rfl ?_; refine LN rfl fun r6 => ?_; refine Jz (k := 0) (n := 8) (ys := (da).cells) rfl rfl rfl rfl rfl rfl rfl rfl rfl ?_; refine Ji rfl (nK hK11 ?_); refine sR fun _ hK12 => ?_; refine LR rfl (Jq (xs := (ys).cells) (n := 1) rfl (kn 3 rfl) rfl rfl rfl) ?_
  refine Jh rfl rfl rfl (enters_of Tryz.func29 (by kernel_rfl) rfl) (Jeu (R := yL ++ xL) yok (fun _ => by rw [hys]; exact k4)) (fun q hq => .inl (by simp only [List.mem_append] at hq; rcases hq with h | h <;> simp [h])) ?_; refine Jy ((congrArg jm (by rw [hys]; exact hR1) : _ = jm (rb, 0))) ?_; refine LS 5 [] rfl rfl (nK hK12 ?_); refine sR fun _ hK13 => ?_; refine LR rfl (JK (r := [_]) rfl rfl) ?_; refine Jh rfl rfl rfl (enters_of Tryz.func29 (by kernel_rfl) rfl) (Jeu (R := []) (s := st0L) qB (fun _ => by decide +kernel)) (fun q hq => nomatch hq) ?_; refine Jy ((congrArg jm hR0 : _ = jm (ra, 0))) ?_; refine LS 5 [] rfl rfl (nK hK13 ?_); refine sR fun _ hK14 => ?_; refine LR rfl (Jq (xs := (ca).cells) (n := 8) rfl (kn 2 rfl) rfl rfl rfl) ?_; refine LR rfl (Jq (xs := (xa).cells) (n := 8) rfl (kn 4 rfl) rfl rfl rfl) ?_
  refine Jh rfl rfl rfl (enters_of Tryz.func16 (by kernel_rfl) rfl) (yR (R := yL ++ xL) hci (xok.mono fun q hq => List.mem_append_right _ hq)) (fun q hq => .inl (by simp only [List.mem_append] at hq; rcases hq with h | h <;> simp [h])) ?_; refine Jy (Zy (show decide (ca.er = xa.er) = true from decide_eq_true (hce.trans hxa.symm))) ?_; refine Ji rfl (nK hK14 ?_); refine sR fun _ hK15 => ?_; refine LR rfl (Jq (xs := (da).cells) (n := 8) rfl (kn 0 rfl) rfl rfl rfl) ?_; refine LR rfl (Jq (xs := (a0L).cells) (n := 8) rfl (kn 5 rfl) rfl rfl rfl) ?_
  refine Jh rfl rfl rfl (enters_of Tryz.func16 (by kernel_rfl) rfl) (yR (R := dL ++ xL) dok (b := a0L) Jq5) (fun q hq => .inl (by simp only [List.mem_append] at hq; rcases hq with h | h <;> simp [h])) ?_; refine Jy (Zy (show decide (da.er = a0L.er) = true from decide_eq_true (hda.trans rfl))) ?_; refine Ji rfl (nK hK15 ?_); refine sR fun _ hK16 => LS 13 [] rfl rfl ?_; refine LR rfl (Jq (xs := (ca).cells) (n := 8) rfl (kn 2 rfl) rfl rfl rfl) ?_; refine Ji rfl ?_
  refine Jh rfl rfl rfl (enters_of Tryz.func20 (by kernel_rfl) rfl) (Jqj (R := yL ++ xL) hci VN) (fun q hq => .inl (by simp only [List.mem_append] at hq; rcases hq with h | h <;> simp [h])) ?_; refine Jy (congrArg J3 (show Qn ca.er VN = Zx by rw [hce]; exact k6)) ?_; refine Ji rfl (LR rfl (VD (a := Zx) (b := Zx) rfl rfl) (Jy (Zy (show decide (Zx = Zx) = true from decide_eq_true rfl)) ?_)); refine LS 2 [] rfl rfl ?_; refine LR rfl (Jq (xs := (a0L).cells) (n := 8) rfl (kn 5 rfl) rfl rfl rfl) ?_; refine Ji rfl (Jh rfl rfl rfl (enters_of Tryz.func20 (by kernel_rfl) rfl) (Jqj (R := []) (a := a0L) Jq5 VN) (fun q hq => nomatch hq) (Jy (congrArg J3 (show Qn a0L.er VN = VN from k7)) ?_)); refine Ji rfl (LR rfl (VD (a := VN) (b := VN) rfl rfl) (Jy (Zy (show decide (VN = VN) = true from decide_eq_true rfl)) ?_)); refine LS 3 [] rfl rfl ?_; refine LR rfl (wn rfl rfl rfl) ?_; refine Jy (show _ = Value.int .i64 137 from Jq6 htl) ?_; refine LS 7 [] rfl rfl ?_; refine LR rfl (Jq (xs := (ys).cells) (n := 1) rfl (kn 3 rfl) rfl rfl rfl) ?_; refine LR rfl (Jq (xs := (us).cells) (n := 1) rfl (kn 1 rfl) rfl rfl rfl) ?_
  refine Jh rfl rfl rfl Jv2 (yP (R := uL ++ (yL ++ xL)) (yok.mono fun q hq => List.mem_append_right _ hq) (uok.mono fun q hq => List.mem_append_left _ hq)) (fun q hq => .inl (by simp only [List.mem_append] at hq; rcases hq with h | h | h <;> simp [h])) ?_; refine Jy (Zy (show decide (ys.er = us.er) = true from decide_eq_true (hys.trans hus.symm))) ?_; refine LS 7 [] rfl rfl ?_; refine LR rfl (VD (a := ([] : BS)) (b := ([] : BS)) rfl rfl) ?_; refine Jy (Zy (show decide (([] : BS) = ([] : BS)) = true from decide_eq_true rfl)) ?_; refine LS 14 [] rfl rfl ?_; refine LR rfl (wn rfl rfl rfl) ?_; refine Jy (show _ = Value.int .i64 32 from Jq6 hrl) ?_; refine LS 9 [] rfl rfl ?_; refine LR rfl (Y2 (a := ra) (b := rb) rfl rfl) ?_; refine Jy (Zy (Jzo hne)) ?_; refine LS 6 [] rfl rfl ?_; refine LR rfl (Jq (xs := (ys).cells) (n := 1) rfl (kn 3 rfl) rfl rfl rfl) ?_
  refine Jh rfl rfl rfl Jfh (WC (R := yL ++ xL) yok) (fun q hq => .inl (by simp only [List.mem_append] at hq; rcases hq with h | h <;> simp [h])) ?_; refine Jy (congrArg (Value.int .i64) (show Qa ys.er = 0 by rw [hys]; exact k8)) ?_; refine LS 3 [] rfl rfl ?_; refine LR rfl (JK (r := [_, _, _, _, _, _, _, _]) rfl rfl) ?_; refine Ki (vs := [_]) (zs := [_, _, _, _, _, _, _, _]) (r := ac0L.cells) rfl rfl rfl rfl rfl rfl rfl rfl rfl (by rw [Kv]; exact rfl) rfl fun rx => ?_; refine LR rfl (JK (r := [_]) rfl rfl) ?_; refine Jh (Rl := [(rx, _)]) rfl rfl rfl Jfh (WC (s := ⟨[ac0L], some (⟨rx, 0, none⟩, 1)⟩) (Jus rx)) (fun q hq => .inl (by rw [List.mem_singleton.1 hq]; exact List.mem_cons_self)) ?_; refine Jy (congrArg (Value.int .i64) (show Qa [ac0] = 2 from k9)) ?_; refine LS 3 [] rfl rfl (nK hK16 ?_); refine Jb (pT rfl rfl rfl fun w1 hs1 => ?_); exact ⟨rfl, hs1.keep⟩
theorem Jvq : ∀ s : BS, wL (s.map jd) = s.length
  | [] => by rw [List.map_nil, wL]; rfl
  | b :: s => by rw [List.map_cons, wL, Jvq s, List.length_cons]; show wV (.mk b.toNat 0 0 0 [] none [] none 0) + s.length = _; rw [wV, wL]; simp; omega
theorem Jjh (s : BS) : wV (Zu s) = 1 + s.length := by unfold Zu JX; rw [wV, Jvq]; simp
theorem Jq7 : ∀ l : List (BS × BS), (∀ x ∈ l, x.1.length = 32 ∧ x.2.length = 32) → wL (l.map Ya) = 67 * l.length
  | [], _ => by rw [List.map_nil, wL]; rfl
  | x :: l, h => by
    obtain ⟨h1, h2⟩ := h x List.mem_cons_self
    rw [List.map_cons, wL, Jq7 l fun y hy => h y (List.mem_cons_of_mem _ hy), List.length_cons]
    unfold Ya JX
    rw [wV, wL, wL, wL, Jjh, Jjh, h1, h2]; simp; omega
theorem Jzp {a : AcE} (h : Yy a = 0) : wV (xq a) = 26 + a.code.length + 67 * a.slots.length := by
  obtain ⟨h1, h2, _⟩ := Wk h
  unfold xq JX
  rw [wV, wL, wL, wL, wL, wL, wL, Jjh, Jjh, wV, wV, wV, wL, Jq7 _ fun x hx => ⟨(h2 x hx).1, (h2 x hx).2.1⟩, h1]; simp; omega
def slN (l : List AcE) : Nat := (l.map fun a => a.slots.length).sum
theorem Jq8 {a : AcE} (h : Yv a = true) (h2 : a.code.length ≤ 512) : a.code.length ≤ 60 := by
  unfold Yv at h
  simp only [Bool.and_eq_true, Bool.not_eq_true', Bool.or_eq_false_iff, Bool.and_eq_false_iff, decide_eq_false_iff_not] at h; omega
theorem Jvr : ∀ l : List AcE, (∀ a ∈ l, Yy a = 0 ∧ Yv a = true) → wL (l.map xq) ≤ 86 * l.length + 67 * slN l
  | [], _ => by rw [List.map_nil, wL]; simp
  | a :: l, h => by
    obtain ⟨h1, h2⟩ := h a List.mem_cons_self
    have ih := Jvr l fun b hb => h b (List.mem_cons_of_mem _ hb)
    have hc := Jq8 h2 (Wk h1).2.2.2.1
    rw [List.map_cons, wL, Jzp h1, List.length_cons]
    unfold slN at ih ⊢
    rw [List.map_cons, List.sum_cons]; omega
theorem Jji : ∀ (l : List AcE) (i : Nat) (n : Int), i + l.length ≤ 41 → (ZY i n l).1 = true → (∀ a ∈ l, Yv a = true) ∧ (ZY i n l).2 = n + (slN l : Int)
  | [], i, n, _, _ => ⟨fun a ha => (nomatch ha), by unfold ZY slN; simp⟩
  | a :: l, i, n, hl, h => by
    rw [List.length_cons] at hl
    unfold ZY at h ⊢
    rw [if_neg (by omega)] at h ⊢
    by_cases hf : Yv a = false
    · rw [if_pos hf] at h; cases h
    · rw [if_neg hf] at h ⊢
      obtain ⟨h1, h2⟩ := Jji l (i + 1) (n + (a.slots.length : Int)) (by omega) h
      refine ⟨fun b hb => ?_, ?_⟩
      · rcases List.mem_cons.1 hb with rfl | hb
        · simpa using hf
        · exact h1 b hb
      · rw [h2]; unfold slN; rw [List.map_cons, List.sum_cons]; omega
theorem Jut {l : List AcE} (h : Jbn l = true) : l.length ≤ 40 ∧ (∀ a ∈ l, Yv a = true) ∧ slN l ≤ 40 := by
  unfold Jbn at h
  simp only [Bool.and_eq_true, decide_eq_true_eq] at h
  obtain ⟨h1, h2, h3⟩ := h
  obtain ⟨g1, g2⟩ := Jji l 0 0 (by omega) h1
  exact ⟨h2, g1, by omega⟩
theorem Jq9 {l : List AcE} (hf : Jbn l = true) (hc : Qa l = 0) : wV (VI l) ≤ 20000 := by
  obtain ⟨h1, h2, h3⟩ := Jut hf
  obtain ⟨c1, c2, _⟩ := wO.1 hc
  have := Jvr l fun a ha => ⟨c2 a ha, h2 a ha⟩
  unfold VI JX
  rw [wV]; simp only [List.length_nil]; omega
theorem Jla {l : List AcE} (h : (Qs l).2 ≠ 0) : (Qs l).1 = [] := by
  unfold Qs at h ⊢
  by_cases h1 : Qa l ≠ 0
  · rw [if_pos h1]
  · rw [if_neg h1] at h ⊢; exact (Jtx h).1
theorem yU {l : List AcE} (h : (Qs l).2 = 0) : Qa l = 0 ∧ Qs l = Ws Qg (VI l) := by
  unfold Qs at h ⊢
  by_cases h1 : Qa l ≠ 0
  · rw [if_pos h1] at h; exact absurd h h1
  · rw [if_neg h1]; exact ⟨Decidable.not_not.1 h1, rfl⟩
theorem Jez {l : List AcE} (h : (Qs l).2 = 0) (hlay : Nonempty (VR (VI l))) (hw : wV (VI l) ≤ 20000) : Vf (Qs l).1 = (l, 0) := by
  obtain ⟨h1, h2⟩ := yU h
  rw [h2] at h ⊢
  obtain ⟨v⟩ := hlay
  have e : Ws Qg v.x = Ws Qg (VI l) := (Jjf Qg v.x).symm.trans (congrArg (Ws Qg) v.er)
  obtain ⟨_, _, p3⟩ := Ji6 h
  have hg := Jpw v.ok (by rw [← Jpv, v.er]; exact hw) (by rw [e]; exact h)
  rw [← Jgf, v.er] at hg; rw [p3]
  unfold Vf
  rw [hg]
  dsimp only
  rw [if_neg (by decide), Jp7, if_neg (by rw [h1]; decide)]
theorem qR {y : Vl} {k n : Int} {p : Pl} {ins : List Ty} (hk : k = 3 ∨ k = 4 ∨ k = 7) (h : JW y (.mk k n p ins) = 0) : VH y = JX (y.items.map VH) 0 := by
  obtain ⟨a, b, c, d, bits, pb, items, pi, pick⟩ := y
  obtain ⟨_, h2, _⟩ := YN h
  rw [KY k n _ a b c d bits pb items pi pick _ rfl] at h2; rw [KE, QZ]
  rcases hk with rfl | rfl | rfl <;> simp [KK] at h2 <;> simp [h2, JX, Vl.items]
theorem Jgn {y : Vl} {n : Int} {p : Pl} {ins : List Ty} (h : JW y (.mk 1 n p ins) = 0) : VH y = .mk (y.num.getD 0 0) (y.num.getD 1 0) (y.num.getD 2 0) (y.num.getD 3 0) [] none [] none 0 ∧ ((Qp y.num).length : Int) ≤ n := by
  obtain ⟨a, b, c, d, bits, pb, items, pi, pick⟩ := y
  obtain ⟨_, h2, _⟩ := YN h
  rw [KY 1 n _ a b c d bits pb items pi pick _ rfl] at h2; rw [KE, QZ]
  simp [KK] at h2
  obtain ⟨⟨⟨h3, h4⟩, h5⟩, h6⟩ := h2
  simp [h3, h4, h5, Vl.num]
  exact h6
theorem Jzq : ∀ i : Fin 256, (Jae [UInt8.ofNat i.val]).1 = [i.val, 0, 0, 0] := by decide +kernel
theorem Jzr : (Jae []).1 = [0, 0, 0, 0] := by decide +kernel
theorem Jzs {l : List Nat} (hl : WOk l) (h : (Qp l).length ≤ 1) : ∃ b : UInt8, l = [b.toNat, 0, 0, 0] := by
  have hp := Jaf hl
  match hb : Qp l, h with
  | [], _ => rw [hb] at hp; exact ⟨0, (congrArg Prod.fst hp).symm.trans Jzr⟩
  | [x], _ =>
    rw [hb] at hp; refine ⟨x, (congrArg Prod.fst hp).symm.trans ?_⟩
    have := Jzq ⟨x.toNat, Vg x⟩
    simp only [UInt8.ofNat_toNat] at this; exact this
theorem Jx2 {R : Jo} {y : Vl} (h : y.In R) : WOk y.num := by
  obtain ⟨a, b, c, d, bits, pb, items, pi, pick⟩ := y
  exact (Jqv h).wok
theorem Jx3 {R : Jo} {y : Vl} (hin : y.In R) (h : JW y byT = 0) : jd (byB y) = VH y := by
  obtain ⟨h1, h2⟩ := Jgn h
  obtain ⟨b, hb⟩ := Jzs (Jx2 hin) (by omega)
  rw [h1]
  unfold jd byB
  rw [hb]
  simp
theorem YR {R : Jo} {y x : Vl} (h : y.In R) (hx : x ∈ y.items) : x.In R := by
  obtain ⟨a, b, c, d, bits, pb, items, pi, pick⟩ := y
  exact h.sub x hx
theorem Jvs {R : Jo} {y : Vl} (hin : y.In R) (h : ∀ x ∈ y.items, JW x byT = 0) (he : VH y = JX (y.items.map VH) 0) : Zu (XC y) = VH y := by
  rw [he]
  unfold Zu XC
  rw [List.map_map]
  congr 1
  exact List.map_congr_left fun x hx => Jx3 (YR hin hx) (h x hx)
theorem Jra {v : Vl} {n : Int} {p : Pl} {x : Ty} (h : JW v (.mk 3 n p [x]) = 0) : ∀ y ∈ v.items, JW y x = 0 := by
  obtain ⟨a, b, c, d, bits, pb, items, pi, pick⟩ := v
  obtain ⟨_, _, h3⟩ := YN h
  intro y hy
  obtain ⟨j, hj⟩ := List.getElem?_of_mem hy
  exact VB h3 hj
theorem Jbu {R : Jo} {y : Vl} {n : Int} (hin : y.In R) (h : JW y (Wt 3 n) = 0) : Zu (XC y) = VH y := Jvs hin (Jra h) (qR (.inl rfl) h)
theorem Juu {R : Jo} {y : Vl} {n : Int} (hin : y.In R) (h : JW y (Wt 4 n) = 0) : Zu (XC y) = VH y := Jvs hin (Yw h).2 (qR (.inr (.inl rfl)) h)
theorem Juv {R : Jo} {y : Vl} (hin : y.In R) (h : JW y qj = 0) : Ya (Wv y) = VH y := by
  have he := qR (.inr (.inr rfl)) h
  obtain ⟨h1, h2⟩ := wg h
  match hz : y.items, h1 with
  | [k0, k1], _ =>
    have e0 := h2 0 k0 (by rw [hz]; rfl)
    have e1 := h2 1 k1 (by rw [hz]; rfl)
    have i0 : Wu y 0 = k0 := by unfold Wu; rw [hz]; rfl
    have i1 : Wu y 1 = k1 := by unfold Wu; rw [hz]; rfl
    unfold Wv Ya
    rw [he, hz, i0, i1, Jbu (YR hin (by rw [hz]; simp)) e0, Jbu (YR hin (by rw [hz]; simp)) e1]; rfl
theorem Jx4 {R : Jo} {y : Vl} (hin : y.In R) (h : JW y acT = 0) : xq (acB y) = VH y := by
  have he := qR (.inr (.inr rfl)) h
  obtain ⟨h1, h2⟩ := wg h
  match hz : y.items, h1 with
  | [p0, p1, p2, p3, p4], _ =>
    have e0 := h2 0 p0 (by rw [hz]; rfl)
    have e1 := h2 1 p1 (by rw [hz]; rfl)
    have e2 := h2 2 p2 (by rw [hz]; rfl)
    have e3 := h2 3 p3 (by rw [hz]; rfl)
    have e4 := h2 4 p4 (by rw [hz]; rfl)
    have i0 : Wu y 0 = p0 := by unfold Wu; rw [hz]; rfl
    have i1 : Wu y 1 = p1 := by unfold Wu; rw [hz]; rfl
    have i2 : Wu y 2 = p2 := by unfold Wu; rw [hz]; rfl
    have i3 : Wu y 3 = p3 := by unfold Wu; rw [hz]; rfl
    have i4 : Wu y 4 = p4 := by unfold Wu; rw [hz]; rfl
    have hp1 : p1.In R := YR hin (by rw [hz]; simp)
    have hp4 : p4.In R := YR hin (by rw [hz]; simp)
    obtain ⟨n, hn, _⟩ := Jqw hp1 e1
    have f1 := (Jgn e1).1
    have f2 := (Jgn e2).1
    have f4 := qR (.inr (.inl rfl)) e4
    rw [hn] at f1
    unfold acB xq w4B
    rw [he, hz, i0, i1, i2, i3, i4, Jbu (YR hin (by rw [hz]; simp)) e0, Juu (YR hin (by rw [hz]; simp)) e3, hn]; simp only [List.map_cons, List.map_nil]; rw [f1, f2, f4]
    congr 1
    simp only [List.getD_cons_zero, List.getD_cons_succ]
    congr 5
    rw [List.map_map]; exact congrArg (fun l => JX l 0) (List.map_congr_left fun z hz => Juv (YR hp4 hz) ((Yw e4).2 z hz))
theorem Juw {R : Jo} {y : Vl} (hin : y.In R) (h : JW y Qg = 0) : VI (YM y) = VH y := by
  have he := qR (.inr (.inl rfl)) h
  rw [he]
  unfold VI YM
  rw [List.map_map]; exact congrArg (fun l => JX l 0) (List.map_congr_left fun x hx => Jx4 (YR hin hx) ((Yw h).2 x hx))
theorem Jlb {s : BS} (h : (Vf s).2 ≠ 0) : (Vf s).1 = [] := by
  unfold Vf at h ⊢
  by_cases h1 : (getR Qg s).2 ≠ 0
  · rw [if_pos h1]
  · rw [if_neg h1] at h ⊢
    by_cases h2 : Qa (YM (getR Qg s).1) ≠ 0
    · rw [if_pos h2]
    · rw [if_neg h2] at h; exact absurd rfl h
theorem Je0 {s : BS} (h : (Vf s).2 = 0) (hl : s.length ≤ 2500) : Qs (Vf s).1 = (s, 0) ∧ Qa (Vf s).1 = 0 ∧ wV (VI (Vf s).1) ≤ 20000 := by
  unfold Vf at h ⊢
  by_cases h1 : (getR Qg s).2 ≠ 0
  · rw [if_pos h1] at h; exact absurd h h1
  rw [if_neg h1] at h ⊢
  by_cases h2 : Qa (YM (getR Qg s).1) ≠ 0
  · rw [if_pos h2] at h; exact absurd h h2
  rw [if_neg h2]
  have h1 := Decidable.not_not.1 h1
  have h2 := Decidable.not_not.1 h2
  have hfit := Jev h1
  obtain ⟨gv, hgv⟩ : ∃ v, v = (getR Qg s).1 := ⟨_, rfl⟩
  rw [← hgv] at hfit h2 ⊢
  have hget : KH Qg s = (gv, 0) := by
    unfold getR at hgv h1
    rw [if_neg (by rw [YL]; decide), if_neg (by omega)] at hgv h1; exact Prod.ext hgv.symm h1
  obtain ⟨_, p2, p3, p4⟩ := Jik Qg 0 YL s gv (by omega) hget
  obtain ⟨y⟩ := Jxd (t := trSta.x) trSta.ok (Jun trSta) s (by omega)
  have hy : VH y.x = gv := by
    rw [y.er, ← Jbj, trSta.er, hget]
  have hyf : JW y.x Qg = 0 := by rw [← Jbh, hy]; exact hfit
  have hsta : VI (YM gv) = gv := by
    rw [← hy, Jjg, Juw y.ok hyf]
  refine ⟨?_, h2, by dsimp only; rw [hsta]; omega⟩
  dsimp only
  unfold Qs Ws QT
  rw [if_neg (by rw [h2]; decide), hsta, if_pos YL, if_neg (by rw [hfit]; decide), p2, if_neg (by omega)]
section
open Go Go.ChangeShapes Go.WideShapes
variable {H : Type} {enc : TypeId × Value → H} {P : Program} {w : World} {base : Nat} {sp : Nat → Bool} {held : Bool}
end
end Go.Proofs.YteceenlfegnigaaGreatDoor
