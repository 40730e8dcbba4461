import Derived.Test.YteceenlfegnigaaGreatDoorZtBytesf
set_option maxRecDepth 100000
namespace Go.Proofs.YteceenlfegnigaaGreatDoor
set_option linter.all false
open Go.SL Go.RowKit Go.Shelf
variable {cs : Array Value} {Y s : BS} {pr : BS × BS → Bool} {rs : Bool} {g : FuncId} {L R Rl : Jp} {xs : List (BS × BS)} {accts acs : List AcL} {a : List Nat} {caps sp vs : List Value} {us yitems : List Vl} {B b c cap d e i j m r rb rv sz : Nat} {f y : Operand} {pb pi : Pl} {P : Program} {T t x x0 : Ty} {q : Ty × Nat × Nat} {α : Type} {z : Value} {v : Vl} {row : Vn} {w : World} {V : α → Value}
theorem J1z (hb : (rb, Obj.cells #[fV 39] e (0, 0)) ∈ R) (x : AcL) (k : BS) : PureR Tryz.prog 105 [vA x, Jy k, .pointer (some ⟨rb, 0, none⟩)].toArray (.int .i64 (ws (AcL.addr x) k)) R := by
 refine Ja Tryz.func105 rfl rfl fun w => Nl fun r1 => ?_; refine kB ?_; refine LR rfl (Jd rfl (Or.inr hb) rfl rfl) (LR rfl (Jq (vs := [_, _, _, _, _, _, _, _]) rfl (kn 0 rfl) rfl rfl rfl rfl) (J2 rfl rfl rfl Jvc (Jc4 x) (Vb rfl (J2 rfl rfl rfl (enters_of Tryz.func106 m5 rfl) (Jau (AcL.addr x) k) (J0 4 rfl ?_))))); exact Nz
theorem Jnh {xs : List AcL} {p : Pl} (hl : xs.length ≤ 1000) (hs : Seg R xs.length (xs.flatMap AcL.cells) p) (hso : KY AcL.addr xs) {k : BS} (eg : Enters Tryz.prog g) (hg : ∀ x ∈ xs, PureR Tryz.prog g (vA x :: Jy k :: caps).toArray (.int .i64 (ws (AcL.addr x) k)) R) :
  PureR Tryz.prog 104 [KE xs.length p, Jy k, .func (.func g) #[] caps.toArray].toArray (.tuple #[.int .i64 (jY AcL.addr k xs : Nat), .bool (Ws AcL.addr k xs)]) R := by
 refine Ja Tryz.func104 rfl rfl fun w => G0 ?_; refine NE ?_; refine JP 12 rfl (Js (σ := Nat × Nat) (fun s => (s.1 ≤ s.2 ∧ s.2 ≤ xs.length) ∧ (∀ q y, q < s.1 → xs[q]? = some y → Op.bytesLess (AcL.addr y) k = true) ∧ ∀ q y, s.2 ≤ q → xs[q]? = some y → Op.bytesLess (AcL.addr y) k = false) (fun s => [(0, KE xs.length p), (1, Jy k), (2, .func (.func g) #[] caps.toArray), (8, .int .i64 (xs.length : Int)), (9, .int .i64 (s.1 : Int)), (10, .int .i64 (s.2 : Int))]) (fun _ => []) (fun _ _ _ => True) (fun s => s.2 - s.1) (0, xs.length) ⟨⟨Nat.zero_le _, Nat.le_refl _⟩, fun q _ hq => absurd hq (Nat.not_lt_zero q), fun q y hq hy => absurd (List.getElem?_eq_some_iff.1 hy).1 m0⟩ (lK rfl) (List.nil_sublist _) (fun _ _ h => h) ?_); rintro ⟨i, j⟩ ⟨⟨hi0, hj0⟩, hi1, hi2⟩; simp only at hi0 hj0 hi1 hi2; refine E1 ?_; refine cD (fun h7 => ?_) fun h7 => ?_
 refine Hf ?_
 obtain ⟨x, hx, hmx⟩ := QN (show (i + j) / 2 < xs.length by omega)
 refine GO ?_
 refine LR rfl (Jf (j := ((i + j) / 2)) rfl hs rfl rfl rfl me m0) (LR rfl (KU AcL.len oR rfl hs hx rfl rfl) (Vb rfl (Jc rfl rfl rfl eg (hg x hmx) oR ?_))); refine Vf rfl (Jj (congrArg Value.bool (Jjf (AcL.addr x) k)) (JP 2 rfl ?_)); refine cD (fun h10 => ?_) fun h10 => ?_
 exact Gk
 exact GC
 ·refine NK ?_
  have hij : i = j := by omega
  have hlo : i = jY AcL.addr k xs := Jpk m0 hi1 (fun y hy => hi2 i y m0 hy)
  refine H8 ?_
  refine Jo 39 rfl (fun gb => ?_) (fun gb => ?_) <;> (try simp only [ZZ] at gb) <;> first | (refine Vb rfl ?_) | (refine LK rfl ?_)
  all_goals refine GL ?_
  all_goals first | (obtain ⟨x, hx, hmx⟩ := QN nD; refine LR rfl (Jf (j := i) rfl hs rfl rfl rfl me m0) ?_) | refine LK rfl ?_
  all_goals first | refine LR rfl (KU AcL.len oR rfl hs hx rfl rfl) ?_ | refine LK rfl ?_
  all_goals refine Ei ?_
  all_goals first | refine Jc rfl rfl rfl eg (hg x hmx) oR ?_ | refine LK rfl ?_
  all_goals first | (refine Vf rfl ?_; refine Jj (congrArg Value.bool (Jd9 (AcL.addr x) k)) ?_) | refine LK rfl ?_
  all_goals (
   refine LW 1 [] rfl rfl (J0 3 rfl (X6 2 rfl ?_)); refine NL fun w1 hs1 => ?_
   first | (rw [← Jec (kf := AcL.addr) (hlo ▸ hx), ← hlo]; rfl) | (rw [vl (kf := AcL.addr) m0, ← hlo]; rfl)
   skip)
theorem Jta {xs : List AcL} {p : Pl} (hl : xs.length ≤ 1000) (hs : Seg R xs.length (xs.flatMap AcL.cells) p) (hso : KY AcL.addr xs) {k : BS} :
  PureR Tryz.prog 70 [KE xs.length p, Jy k, fV 39].toArray (.tuple #[.int .i64 (jY AcL.addr k xs : Nat), .bool (Ws AcL.addr k xs)]) R := by
 refine Ja Tryz.func70 rfl rfl fun w => Nl fun r1 => ?_; refine JK 8 rfl (GP ?_); refine Jc (Rl := (r1, Obj.cells #[fV 39] _ (0, 0)) :: R) rfl rfl rfl (enters_of Tryz.func104 m5 rfl) (Jnh (caps := [.pointer (some ⟨r1, 0, none⟩)]) hl (hs.mono fun q hq => List.mem_cons_of_mem _ hq) hso (enters_of Tryz.func105 m5 rfl) (fun x hx => J1z List.mem_cons_self x k)) (fun q hq => (List.mem_cons.1 hq).elim (fun h => Or.inl (by rw [h]; exact List.mem_cons_self)) Or.inr) (J0 7 rfl (Nr fun w1 hs1 => ?_)); exact Ns
theorem J10 (hb : (rb, Obj.cells #[fV 48] e (0, 0)) ∈ R) (x : (BS × BS)) (k : BS) : PureR Tryz.prog 110 [vS x, Jy k, .pointer (some ⟨rb, 0, none⟩)].toArray (.int .i64 (ws (Prod.fst x) k)) R := by
 refine Ja Tryz.func110 rfl rfl fun w => Nl fun r1 => ?_; refine kB ?_; refine LR rfl (Jd rfl (Or.inr hb) rfl rfl) (LR rfl (Jq (vs := [_, _]) rfl (kn 0 rfl) rfl rfl rfl rfl) (J2 rfl rfl rfl Jvd (Jc5 x) (Vb rfl (J2 rfl rfl rfl (enters_of Tryz.func106 m5 rfl) (Jau (Prod.fst x) k) (J0 4 rfl ?_))))); exact Nz
theorem Jni {p : Pl} (hl : xs.length ≤ 1000) (hs : Seg R xs.length (xs.flatMap Vq) p) (hso : KY Prod.fst xs) {k : BS} (eg : Enters Tryz.prog g) (hg : ∀ x ∈ xs, PureR Tryz.prog g (vS x :: Jy k :: caps).toArray (.int .i64 (ws (Prod.fst x) k)) R) :
  PureR Tryz.prog 109 [KE xs.length p, Jy k, .func (.func g) #[] caps.toArray].toArray (.tuple #[.int .i64 (jY Prod.fst k xs : Nat), .bool (Ws Prod.fst k xs)]) R := by
 refine Ja Tryz.func109 rfl rfl fun w => G0 ?_; refine NE ?_; refine JP 12 rfl (Js (σ := Nat × Nat) (fun s => (s.1 ≤ s.2 ∧ s.2 ≤ xs.length) ∧ (∀ q y, q < s.1 → xs[q]? = some y → Op.bytesLess (Prod.fst y) k = true) ∧ ∀ q y, s.2 ≤ q → xs[q]? = some y → Op.bytesLess (Prod.fst y) k = false) (fun s => [(0, KE xs.length p), (1, Jy k), (2, .func (.func g) #[] caps.toArray), (8, .int .i64 (xs.length : Int)), (9, .int .i64 (s.1 : Int)), (10, .int .i64 (s.2 : Int))]) (fun _ => []) (fun _ _ _ => True) (fun s => s.2 - s.1) (0, xs.length) ⟨⟨Nat.zero_le _, Nat.le_refl _⟩, fun q _ hq => absurd hq (Nat.not_lt_zero q), fun q y hq hy => absurd (List.getElem?_eq_some_iff.1 hy).1 m0⟩ (lK rfl) (List.nil_sublist _) (fun _ _ h => h) ?_); rintro ⟨i, j⟩ ⟨⟨hi0, hj0⟩, hi1, hi2⟩; simp only at hi0 hj0 hi1 hi2; refine E1 ?_; refine cD (fun h7 => ?_) fun h7 => ?_
 refine Hf ?_
 obtain ⟨x, hx, hmx⟩ := QN (show (i + j) / 2 < xs.length by omega)
 refine GO ?_
 refine LR rfl (Jf (j := ((i + j) / 2)) rfl hs rfl rfl rfl me m0) (LR rfl (KU Ki oR rfl hs hx rfl rfl) (Vb rfl (Jc rfl rfl rfl eg (hg x hmx) oR ?_))); refine Vf rfl (Jj (congrArg Value.bool (Jjf (Prod.fst x) k)) (JP 2 rfl ?_)); refine cD (fun h10 => ?_) fun h10 => ?_
 exact Gk
 exact GC
 ·refine NK ?_
  have hij : i = j := by omega
  have hlo : i = jY Prod.fst k xs := Jpk m0 hi1 (fun y hy => hi2 i y m0 hy)
  refine H8 ?_
  refine Jo 39 rfl (fun gb => ?_) (fun gb => ?_) <;> (try simp only [ZZ] at gb) <;> first | (refine Vb rfl ?_) | (refine LK rfl ?_)
  all_goals refine GL ?_
  all_goals first | (obtain ⟨x, hx, hmx⟩ := QN nD; refine LR rfl (Jf (j := i) rfl hs rfl rfl rfl me m0) ?_) | refine LK rfl ?_
  all_goals first | refine LR rfl (KU Ki oR rfl hs hx rfl rfl) ?_ | refine LK rfl ?_
  all_goals refine Ei ?_
  all_goals first | refine Jc rfl rfl rfl eg (hg x hmx) oR ?_ | refine LK rfl ?_
  all_goals first | (refine Vf rfl ?_; refine Jj (congrArg Value.bool (Jd9 (Prod.fst x) k)) ?_) | refine LK rfl ?_
  all_goals (
   refine LW 1 [] rfl rfl (J0 3 rfl (X6 2 rfl ?_)); refine NL fun w1 hs1 => ?_
   first | (rw [← Jec (kf := Prod.fst) (hlo ▸ hx), ← hlo]; rfl) | (rw [vl (kf := Prod.fst) m0, ← hlo]; rfl)
   skip)
theorem Jtb {p : Pl} (hl : xs.length ≤ 1000) (hs : Seg R xs.length (xs.flatMap Vq) p) (hso : KY Prod.fst xs) {k : BS} :
  PureR Tryz.prog 73 [KE xs.length p, Jy k, fV 48].toArray (.tuple #[.int .i64 (jY Prod.fst k xs : Nat), .bool (Ws Prod.fst k xs)]) R := by
 refine Ja Tryz.func73 rfl rfl fun w => Nl fun r1 => ?_; refine JK 8 rfl (GP ?_); refine Jc (Rl := (r1, Obj.cells #[fV 48] _ (0, 0)) :: R) rfl rfl rfl (enters_of Tryz.func109 m5 rfl) (Jni (caps := [.pointer (some ⟨r1, 0, none⟩)]) hl (hs.mono fun q hq => List.mem_cons_of_mem _ hq) hso (enters_of Tryz.func110 m5 rfl) (fun x hx => J10 List.mem_cons_self x k)) (fun q hq => (List.mem_cons.1 hq).elim (fun h => Or.inl (by rw [h]; exact List.mem_cons_self)) Or.inr) (J0 7 rfl (Nr fun w1 hs1 => ?_)); exact Ns
theorem Jtc {xs : List AcL} {p : Pl} (hl : xs.length ≤ 1000) (hs : Seg R xs.length (xs.flatMap AcL.cells) p) :
  PureT (α := { row : Vn // rowOk 8 xs.length (xs.flatMap AcL.cells) row }) Tryz.prog 71 [KE xs.length p].toArray (fun x => J3 xs.length x.1) [] (fun x => JJ 34 (xs.flatMap AcL.cells) x.1) R := by
 cases p with
 | none =>
  have h0 : xs = [] := List.length_eq_zero_iff.1 hs
  subst h0; refine JE Tryz.func71 rfl rfl fun w => Hk ?_; refine cD (fun g => ?_) fun g => ?_
  exact H6
  try exact Bool.noConfusion g
 | some q =>
  refine JE Tryz.func71 rfl rfl fun w => Hk ?_; refine JI rfl (fun g => ?_) (fun g => ?_)
  try exact Bool.noConfusion g
  ·refine GO ?_; refine XW rfl rfl rfl rfl fun r1 => Vb rfl (yW (k := 0) (b := 96) (sz := 8) rfl rfl rfl rfl rfl rfl hs oR rfl rfl rfl rfl rfl m7 (Qq AcL.len xs) (Zl AcL.one xs) m0 m0 fun row hrow => (J0 4 rfl ?_)); exact Gs
theorem Jnj {xs : List AcL} (hl : xs.length ≤ 1000) (hrow : rowOk 8 xs.length (xs.flatMap AcL.cells) row) (hi : i ≤ xs.length) {y : AcL} (hv : (rv, Obj.cells (AcL.cells y).toArray 34 (0, 0)) ∈ R) :
  PureT (α := { row' : Vn // rowOk 8 (xs.length + 1) ((xs.take i ++ y :: xs.drop i).flatMap AcL.cells) row' }) Tryz.prog 72 [J3 xs.length row, .int .i64 (i : Int), .slice (some ⟨rv, 0, none⟩) 1 1].toArray (fun x => J3 (xs.length + 1) x.1) (JJ 34 (xs.flatMap AcL.cells) row) (fun x => JJ 34 ((xs.take i ++ y :: xs.drop i).flatMap AcL.cells) x.1) R := by
 obtain ⟨A, hA⟩ : ∃ A, A = (xs.take i).flatMap AcL.cells := ⟨_, rfl⟩
 obtain ⟨B, hB⟩ : ∃ B, B = (xs.drop i).flatMap AcL.cells := ⟨_, rfl⟩
 obtain ⟨n, hn⟩ : ∃ n, n = xs.length := ⟨_, rfl⟩
 have e1 : xs.flatMap AcL.cells = A ++ B := by rw [hA, hB, ← List.flatMap_append, List.take_append_drop]
 have e2 : (xs.take i ++ y :: xs.drop i).flatMap AcL.cells = A ++ (AcL.cells y ++ B) := by rw [List.flatMap_append, List.flatMap_cons, hA, hB]
 have lA : A.length = i * 8 := by rw [hA, Qq AcL.len, List.length_take, Nat.min_eq_left hi]
 have lB : B.length = (n - i) * 8 := by rw [hB, Qq AcL.len, List.length_drop, hn]
 have lF : (AcL.cells y).length = 8 := AcL.len y
 have oF : (AcL.cells y).all Va = true := AcL.one y
 have oA : A.all Va = true := by rw [hA]; exact Zl AcL.one _
 have oB : B.all Va = true := by rw [hB]; exact Zl AcL.one _
 rw [e1] at hrow; rw [e1, e2]; rw [← hn] at hl hi hrow ⊢; clear hA hB e1 e2 hn
 cases row with
 | none =>
  obtain ⟨rfl, hAB⟩ := hrow
  obtain rfl : i = 0 := by omega
  obtain ⟨rfl, rfl⟩ := List.append_eq_nil_iff.1 hAB
  refine JE Tryz.func72 rfl rfl fun w => JN (Jt 15 rfl (gg ?_)); refine DE ?_; refine cD (fun g => ?_) fun g => ?_
  first | exact Bool.noConfusion g | omega
  refine gH ?_; refine gg ?_; refine JP 11 rfl (JI rfl (fun g => ?_) (fun g => ?_))
  try simp only [ZZ] at g
  refine GO ?_; refine WU (n := 0) (m := 1) (b := 96) (sz := 8) (news := AcL.cells y) (xs := []) (L0 := []) rfl rfl rfl rfl (Or.inr hv) rfl rfl rfl rfl rfl m7 rfl rfl oF m7 SlOwn.nil m7 m7 fun r1 cap1 sp1 hsp1 => ?_; exact Dd
  try exact Bool.noConfusion g
 | some q =>
  obtain ⟨r, cap, sp⟩ := q
  obtain ⟨hr1, hr2⟩ := hrow
  have hcap : n ≤ cap := by omega
  refine JE Tryz.func72 rfl rfl fun w => JN ?_; change HC _ _ _ [(r, .cells ((A ++ B) ++ sp).toArray 34 (0, 0))] _ _ _; refine Gy ?_; refine JI rfl (fun g => ?_) (fun g => ?_)
  try exact Bool.noConfusion g
  ·refine gH ?_; refine gg ?_; refine JP 11 rfl (JI rfl (fun g => ?_) (fun g => ?_))
   try simp only [ZZ] at g
   refine GO ?_
   obtain rfl : B = [] := List.length_eq_zero_iff.1 m0
   refine WU (n := n) (m := 1) (b := 96) (sz := 8) (news := AcL.cells y) (xs := A ++ []) (L0 := []) rfl rfl rfl rfl (Or.inr hv) rfl rfl rfl rfl rfl m7 rfl lF oF m7 (SlOwn.own (k := 0) rfl MJ hr1 ML rfl) m0 m0 fun r1 cap1 sp1 hsp1 => gt ?_; refine ke fun w1 hs1 => ?_; exact Hn
   ·try simp only [ZZ] at g
    refine Jt 8 rfl (Jh m0 m0 (Vb rfl (LR rfl (Jjd rfl rfl) (JP 3 rfl ?_)))); refine cD (fun g => ?_) fun g => ?_
    ·refine GO ?_
     refine LR rfl (JZ (sz := 8) (q := i) (kl := none) (kh := some (i)) (km := none) (m := 0) (z := cap) (off' := 0) rfl rfl rfl trivial ⟨_, rfl⟩ trivial rfl rfl rfl m0 m0 m0 (fun h => by cases h) My) (GK ?_); refine Jh m0 m0 (JK 2 rfl (Jj nH (yQ (r := r) (off := 0) (n := i) (cap := cap) (m := n + 1 - i) (sz := 8) (b := 96) (xs := A) rfl rfl rfl rfl (kn 0 rfl) rfl rfl rfl rfl rfl rfl m7 nU lA m0 m0 m0 m0 m0 fun r2 cap2 Z sp2 hZ hsp2 => ?_))); rw [show i + (n + 1 - i) = n + 1 by omega] at hsp2 ⊢
     obtain ⟨Z1, Z2, rfl, lZ1⟩ := cut (l := Z) (a := 8) m0
     have lZ2 : Z2.length = (n - i) * 8 := by rw [List.length_append, lZ1] at hZ; omega
     rw [show A ++ (Z1 ++ Z2) ++ sp2 = A ++ (Z1 ++ (Z2 ++ sp2)) by simp only [List.append_assoc]]; refine Gq ?_; refine LR rfl (JZ (sz := 8) (m := i) (kl := some (i)) (kh := none) (km := none) (q := n + 1) (z := cap2) (off' := i * 8) rfl rfl rfl ⟨_, rfl⟩ trivial trivial rfl rfl rfl m0 m0 m0 (fun _ => rfl) mz) (DL ?_)
     refine Yr (k := 0) (n := 1) (sz := 8) (vs := AcL.cells y) (cs' := A ++ (AcL.cells y ++ (Z2 ++ sp2))) rfl rfl rfl rfl rfl (Or.inr hv) rfl rfl mT rfl lF oF mF (XX lA (by rw [lZ1])) rfl (kU ?_); refine HI ?_; refine Jb rfl rfl rfl (JZ (sz := 8) (m := i + 1) (kl := some (i + 1)) (kh := none) (km := none) (q := n + 1) (z := cap2) (off' := (i + 1) * 8) rfl rfl rfl ⟨_, rfl⟩ trivial trivial rfl rfl rfl m0 m0 m0 (fun _ => rfl) mz) (kp ?_); refine Jb rfl rfl rfl (JZ (sz := 8) (m := i) (kl := some (i)) (kh := none) (km := none) (q := n) (z := cap) (off' := i * 8) rfl rfl rfl ⟨_, rfl⟩ trivial trivial rfl rfl rfl m0 m0 m0 (fun _ => rfl) mz) (Kn ?_); rw [show A ++ (AcL.cells y ++ (Z2 ++ sp2)) = (A ++ AcL.cells y) ++ (Z2 ++ sp2) by simp only [List.append_assoc]]
     refine Yr (k := 0) (n := n - i) (sz := 8) (vs := B) (cs' := (A ++ AcL.cells y) ++ (B ++ sp2)) rfl rfl rfl rfl rfl (kn 1 rfl) rfl rfl mT nT lB oB mF (XX (by rw [List.length_append, lA, lF]; omega) lZ2) rfl ?_; exact Hw
    ·refine Jt 8 rfl (Jj nL ?_)
     refine LR rfl (JZ (sz := 8) (q := n + 1) (kl := none) (kh := some (n + 1)) (km := none) (m := 0) (z := cap) (off' := 0) rfl rfl rfl trivial ⟨_, rfl⟩ trivial rfl rfl rfl m0 m0 m0 (fun h => by cases h) My) (JK 11 rfl (Jj m8 (LR rfl (JZ (sz := 8) (m := i + 1) (kl := some (i + 1)) (kh := none) (km := none) (q := n + 1) (z := cap) (off' := (i + 1) * 8) rfl rfl rfl ⟨_, rfl⟩ trivial trivial rfl rfl rfl m0 m0 m0 (fun _ => rfl) mz) (LR rfl (vV (k := 0) rfl rfl rfl hv rfl rfl rfl mF Tryz.func107 rfl rfl rfl rfl) (kU ?_))))); refine JI rfl (fun g => ?_) (fun g => ?_)
     ·try simp only [ZZ] at g
      refine He ?_; refine HI ?_; refine Jb rfl rfl rfl (JZ (sz := 8) (m := i + 1) (kl := some (i + 1)) (kh := none) (km := none) (q := n + 1) (z := cap) (off' := (i + 1) * 8) rfl rfl rfl ⟨_, rfl⟩ trivial trivial rfl rfl rfl m0 m0 m0 (fun _ => rfl) mz) (kp ?_); refine Jb rfl rfl rfl (JZ (sz := 8) (m := i) (kl := some (i)) (kh := none) (km := none) (q := n + 1) (z := cap) (off' := i * 8) rfl rfl rfl ⟨_, rfl⟩ trivial trivial rfl rfl rfl m0 m0 m0 (fun _ => rfl) mz) (Kn ?_)
      obtain ⟨X1, X2, hX, lX1⟩ := cut (l := B ++ sp) (a := 8) nb
      obtain ⟨X3, X4, rfl, lX3⟩ := cut (l := X2) (a := (n - i) * 8) Md
      refine Ew ?_
      refine Yr (k := 0) (n := n - i) (sz := 8) (vs := B) (cs' := (A ++ X1) ++ (B ++ X4)) rfl rfl rfl rfl rfl (kn 0 rfl) rfl rfl mT nO lB oB nQ (XX (by rw [List.length_append, lA, lX1]; omega) lX3) rfl (G1 ?_); refine LR rfl (JZ (sz := 8) (m := i) (kl := some (i)) (kh := none) (km := none) (q := n + 1) (z := cap) (off' := i * 8) rfl rfl rfl ⟨_, rfl⟩ trivial trivial rfl rfl rfl m0 m0 m0 (fun _ => rfl) mz) (DL ?_); rw [show (A ++ X1) ++ (B ++ X4) = A ++ (X1 ++ (B ++ X4)) by simp only [List.append_assoc]]
      refine Yr (k := 0) (n := 1) (sz := 8) (vs := AcL.cells y) (cs' := A ++ (AcL.cells y ++ (B ++ X4))) rfl rfl rfl rfl rfl (Or.inr hv) rfl rfl mT rfl lF oF mF (XX lA (by rw [lX1])) rfl ?_; exact gQ
     ·try exact Bool.noConfusion g
theorem Jtd {p : Pl} (hl : xs.length ≤ 1000) (hs : Seg R xs.length (xs.flatMap Vq) p) :
  PureT (α := { row : Vn // rowOk 2 xs.length (xs.flatMap Vq) row }) Tryz.prog 74 [KE xs.length p].toArray (fun x => J3 xs.length x.1) [] (fun x => JJ 59 (xs.flatMap Vq) x.1) R := by
 cases p with
 | none =>
  have h0 : xs = [] := List.length_eq_zero_iff.1 hs
  subst h0; refine JE Tryz.func74 rfl rfl fun w => Hk ?_; refine cD (fun g => ?_) fun g => ?_
  exact H6
  try exact Bool.noConfusion g
 | some q =>
  refine JE Tryz.func74 rfl rfl fun w => Hk ?_; refine JI rfl (fun g => ?_) (fun g => ?_)
  try exact Bool.noConfusion g
  ·refine GO ?_; refine XW rfl rfl rfl rfl fun r1 => Vb rfl (yW (k := 0) (b := 32) (sz := 2) rfl rfl rfl rfl rfl rfl hs oR rfl rfl rfl rfl rfl m7 (Qq Ki xs) (Zl qv xs) m0 m0 fun row hrow => (J0 4 rfl ?_)); exact Gs
theorem Jnk (hl : xs.length ≤ 1000) (hrow : rowOk 2 xs.length (xs.flatMap Vq) row) (hi : i ≤ xs.length) {y : (BS × BS)} (hv : (rv, Obj.cells (Vq y).toArray 59 (0, 0)) ∈ R) :
  PureT (α := { row' : Vn // rowOk 2 (xs.length + 1) ((xs.take i ++ y :: xs.drop i).flatMap Vq) row' }) Tryz.prog 75 [J3 xs.length row, .int .i64 (i : Int), .slice (some ⟨rv, 0, none⟩) 1 1].toArray (fun x => J3 (xs.length + 1) x.1) (JJ 59 (xs.flatMap Vq) row) (fun x => JJ 59 ((xs.take i ++ y :: xs.drop i).flatMap Vq) x.1) R := by
 obtain ⟨A, hA⟩ : ∃ A, A = (xs.take i).flatMap Vq := ⟨_, rfl⟩
 obtain ⟨B, hB⟩ : ∃ B, B = (xs.drop i).flatMap Vq := ⟨_, rfl⟩
 obtain ⟨n, hn⟩ : ∃ n, n = xs.length := ⟨_, rfl⟩
 have e1 : xs.flatMap Vq = A ++ B := by rw [hA, hB, ← List.flatMap_append, List.take_append_drop]
 have e2 : (xs.take i ++ y :: xs.drop i).flatMap Vq = A ++ (Vq y ++ B) := by rw [List.flatMap_append, List.flatMap_cons, hA, hB]
 have lA : A.length = i * 2 := by rw [hA, Qq Ki, List.length_take, Nat.min_eq_left hi]
 have lB : B.length = (n - i) * 2 := by rw [hB, Qq Ki, List.length_drop, hn]
 have lF : (Vq y).length = 2 := Ki y
 have oF : (Vq y).all Va = true := qv y
 have oA : A.all Va = true := by rw [hA]; exact Zl qv _
 have oB : B.all Va = true := by rw [hB]; exact Zl qv _
 rw [e1] at hrow; rw [e1, e2]; rw [← hn] at hl hi hrow ⊢; clear hA hB e1 e2 hn
 cases row with
 | none =>
  obtain ⟨rfl, hAB⟩ := hrow
  obtain rfl : i = 0 := by omega
  obtain ⟨rfl, rfl⟩ := List.append_eq_nil_iff.1 hAB
  refine JE Tryz.func75 rfl rfl fun w => JN (Jt 15 rfl (gg ?_)); refine DE ?_; refine cD (fun g => ?_) fun g => ?_
  first | exact Bool.noConfusion g | omega
  refine gH ?_; refine gg ?_; refine JP 11 rfl (JI rfl (fun g => ?_) (fun g => ?_))
  try simp only [ZZ] at g
  refine GO ?_; refine WU (n := 0) (m := 1) (b := 32) (sz := 2) (news := Vq y) (xs := []) (L0 := []) rfl rfl rfl rfl (Or.inr hv) rfl rfl rfl rfl rfl m7 rfl rfl oF m7 SlOwn.nil m7 m7 fun r1 cap1 sp1 hsp1 => ?_; exact Dd
  try exact Bool.noConfusion g
 | some q =>
  obtain ⟨r, cap, sp⟩ := q
  obtain ⟨hr1, hr2⟩ := hrow
  have hcap : n ≤ cap := by omega
  refine JE Tryz.func75 rfl rfl fun w => JN ?_; change HC _ _ _ [(r, .cells ((A ++ B) ++ sp).toArray 59 (0, 0))] _ _ _; refine Gy ?_; refine JI rfl (fun g => ?_) (fun g => ?_)
  try exact Bool.noConfusion g
  ·refine gH ?_; refine gg ?_; refine JP 11 rfl (JI rfl (fun g => ?_) (fun g => ?_))
   try simp only [ZZ] at g
   refine GO ?_
   obtain rfl : B = [] := List.length_eq_zero_iff.1 m0
   refine WU (n := n) (m := 1) (b := 32) (sz := 2) (news := Vq y) (xs := A ++ []) (L0 := []) rfl rfl rfl rfl (Or.inr hv) rfl rfl rfl rfl rfl m7 rfl lF oF m7 (SlOwn.own (k := 0) rfl MJ hr1 ML rfl) m0 m0 fun r1 cap1 sp1 hsp1 => gt ?_; refine ke fun w1 hs1 => ?_; exact Hn
   ·try simp only [ZZ] at g
    refine Jt 8 rfl (Jh m0 m0 (Vb rfl (LR rfl (Jjd rfl rfl) (JP 3 rfl ?_)))); refine cD (fun g => ?_) fun g => ?_
    ·refine GO ?_
     refine LR rfl (JZ (sz := 2) (q := i) (kl := none) (kh := some (i)) (km := none) (m := 0) (z := cap) (off' := 0) rfl rfl rfl trivial ⟨_, rfl⟩ trivial rfl rfl rfl m0 m0 m0 (fun h => by cases h) My) (GK ?_); refine Jh m0 m0 (JK 2 rfl (Jj nH (yQ (r := r) (off := 0) (n := i) (cap := cap) (m := n + 1 - i) (sz := 2) (b := 32) (xs := A) rfl rfl rfl rfl (kn 0 rfl) rfl rfl rfl rfl rfl rfl m7 nU lA m0 m0 m0 m0 m0 fun r2 cap2 Z sp2 hZ hsp2 => ?_))); rw [show i + (n + 1 - i) = n + 1 by omega] at hsp2 ⊢
     obtain ⟨Z1, Z2, rfl, lZ1⟩ := cut (l := Z) (a := 2) m0
     have lZ2 : Z2.length = (n - i) * 2 := by rw [List.length_append, lZ1] at hZ; omega
     rw [show A ++ (Z1 ++ Z2) ++ sp2 = A ++ (Z1 ++ (Z2 ++ sp2)) by simp only [List.append_assoc]]; refine Gq ?_; refine LR rfl (JZ (sz := 2) (m := i) (kl := some (i)) (kh := none) (km := none) (q := n + 1) (z := cap2) (off' := i * 2) rfl rfl rfl ⟨_, rfl⟩ trivial trivial rfl rfl rfl m0 m0 m0 (fun _ => rfl) mz) (DL ?_)
     refine Yr (k := 0) (n := 1) (sz := 2) (vs := Vq y) (cs' := A ++ (Vq y ++ (Z2 ++ sp2))) rfl rfl rfl rfl rfl (Or.inr hv) rfl rfl mT rfl lF oF mF (XX lA (by rw [lZ1])) rfl (kU ?_); refine HI ?_; refine Jb rfl rfl rfl (JZ (sz := 2) (m := i + 1) (kl := some (i + 1)) (kh := none) (km := none) (q := n + 1) (z := cap2) (off' := (i + 1) * 2) rfl rfl rfl ⟨_, rfl⟩ trivial trivial rfl rfl rfl m0 m0 m0 (fun _ => rfl) mz) (kp ?_); refine Jb rfl rfl rfl (JZ (sz := 2) (m := i) (kl := some (i)) (kh := none) (km := none) (q := n) (z := cap) (off' := i * 2) rfl rfl rfl ⟨_, rfl⟩ trivial trivial rfl rfl rfl m0 m0 m0 (fun _ => rfl) mz) (Kn ?_); rw [show A ++ (Vq y ++ (Z2 ++ sp2)) = (A ++ Vq y) ++ (Z2 ++ sp2) by simp only [List.append_assoc]]
     refine Yr (k := 0) (n := n - i) (sz := 2) (vs := B) (cs' := (A ++ Vq y) ++ (B ++ sp2)) rfl rfl rfl rfl rfl (kn 1 rfl) rfl rfl mT nT lB oB mF (XX (by rw [List.length_append, lA, lF]; omega) lZ2) rfl ?_; exact Hw
    ·refine Jt 8 rfl (Jj nL ?_)
     refine LR rfl (JZ (sz := 2) (q := n + 1) (kl := none) (kh := some (n + 1)) (km := none) (m := 0) (z := cap) (off' := 0) rfl rfl rfl trivial ⟨_, rfl⟩ trivial rfl rfl rfl m0 m0 m0 (fun h => by cases h) My) (JK 11 rfl (Jj m8 (LR rfl (JZ (sz := 2) (m := i + 1) (kl := some (i + 1)) (kh := none) (km := none) (q := n + 1) (z := cap) (off' := (i + 1) * 2) rfl rfl rfl ⟨_, rfl⟩ trivial trivial rfl rfl rfl m0 m0 m0 (fun _ => rfl) mz) (LR rfl (vV (k := 0) rfl rfl rfl hv rfl rfl rfl mF Tryz.func111 rfl rfl rfl rfl) (kU ?_))))); refine JI rfl (fun g => ?_) (fun g => ?_)
     ·try simp only [ZZ] at g
      refine He ?_; refine HI ?_; refine Jb rfl rfl rfl (JZ (sz := 2) (m := i + 1) (kl := some (i + 1)) (kh := none) (km := none) (q := n + 1) (z := cap) (off' := (i + 1) * 2) rfl rfl rfl ⟨_, rfl⟩ trivial trivial rfl rfl rfl m0 m0 m0 (fun _ => rfl) mz) (kp ?_); refine Jb rfl rfl rfl (JZ (sz := 2) (m := i) (kl := some (i)) (kh := none) (km := none) (q := n + 1) (z := cap) (off' := i * 2) rfl rfl rfl ⟨_, rfl⟩ trivial trivial rfl rfl rfl m0 m0 m0 (fun _ => rfl) mz) (Kn ?_)
      obtain ⟨X1, X2, hX, lX1⟩ := cut (l := B ++ sp) (a := 2) nb
      obtain ⟨X3, X4, rfl, lX3⟩ := cut (l := X2) (a := (n - i) * 2) Md
      refine Ew ?_
      refine Yr (k := 0) (n := n - i) (sz := 2) (vs := B) (cs' := (A ++ X1) ++ (B ++ X4)) rfl rfl rfl rfl rfl (kn 0 rfl) rfl rfl mT nO lB oB nQ (XX (by rw [List.length_append, lA, lX1]; omega) lX3) rfl (G1 ?_); refine LR rfl (JZ (sz := 2) (m := i) (kl := some (i)) (kh := none) (km := none) (q := n + 1) (z := cap) (off' := i * 2) rfl rfl rfl ⟨_, rfl⟩ trivial trivial rfl rfl rfl m0 m0 m0 (fun _ => rfl) mz) (DL ?_); rw [show (A ++ X1) ++ (B ++ X4) = A ++ (X1 ++ (B ++ X4)) by simp only [List.append_assoc]]
      refine Yr (k := 0) (n := 1) (sz := 2) (vs := Vq y) (cs' := A ++ (Vq y ++ (B ++ X4))) rfl rfl rfl rfl rfl (Or.inr hv) rfl rfl mT rfl lF oF mF (XX lA (by rw [lX1])) rfl ?_; exact gQ
     ·try exact Bool.noConfusion g
theorem Jwz {xs : List AcL} {p : Pl} (hl : xs.length ≤ 1000) (hs : Seg R xs.length (xs.flatMap AcL.cells) p) (hso : KY AcL.addr xs) (y : AcL) :
  PureT (α := { row : Vn // rowOk 8 (QO AcL.addr y xs).length ((QO AcL.addr y xs).flatMap AcL.cells) row }) Tryz.prog 46 [KE xs.length p, vA y, fV 39].toArray (fun x => J3 (QO AcL.addr y xs).length x.1) [] (fun x => JJ 34 ((QO AcL.addr y xs).flatMap AcL.cells) x.1) R := by
 have hins := Jpl (x := y) hso
 obtain ⟨j, hj⟩ : ∃ j, j = jY AcL.addr (AcL.addr y) xs := ⟨_, rfl⟩
 have hjl : j ≤ xs.length := hj ▸ Jpj _ _
 have hpl := Jta (k := AcL.addr y) hl hs hso
 have hlt : Ws AcL.addr (AcL.addr y) xs = true → j < xs.length := fun h => hj ▸ Jed h
 rw [← hj] at hins hpl
 obtain ⟨b, hb⟩ : ∃ b, b = Ws AcL.addr (AcL.addr y) xs := ⟨_, rfl⟩
 rw [← hb] at hins hpl hlt; clear hj hb; refine JE Tryz.func46 rfl rfl fun w => Nl fun r1 => ?_; refine XO 8 [0] rfl rfl (J2 rfl rfl rfl Jvc (Jc4 y) (Vb rfl (Jc rfl rfl rfl (enters_of Tryz.func70 m5 rfl) hpl oR (JK 10 rfl ?_)))); refine Qu rfl rfl rfl (enters_of Tryz.func71 m5 rfl) (Jtc hl hs) oR fun x => ?_
 obtain ⟨row, hrow⟩ := x
 change HL _ _ ((20, J3 xs.length row) :: _) (JJ 34 (xs.flatMap AcL.cells) row ++ [(r1, _)]) _ _ _ _; refine HN ?_; refine cD (fun g => ?_) fun g => ?_
 refine He ?_
 have hltb := hlt m9
 obtain ⟨r2, cap2, sp2, rfl⟩ := row_some hrow m0
 change HC _ _ _ [(r2, .cells (xs.flatMap AcL.cells ++ sp2).toArray 34 (0, 0)), (r1, _)] _ _ _; refine GN ?_; refine LR rfl (Jq (vs := AcL.cells y) rfl (kn 1 rfl) rfl rfl rfl rfl) (LR rfl (Kg (j := j) (m := 8) rfl rfl rfl rfl rfl m0 rfl) (Vr (k := 0) (n := 8) (vs := (AcL.cells y).toArray) (cs' := ((xs.set j y).flatMap AcL.cells ++ sp2).toArray) rfl rfl rfl rfl rfl rfl (AcL.one y) (by have := hrow.1; simp only [List.size_toArray, List.length_append, Qq AcL.len]; omega) (by apply Array.toList_inj.1; simp only [List.toList_toArray, Nat.zero_add]; exact Jjg AcL.len hltb y sp2) rfl (J0 10 rfl (ke fun w1 hs1 => ?_))))
 (rw [if_pos m9] at hins
  rw [hins, List.length_set]
  exact ⟨⟨some (r2, cap2, sp2), hrow.same (by rw [Qq AcL.len, Qq AcL.len, List.length_set])⟩, rfl, hs1.weakL (by simp [JJ])⟩)
 ·refine H8 ?_; refine LR rfl (Jq (vs := AcL.cells y) rfl (Or.inl (List.mem_append_right _ List.mem_cons_self)) rfl rfl rfl rfl) (J8 (n := 1) (sz := 8) (vs := [_]) (zs := [_, _, _, _, _, _, _, _]) (r := AcL.cells y) rfl rfl rfl rfl rfl rfl rfl rfl rfl ms rfl fun rv => VA (T := JJ 34 (xs.flatMap AcL.cells) row) (L0 := [(rv, _), (r1, _)]) (Rl := [(rv, Obj.cells (AcL.cells y).toArray 34 (0, 0))]) (by exact List.perm_middle.symm) rfl rfl rfl (enters_of Tryz.func72 m5 rfl) (Jnj (i := j) (y := y) hl hrow hjl List.mem_cons_self) (fun q hq => Or.inl n7) fun x => ?_)
  obtain ⟨row2, hrow2⟩ := x
  refine Ge ?_; refine ke fun w1 hs1 => ?_
  (rw [if_neg mA] at hins
   have hln : (xs.take j ++ y :: xs.drop j).length = xs.length + 1 := by simp only [List.length_append, List.length_take, List.length_cons, List.length_drop]; omega
   rw [hins, hln]
   exact ⟨⟨row2, hrow2⟩, rfl, hs1.weakL (List.sublist_append_left _ _)⟩)
theorem Jw0 {p : Pl} (hl : xs.length ≤ 1000) (hs : Seg R xs.length (xs.flatMap Vq) p) (hso : KY Prod.fst xs) (y : (BS × BS)) :
  PureT (α := { row : Vn // rowOk 2 (QO Prod.fst y xs).length ((QO Prod.fst y xs).flatMap Vq) row }) Tryz.prog 47 [KE xs.length p, vS y, fV 48].toArray (fun x => J3 (QO Prod.fst y xs).length x.1) [] (fun x => JJ 59 ((QO Prod.fst y xs).flatMap Vq) x.1) R := by
 have hins := Jpl (x := y) hso
 obtain ⟨j, hj⟩ : ∃ j, j = jY Prod.fst (Prod.fst y) xs := ⟨_, rfl⟩
 have hjl : j ≤ xs.length := hj ▸ Jpj _ _
 have hpl := Jtb (k := Prod.fst y) hl hs hso
 have hlt : Ws Prod.fst (Prod.fst y) xs = true → j < xs.length := fun h => hj ▸ Jed h
 rw [← hj] at hins hpl
 obtain ⟨b, hb⟩ : ∃ b, b = Ws Prod.fst (Prod.fst y) xs := ⟨_, rfl⟩
 rw [← hb] at hins hpl hlt; clear hj hb; refine JE Tryz.func47 rfl rfl fun w => Nl fun r1 => ?_; refine XO 8 [0] rfl rfl (J2 rfl rfl rfl Jvd (Jc5 y) (Vb rfl (Jc rfl rfl rfl (enters_of Tryz.func73 m5 rfl) hpl oR (JK 10 rfl ?_)))); refine Qu rfl rfl rfl (enters_of Tryz.func74 m5 rfl) (Jtd hl hs) oR fun x => ?_
 obtain ⟨row, hrow⟩ := x
 change HL _ _ ((20, J3 xs.length row) :: _) (JJ 59 (xs.flatMap Vq) row ++ [(r1, _)]) _ _ _ _; refine HN ?_; refine cD (fun g => ?_) fun g => ?_
 refine He ?_
 have hltb := hlt m9
 obtain ⟨r2, cap2, sp2, rfl⟩ := row_some hrow m0
 change HC _ _ _ [(r2, .cells (xs.flatMap Vq ++ sp2).toArray 59 (0, 0)), (r1, _)] _ _ _; refine GN ?_; refine LR rfl (Jq (vs := Vq y) rfl (kn 1 rfl) rfl rfl rfl rfl) (LR rfl (Kg (j := j) (m := 2) rfl rfl rfl rfl rfl m0 rfl) (Vr (k := 0) (n := 2) (vs := (Vq y).toArray) (cs' := ((xs.set j y).flatMap Vq ++ sp2).toArray) rfl rfl rfl rfl rfl rfl (qv y) (by have := hrow.1; simp only [List.size_toArray, List.length_append, Qq Ki]; omega) (by apply Array.toList_inj.1; simp only [List.toList_toArray, Nat.zero_add]; exact Jjg Ki hltb y sp2) rfl (J0 10 rfl (ke fun w1 hs1 => ?_))))
 (rw [if_pos m9] at hins
  rw [hins, List.length_set]
  exact ⟨⟨some (r2, cap2, sp2), hrow.same (by rw [Qq Ki, Qq Ki, List.length_set])⟩, rfl, hs1.weakL (by simp [JJ])⟩)
 ·refine H8 ?_; refine LR rfl (Jq (vs := Vq y) rfl (Or.inl (List.mem_append_right _ List.mem_cons_self)) rfl rfl rfl rfl) (J8 (n := 1) (sz := 2) (vs := [_]) (zs := [_, _]) (r := Vq y) rfl rfl rfl rfl rfl rfl rfl rfl rfl ms rfl fun rv => VA (T := JJ 59 (xs.flatMap Vq) row) (L0 := [(rv, _), (r1, _)]) (Rl := [(rv, Obj.cells (Vq y).toArray 59 (0, 0))]) (by exact List.perm_middle.symm) rfl rfl rfl (enters_of Tryz.func75 m5 rfl) (Jnk (i := j) (y := y) hl hrow hjl List.mem_cons_self) (fun q hq => Or.inl n7) fun x => ?_)
  obtain ⟨row2, hrow2⟩ := x
  refine Ge ?_; refine ke fun w1 hs1 => ?_
  (rw [if_neg mA] at hins
   have hln : (xs.take j ++ y :: xs.drop j).length = xs.length + 1 := by simp only [List.length_append, List.length_take, List.length_cons, List.length_drop]; omega
   rw [hins, hln]
   exact ⟨⟨row2, hrow2⟩, rfl, hs1.weakL (List.sublist_append_left _ _)⟩)
theorem Jw1 (x : BS × BS) : ZM x = (((x.1.length : Int) != 32) || ((x.2.length : Int) != 32)) := by
 have key : ∀ n : Nat, decide (n ≠ 32) = ((n : Int) != 32) := fun n => by
  by_cases h : n = 32
  ·subst h; rfl
  ·have h2 : ¬ (n : Int) = 32 := by omega
   simp [h, h2]
 unfold ZM
 rw [key, key]
theorem J11 (x : BS × BS) : Pure Tryz.prog 65 [vS x].toArray (.bool (ZM x)) := by
 refine Jz Tryz.func65 rfl rfl fun w => Nl fun r1 => ?_; refine XO 7 [0] rfl rfl (Ey ?_)
 refine Jo 7 rfl (fun gb => ?_) (fun gb => ?_) <;> (try simp only [ZZ] at gb) <;> first | (refine LR rfl (Jw rfl rfl rfl) ?_) | (refine LK rfl ?_)
 all_goals refine gC ?_
 all_goals refine kP ?_
 all_goals (
  refine gM ?_; refine Nk fun w1 hs1 => ?_; rw [Jw1]
  simp_all [J6]
  skip)
theorem Jw2 (x : BS × BS) : Pure Tryz.prog 66 [vS x].toArray (.bool (Xx x)) := by
 refine Jz Tryz.func66 rfl rfl fun w => Nl fun r1 => ?_; refine G5 ?_; refine JR 5 m5 m5 ?_
 refine kE ?_; refine Qk rfl rfl rfl Jza Jie (Jb rfl rfl rfl (V5 rfl rfl) (ku ?_)); exact DR
theorem wl {p : Pl} (hl : xs.length ≤ 9223372036854775807) (hs : Seg R xs.length (xs.flatMap Vq) p) (eg : Enters Tryz.prog g) (hg : ∀ x ∈ xs, PureR Tryz.prog g (vS x :: caps).toArray (.bool (pr x)) R) :
  PureR Tryz.prog 67 [KE xs.length p, .func (.func g) #[] caps.toArray].toArray (.bool (xs.any pr)) R := by
 have h := zX hl hs eg hg
 refine Ja Tryz.func67 rfl rfl fun w => G0 ?_; refine Jc rfl rfl rfl Jy9 h oR (Vf rfl (Jj (congrArg Value.bool Ju3) (J0 4 rfl ?_))); exact Nz
theorem Jif {a : AcL} (ha : a.In R) : PureR Tryz.prog 37 [a.val].toArray (.int .i64 (Yh a.er)) R := by
  have h1 := wl (g := 65) (caps := []) ha.len ha.seg (enters_of Tryz.func65 m5 rfl) (fun x _ => (J11 x).toR)
  have h2 := wl (g := 66) (caps := []) ha.len ha.seg (enters_of Tryz.func66 m5 rfl) (fun x _ => (Jw2 x).toR)
  have h3 := Js8 ha.len ha.seg
  have hl := ha.len
  have hseg := ha.seg
  have hE : Yh a.er = if ¬ ((a.addr.length : Int) = 20) ∨ a.slots.any ZM = true then 2 else if Vd Prod.fst a.slots = false then 11 else if (512 < (a.code.length : Int)) ∨ (16 < (a.slots.length : Int)) then 5 else if a.slots.any Xx = true then 8 else 0 := by
    exact ite_congr (propext (or_congr (by show ¬ a.addr.length = 20 ↔ _; omega) Iff.rfl)) (fun _ => rfl) (fun _ => ite_congr rfl (fun _ => rfl) (fun _ => ite_congr (propext (or_congr (by show a.code.length > 512 ↔ _; omega) (by show a.slots.length > 16 ↔ _; omega))) (fun _ => rfl) (fun _ => rfl)))
  rw [hE]; clear hE
  generalize a.slots.any ZM = oB at h1 ⊢
  generalize a.slots.any Xx = sBo at h2 ⊢
  generalize Vd Prod.fst a.slots = rB at h3 ⊢
  refine Ja Tryz.func37 rfl rfl fun w => Nl fun r1 => ?_; refine XO 19 [0] rfl rfl (Ey ?_)
  refine Jo 10 rfl (fun gb => ?_) (fun gb => ?_) <;> (try simp only [ZZ] at gb) <;> first | (refine LR rfl (Jw rfl rfl rfl) ?_) | (refine LK rfl ?_)
  all_goals refine LW 2 [0] rfl rfl ?_
  all_goals first | (refine Jc rfl rfl rfl (enters_of Tryz.func67 m5 rfl) h1 oR ?_) | refine LK rfl ?_
  all_goals (
   refine gi ?_; refine JI rfl (fun h10 => ?_) (fun h10 => ?_)
   try simp only [ZZ] at h10
   refine Hx fun w1 hs1 => ?_; simp only [J6]
   simp_all
   · try exact Bool.noConfusion h10
     all_goals try simp only [ZZ] at h10
     all_goals (
      refine gu ?_; refine Jc rfl rfl rfl (enters_of Tryz.func68 m5 rfl) h3 oR (G5 ?_); refine cD (fun h13 => ?_) fun h13 => ?_
      refine Hx fun w1 hs1 => ?_; simp only [J6]
      simp_all
      · refine gu ?_; refine Ey ?_
        refine Jo 26 rfl (fun gb => ?_) (fun gb => ?_) <;> (try simp only [ZZ] at gb) <;> first | (refine LR rfl (Jw rfl rfl rfl) ?_) | (refine LK rfl ?_)
        all_goals refine G9 ?_
        all_goals (
         refine Ee ?_; refine JI rfl (fun h20 => ?_) (fun h20 => ?_)
         try simp only [ZZ] at h20
         refine Hx fun w1 hs1 => ?_; simp only [J6]
         simp_all
         · try exact Bool.noConfusion h20
           all_goals try simp only [ZZ] at h20
           all_goals (
            refine QZ 5 [0] rfl rfl (Jc rfl rfl rfl (enters_of Tryz.func67 m5 rfl) h2 oR (kU ?_)); refine cD (fun h23 => ?_) fun h23 => ?_
            refine Hx fun w1 hs1 => ?_; simp only [J6]
            simp_all
            refine KQ 9 rfl (Nk fun w1 hs1 => ?_); simp only [J6]
            simp_all
            skip)
         skip)
      skip)
   skip)
theorem Jw3 {k : BS} (hb : (rb, Obj.cells #[Jy k] e (0, 0)) ∈ R) (a : AcL) : PureR Tryz.prog 35 [vA a, .pointer (some ⟨rb, 0, none⟩)].toArray (.bool (decide (a.addr = k))) R := by
 refine Ja Tryz.func35 rfl rfl fun w => ?_; exact gG
theorem Jw4 {k : BS} (hb : (rb, Obj.cells #[Jy k] e (0, 0)) ∈ R) (x : BS × BS) : PureR Tryz.prog 41 [vS x, .pointer (some ⟨rb, 0, none⟩)].toArray (.bool (decide (x.1 = k))) R := by
 refine Ja Tryz.func41 rfl rfl fun w => ?_; exact gG
theorem Jz6 {k : BS} (hb : (rb, Obj.cells #[Jy k] e (0, 0)) ∈ R) (x : BS × BS) : PureR Tryz.prog 50 [vS x, .pointer (some ⟨rb, 0, none⟩)].toArray (.bool (decide (x.1 = k))) R := by
 refine Ja Tryz.func50 rfl rfl fun w => ?_; exact gG
theorem Jz7 {s : StL} (hs : s.In R) (k : BS) : PureR Tryz.prog 14 [s.val, Jy k].toArray (.tuple #[(WC s k).val, .bool (Xy s k)]) R := by
 have hl := hs.len
 have hseg := hs.seg
 refine Ja Tryz.func14 rfl rfl fun w => NA fun r1 r2 => ?_; refine LN rfl fun r3 => XO 7 [2] rfl rfl (GP ?_); refine Jc (Rl := (r2, Obj.cells #[Jy k] 9 (0, 0)) :: R) rfl rfl rfl (enters_of Tryz.func34 m5 rfl) (Js6 (caps := [.pointer (some ⟨r2, 0, none⟩)]) (pr := fun a => decide (a.addr = k)) hl (hseg.mono fun q hq => List.mem_cons_of_mem _ hq) (enters_of Tryz.func35 m5 rfl) (fun a _ => Jw3 List.mem_cons_self a)) (fun q hq => (List.mem_cons.1 hq).elim (fun h => Or.inl (by rw [h]; simp)) Or.inr) (DE ?_); refine cD (fun g => ?_) fun g => ?_
 refine He ?_
 have hf := yY m9
 refine Dq ?_; refine Ex ?_
 refine E8 ?_; refine NN fun w1 hs1 => ?_; refine ⟨?_, hs1.keep⟩; rw [(xV hf).1, (xV hf).2]; rfl
 ·refine Da ?_
  obtain ⟨i, a, hidx, ha, hf⟩ := Jje m9
  refine E6 ?_
  refine LR rfl (Jf (j := i) rfl hseg rfl rfl rfl me (by have := (List.getElem?_eq_some_iff.1 ha).1; omega)) ?_; refine LR rfl (KU AcL.len oR rfl hseg ha rfl rfl) ?_
  refine kq ?_; refine Ge ?_; refine NN fun w1 hs1 => ?_; refine ⟨?_, hs1.keep⟩; rw [(Jef hf).1, (Jef hf).2]; rfl
theorem XJ {s : StL} (hs : s.In R) : PureR Tryz.prog 19 [s.val].toArray (.int .i64 (Qn s.er)) R := by
  have hl : s.accts.length ≤ 9223372036854775807 := hs.len
  have hseg := hs.seg
  obtain ⟨hc5, hcg⟩ := Jjj s
  refine Ja Tryz.func19 rfl rfl fun w => Nl fun r1 => ?_; refine XO 8 [0] rfl rfl (GV ?_); refine kU ?_; refine cD (fun g => ?_) fun g => ?_
  refine gZ fun w1 hs1 => ?_; rw [hc5 m9]; rfl
  · refine QZ 7 [0] rfl rfl (GV ?_); refine G5 ?_; refine Js (σ := Nat) (fun i => i ≤ s.accts.length ∧ goS (Xo s.er i) (s.er.drop i) = goS none s.er) (fun i => [(1, .pointer (some ⟨r1, 0, none⟩)), (11, KE s.accts.length s.p), (12, .int .i64 (s.accts.length : Int)), (13, .int .i64 (i : Int))]) (fun _ => [(r1, .cells s.cells.toArray 24 (0, 0))]) (fun _ _ _ => True) (fun i => s.accts.length - i) 0 ⟨Nat.zero_le _, rfl⟩ (lK rfl) (List.Sublist.refl _) (fun _ _ h => h) ?_; rintro i ⟨hi1, hinv⟩; refine NK ?_; refine cD (fun g => ?_) fun g => ?_
    · refine gr ?_
      obtain ⟨a, ha, hma⟩ := QN MC
      rw [Jjh (Y3 ha)] at hinv; refine kj ?_
      refine kV ?_; refine LN rfl fun r2 => Vb rfl (Jv (k := 0) (n := 8) (ys := a.cells) rfl rfl rfl rfl rfl a.len rfl a.one rfl (JK 4 rfl ?_)); refine LR rfl (Ji (xs := a.cells) (n := 8) rfl (kn 0 rfl) rfl rfl a.len) (Jc rfl rfl rfl Jy8 (Jif (hs.accts a hma)) oR (JK 9 rfl ?_))
      refine Jo 22 rfl (fun gb => ?_) (fun gb => ?_) <;> (try simp only [ZZ] at gb) <;> first | (refine Vb rfl ?_) | (refine LK rfl ?_)
      all_goals refine LW 3 [] rfl rfl ?_
      all_goals first | refine LK rfl ?_ | (refine Jo 26 rfl (fun gb => ?_) (fun gb => ?_) <;> (try simp only [ZZ] at gb) <;> first | (refine LR rfl (Jw rfl rfl rfl) ?_) | (refine LK rfl ?_))
      all_goals refine LW 2 [1] rfl rfl ?_
      all_goals first | (refine Vf rfl ?_; refine Jh m0 m0 ?_) | refine LK rfl ?_
      all_goals refine Ei ?_
      all_goals first | (refine Vf rfl ?_; refine Jh m0 m0 ?_) | refine LK rfl ?_
      all_goals first | (obtain ⟨x, hx, hmx⟩ := QN (show i - 1 < s.accts.length by omega); refine LR rfl (Jl7 (sz := 8) (a := i - 1) (b := i + 1) (m := 2) rfl hseg rfl rfl m0 m0 rfl rfl m0 m0 m0) ?_; have hlast := Jbv hx (show i - 1 + 1 = i by omega)) | refine LK rfl ?_
      all_goals first | (refine Jc rfl rfl rfl (enters_of Tryz.func38 m5 rfl) (Js7 (xs := [x, a]) (show 2 ≤ 9223372036854775807 by decide) (hseg.two AcL.len hx ha m0)) oR ?_; refine Jj (congrArg Value.bool (Jhh x a)) ?_) | refine LK rfl ?_
      all_goals (
       refine gi ?_; refine JI rfl (fun g => ?_) (fun g => ?_)
       · try exact Bool.noConfusion g
         all_goals try simp only [ZZ] at g
         all_goals (
          refine gr ?_
          have hst : V0 (Xo s.er i) a.er = 11 ∨ V0 (Xo s.er i) a.er = Yh a.er := by unfold V0; split <;> simp
          have hst : V0 (Xo s.er i) a.er = 11 := Jji m9 hlast m9
          rw [hst] at hinv; refine gr ?_; refine JI rfl (fun g => ?_) (fun g => ?_)
          try simp only [ZZ] at g
          refine Gz fun w1 hs1 => ?_; exact EQ
          try exact Bool.noConfusion g
          skip)
       · try simp only [ZZ] at g
         refine Da ?_
         have hst : V0 (Xo s.er i) a.er = 11 ∨ V0 (Xo s.er i) a.er = Yh a.er := by unfold V0; split <;> simp
         have hst : V0 (Xo s.er i) a.er = Yh a.er := Jbu (by first | exact Or.inl m9 | exact Or.inr (Or.inl (by rw [show i = 0 by omega]; rfl)) | exact Or.inr (Or.inr ⟨_, hlast, by assumption⟩))
         rw [hst] at hinv; refine gr ?_; refine cD (fun g => ?_) fun g => ?_
         refine Gz fun w1 hs1 => ?_; exact EQ
         refine GX ?_; exact Jm (i + 1) ⟨by omega, by rw [if_neg mA] at hinv; exact hinv⟩ m0 (lK rfl) (List.sublist_cons_self _ _) (fun _ _ h => h)
       skip)
    · exact EK
theorem Jte {a : AcL} (ha : a.In R) (k : BS) : PureR Tryz.prog 20 [a.val, Jy k].toArray (Jy (QB a.er k)) R := by
 have hl : a.slots.length ≤ 9223372036854775807 := ha.len
 have hseg := ha.seg
 refine Ja Tryz.func20 rfl rfl fun w => NA fun r1 r2 => ?_; refine XO 7 [1] rfl rfl (GP ?_); refine Jc (Rl := (r2, Obj.cells #[Jy k] 9 (0, 0)) :: R) rfl rfl rfl Jy9 (zX (caps := [.pointer (some ⟨r2, 0, none⟩)]) (pr := fun x => decide (x.1 = k)) hl (hseg.mono fun q hq => List.mem_cons_of_mem _ hq) (enters_of Tryz.func41 m5 rfl) (fun x _ => Jw4 List.mem_cons_self x)) (fun q hq => (List.mem_cons.1 hq).elim (fun h => Or.inl (by rw [h]; simp)) Or.inr) (DE ?_); refine cD (fun g => ?_) fun g => ?_
 refine He ?_
 have hf := yY m9
 refine Dq ?_; refine J2 rfl rfl rfl Jza Jie (Ev fun w1 hs1 => ?_); rw [Jl9 (a := a.er) hf]; rfl
 ·refine Da ?_
  obtain ⟨i, x, hidx, hx, hf⟩ := Jje m9
  refine QZ 4 [1] rfl rfl ?_
  refine LR rfl (Jf (j := i) rfl hseg rfl rfl rfl me (by have := (List.getElem?_eq_some_iff.1 hx).1; omega)) ?_; refine LR rfl (JW (off' := YC a.p + (i * 2 + 1)) rfl rfl Mk) (LR rfl (VB Ki (k := 1) (v := Jy x.2) oR rfl hseg hx rfl rfl) (DP fun w1 hs1 => ?_)); rw [Jpn (a := a.er) hf]; rfl
theorem Jtf (hl : xs.length ≤ 1000) (hrow : rowOk 2 xs.length (xs.flatMap Vq) row) (eg : Enters Tryz.prog g) (hg : ∀ x ∈ xs, PureR Tryz.prog g (vS x :: caps).toArray (.bool (pr x)) R) :
  PureT (α := { row' : Vn // rowOk 2 (xs.filter fun x => !pr x).length ((xs.filter fun x => !pr x).flatMap Vq) row' }) Tryz.prog 49 [J3 xs.length row, .func (.func g) #[] caps.toArray].toArray (fun x => J3 (xs.filter fun x => !pr x).length x.1) (JJ 59 (xs.flatMap Vq) row) (fun x => JJ 59 ((xs.filter fun x => !pr x).flatMap Vq) x.1) R := by
 have hseg := Ke (e := 59) hrow m7
 have hV := Vw xs.length row (fun h => by subst h; exact hrow.1)
 have hidx := zX (R := JJ 59 (xs.flatMap Vq) row ++ R) m0 (hseg.mono fun q hq => List.mem_append_left _ hq) eg (fun x hx => (hg x hx).mono fun q hq => List.mem_append_right _ hq)
 rw [hV] at hidx
 obtain ⟨m, hm⟩ : ∃ m, m = Zk pr xs := ⟨_, rfl⟩
 rw [← hm] at hidx; refine JE Tryz.func49 rfl rfl fun w => G0 ?_; refine Jc (Rl := JJ 59 (xs.flatMap Vq) row ++ R) rfl rfl rfl Jy9 hidx (fun q hq => (List.mem_append.1 hq).elim Or.inl Or.inr) (DE ?_); refine cD (fun h5 => ?_) fun h5 => ?_
 refine KQ 8 rfl (ke fun w1 hs1 => ?_)
 (have hall := Ju7 (pr := pr) (xs := xs) m0
  rw [hall]
  exact ⟨⟨row, hrow⟩, rfl, hs1⟩)
 ·refine J9 4 rfl ?_
  obtain ⟨i, e0⟩ : ∃ i : Nat, m = (i : Int) := by
   rcases yX (pr := pr) (xs := xs) with ⟨h, _⟩ | ⟨i, _, h, _⟩
   ·unfold Zk at hm h; split at hm <;> split at h <;> first | omega | simp_all
   exact ⟨i, hm.trans h⟩
  subst e0
  obtain ⟨hil, hif⟩ := Ju6 hm.symm
  obtain ⟨r, cap, sp, rfl⟩ := row_some hrow m0
  obtain ⟨hr1, hr2⟩ := hrow
  obtain ⟨x0, hx0, _⟩ := QN hil
  have hsplit : xs.flatMap Vq ++ sp = ((xs.take (i + 1)).filter fun x => !pr x).flatMap Vq ++ (Vq x0 ++ ((xs.drop (i + 1)).flatMap Vq ++ sp)) := by
   rw [hif, ← List.append_assoc (Vq x0), ← Jeg hx0, ← List.append_assoc, ← List.flatMap_append, List.take_append_drop]
  change HC _ _ _ [(r, .cells (xs.flatMap Vq ++ sp).toArray 59 (0, 0))] _ _ _; rw [hsplit]
  have hcap : xs.length ≤ cap := by omega
  have hi1 : ((xs.take (i + 1)).filter fun x => !pr x).length = i := by rw [hif, List.length_take]; omega
  refine GN ?_; refine Jh m0 m0 (G5 ?_); refine Js (σ := Nat × List Value) (fun s => s.1 ≤ xs.length ∧ ((xs.take s.1).filter fun x => !pr x).length < s.1 ∧ s.2.length + ((xs.take s.1).filter fun x => !pr x).length * 2 = s.1 * 2) (fun s => [(0, .slice (some ⟨r, 0, none⟩) xs.length cap), (1, .func (.func g) #[] caps.toArray), (5, .int .i64 (((xs.take s.1).filter fun x => !pr x).length : Nat)), (6, .int .i64 (s.1 : Int))]) (fun s => [(r, .cells (((xs.take s.1).filter fun x => !pr x).flatMap Vq ++ (s.2 ++ ((xs.drop s.1).flatMap Vq ++ sp))).toArray 59 (0, 0))]) (fun _ _ _ => True) (fun s => xs.length - s.1) (i + 1, Vq x0) ⟨by simp only; omega, by simp only; omega, by simp only [Ki]; omega⟩ (.cons rfl (.cons rfl (.cons (by rw [hi1]; rfl) (.cons rfl .nil)))) (List.Sublist.refl _) (fun _ _ h => h) ?_; rintro ⟨j, G⟩ ⟨hj1, hj2, hG⟩; simp only at hj1 hj2 hG; change HC _ _ [(0, _), (1, _), (5, .int .i64 (((xs.take j).filter fun x => !pr x).length : Nat)), (6, .int .i64 (j : Int))] [(r, .cells (((xs.take j).filter fun x => !pr x).flatMap Vq ++ (G ++ ((xs.drop j).flatMap Vq ++ sp))).toArray 59 (0, 0))] _ _ _; refine gH ?_; refine gg ?_; refine kU ?_; refine cD (fun h11 => ?_) fun h11 => ?_
  refine gr ?_
  obtain ⟨x, hx, hmx⟩ := QN (show j < xs.length by omega)
  rw [Jeg hx, List.append_assoc (Vq x)]; refine GN ?_; refine LR rfl (Kg (j := j) (m := 2) rfl rfl rfl rfl rfl m0 rfl) (LR rfl (Jq (n := 2) (vs := Vq x) rfl (kn 0 rfl) rfl rfl (by simp only [List.toList_toArray]; rw [← List.append_assoc, List.drop_left' (by rw [List.length_append, Qq Ki]; omega), List.take_left' (Ki x)]) rfl) (LN rfl fun r1 => Jv (k := 0) (n := 2) (ys := Vq x) rfl rfl rfl rfl rfl rfl rfl rfl rfl (kB ?_))); refine LR rfl (Ji (xs := Vq x) (n := 2) rfl (kn 0 rfl) rfl rfl rfl) (Jc rfl rfl rfl eg (hg x hmx) oR (kU ?_)); refine cD (fun h15 => ?_) fun h15 => ?_
  refine He ?_
  obtain ⟨M, G2, hcut, lM⟩ := cut (l := G ++ Vq x) (a := 2) (by rw [List.length_append, Ki]; omega)
  have lG2 : G2.length = G.length := by have := congrArg List.length hcut; simp only [List.length_append, Ki] at this; omega
  have hkeep := YF (pr := fun x => !pr x) hx
  rw [if_pos mA] at hkeep; refine GN ?_; refine LR rfl (Ji (xs := Vq x) (n := 2) rfl (kn 0 rfl) rfl rfl rfl) (LR rfl (Kg (j := ((xs.take j).filter fun x => !pr x).length) (m := 2) rfl rfl rfl rfl rfl m0 rfl) (Vr (k := 1) (n := 2) (vs := (Vq x).toArray) (cs' := (((xs.take j).filter fun x => !pr x).flatMap Vq ++ (Vq x ++ (G2 ++ ((xs.drop (j + 1)).flatMap Vq ++ sp)))).toArray) rfl rfl rfl rfl rfl rfl rfl (by simp only [List.size_toArray, List.length_append, Qq Ki]; omega) (by apply Array.toList_inj.1; simp only [List.toList_toArray, Nat.zero_add]; rw [show G ++ (Vq x ++ ((xs.drop (j + 1)).flatMap Vq ++ sp)) = M ++ (G2 ++ ((xs.drop (j + 1)).flatMap Vq ++ sp)) by rw [← List.append_assoc, hcut, List.append_assoc]]; exact XX (Qq Ki _) lM) rfl (kB ?_))); refine Jh m0 m0 (DC ?_); exact Jm (j + 1, G2) ⟨by simp only; omega, by simp only; rw [hkeep, List.length_append, List.length_singleton]; omega, by simp only; rw [hkeep, List.length_append, List.length_singleton]; omega⟩ ml (.cons rfl (.cons rfl (.cons (by simp only [V7]; rw [hkeep, List.length_append, List.length_singleton]; rfl) (.cons rfl .nil)))) (by simp only [hkeep, List.flatMap_append, List.flatMap_singleton, List.append_assoc]; exact List.sublist_cons_self _ _) (fun _ _ h => h)
  refine H8 ?_; refine Nn ?_
  (have hdel := YF (pr := fun x => !pr x) hx
   rw [if_neg mA, List.append_nil] at hdel
   exact Jm (j + 1, G ++ Vq x) ⟨by simp only; omega, by simp only; rw [hdel]; omega, by simp only [List.length_append, Ki]; rw [hdel]; omega⟩ ml (.cons rfl (.cons rfl (.cons (by simp only [V7]; rw [hdel]; try rfl) (.cons rfl .nil)))) (by simp only [hdel, List.append_assoc]; exact List.sublist_cons_self _ _) (fun _ _ h => h))
  ·refine NK ?_
   have hjn : j = xs.length := by omega
   have hdrop : (xs.drop j).flatMap Vq = [] := by rw [List.drop_of_length_le m0]; rfl
   rw [hdrop, List.nil_append]; refine GN ?_; refine LR rfl (JZ (sz := 2) (m := ((xs.take j).filter fun x => !pr x).length) (kl := some ((xs.take j).filter fun x => !pr x).length) (kh := none) (km := none) (q := xs.length) (z := cap) (off' := ((xs.take j).filter fun x => !pr x).length * 2) rfl rfl rfl ⟨_, rfl⟩ trivial trivial rfl rfl rfl m0 m0 m0 (fun _ => rfl) mz) (Jl1 (k := 0) (sz := 2) rfl rfl rfl rfl rfl rfl rfl m7 (by simp only [List.size_toArray, List.length_append, Qq Ki, List.length_drop]; omega) (XX (P := ((xs.take j).filter fun x => !pr x).flatMap Vq) (M := G) (S := sp) (Qq Ki _) m0) rfl (G1 ?_))
   refine LR rfl (JZ (sz := 2) (q := ((xs.take j).filter fun x => !pr x).length) (kl := none) (kh := some ((xs.take j).filter fun x => !pr x).length) (km := none) (m := 0) (z := cap) (off' := 0) rfl rfl rfl trivial ⟨_, rfl⟩ trivial rfl rfl rfl m0 m0 m0 (fun h => by cases h) My) (Ge ?_); refine ke fun w1 hs1 => ?_
   (have hfull : (xs.take j).filter (fun x => !pr x) = xs.filter fun x => !pr x := by rw [hjn, List.take_length]
    rw [hfull] at hs1 ⊢; refine ⟨⟨some (r, cap, _), Qq Ki _, ?_⟩, rfl, hs1.weakL (by simp only [JJ]; exact List.Sublist.refl _)⟩
    have hz : ∀ n, (Builtin.zeroCells (Value.agg #[Value.string ⟨#[]⟩, Value.string ⟨#[]⟩]).cells n).toList.length = n * 2 := fun n => by rw [Array.length_toList, size_zeroCells]; rfl
    rw [List.length_append, hz]
    have := List.length_filter_le (fun x => !pr x) xs
    omega)
theorem Jyh {a : AcL} (ha : a.In R) (k v : BS) : PureT (α := AcRes R (yO a.er k v)) Tryz.prog 25 [a.val, Jy k, Jy v].toArray (fun x => x.val) [] (fun x => x.L) R := by
  have hlk := Jif ha
  have hl := ha.len
  have hseg := ha.seg
  have hset : yO a.er k v = if Yh a.er ≠ 0 then (a.er, Yh a.er) else if k.length ≠ 32 ∨ v.length ≠ 32 then (a.er, 2) else if (Qy a.slots k v).length > 16 then (a.er, 5) else (⟨a.addr, a.nonce, a.bal, a.code, Qy a.slots k v⟩, 0) := rfl
  refine JE Tryz.func25 rfl rfl fun w => NA fun r1 r2 => ?_; refine LN rfl fun r3 => G1 ?_; refine gc ?_; refine Jc rfl rfl rfl Jy8 hlk oR (HN ?_); refine cD (fun g => ?_) fun g => ?_
  refine E6 ?_
  refine E8 ?_; refine NN fun w1 hs1 => ?_; rw [hset, if_pos m0]; exact ⟨⟨a, Yh a.er, [], ha, rfl⟩, rfl, hs1.weakL (List.nil_sublist _)⟩
  · refine gH ?_; refine LR rfl (Jd rfl (kn 1 rfl) rfl rfl) (Ey ?_)
    refine Jo 19 rfl (fun gb => ?_) (fun gb => ?_) <;> (try simp only [ZZ] at gb) <;> first | (refine Vb rfl ?_) | (refine LK rfl ?_)
    all_goals refine kP ?_
    all_goals (
     refine gi ?_; refine JI rfl (fun g => ?_) (fun g => ?_)
     try simp only [ZZ] at g
     refine kj ?_; refine gc ?_
     refine E8 ?_; refine NN fun w1 hs1 => ?_; rw [hset, if_neg m0, if_pos m0]; exact ⟨⟨a, 2, [], ha, rfl⟩, rfl, hs1.weakL (List.nil_sublist _)⟩
     · try exact Bool.noConfusion g
       all_goals try simp only [ZZ] at g
       all_goals (
        refine Da ?_
        have hok : KY Prod.fst a.slots ∧ a.slots.length ≤ 16 := ⟨(WB (a := a.er) m0).2.2.1, (WB (a := a.er) m0).2.2.2.2⟩
        have hinl : (QO Prod.fst (k, v) a.slots).length ≤ 17 := by
          have := hok.2
          rw [Ji6 hok.1]
          split <;> omega
        refine QZ 5 [2, 1] rfl rfl (LR rfl (J5 (r := [_, _]) rfl rfl) (Qu rfl rfl rfl (enters_of Tryz.func47 m5 rfl) (Jw0 (by have := hok.2; omega) hseg hok.1 (k, v)) oR fun x => ?_))
        obtain ⟨row, hrow⟩ := x
        refine Dt ?_; change HL _ _ ((30, J3 (QO Prod.fst (k, v) a.slots).length row) :: _) ((r3, _) :: (r2, _) :: (r1, _) :: JJ _ _ row) _ _ _ _; refine Gq ?_; refine J2 rfl rfl rfl Jza Jie (LR rfl (V5 rfl rfl) (HY ?_)); refine cD (fun g => ?_) fun g => ?_
        have hdC := Jtf (R := [(r2, Obj.cells #[Jy k] 9 (0, 0))]) (caps := [.pointer (some ⟨r2, 0, none⟩)]) (pr := fun x => decide (x.1 = k)) m0 hrow (enters_of Tryz.func50 m5 rfl) (fun x _ => Jz6 List.mem_cons_self x)
        rw [Jhi, show vj Prod.fst k a.slots = Qy a.slots k v from by unfold Qy; rw [if_pos m9]] at hdC; refine kj ?_; refine GP ?_; refine VA (T := JJ _ _ row) (L0 := [(r3, _), (r2, _), (r1, _)]) (Rl := [(r2, Obj.cells #[Jy k] 9 (0, 0))]) (List.perm_append_comm (l₁ := [_, _, _])) rfl rfl rfl (enters_of Tryz.func49 m5 rfl) hdC (fun q hq => Or.inl (by rw [List.mem_singleton.1 hq]; exact List.mem_cons_of_mem _ List.mem_cons_self)) fun x => ?_
        obtain ⟨row2, hrow2⟩ := x
        refine Dt ?_; change HL _ _ ((36, J3 (Qy a.slots k v).length row2) :: _) ((r3, _) :: (r2, _) :: (r1, _) :: JJ _ _ row2) _ _ _ _; refine JP 5 rfl ?_
        try rw [show QO Prod.fst (k, v) a.slots = Qy a.slots k v from by unfold Qy; rw [if_neg m9]] at hrow ⊢
        refine kj ?_; refine LR rfl (W7 rfl hrow2.zero rfl) (kU ?_); refine cD (fun g => ?_) fun g => ?_
        exact H3
        refine H8 ?_; refine Ky (k := 2) (cs' := #[Jy a.addr, uV a.nonce, uV a.bal.a, uV a.bal.b, uV a.bal.c, uV a.bal.d, Jy a.code, J3 (Qy a.slots k v).length row2]) rfl rfl rfl rfl rfl (ZN _ _) rfl rfl rfl rfl (GU ?_); refine gc ?_; refine Vr (k := 0) (n := 8) (cs' := #[Jy a.addr, uV a.nonce, uV a.bal.a, uV a.bal.b, uV a.bal.c, uV a.bal.d, Jy a.code, J3 (Qy a.slots k v).length row2]) (vs := #[_, _, _, _, _, _, _, _]) rfl rfl rfl rfl rfl rfl Ml mH rfl rfl (Ge ?_); refine NN fun w1 hs1 => ?_
        (rw [hset, if_neg m0, if_neg m0, if_neg m0]
         exact ⟨⟨⟨a.addr, a.nonce, a.bal, a.code, Qy a.slots k v, Qv row2⟩, 0, JJ 59 ((Qy a.slots k v).flatMap Vq) row2, yZ ha m0 m0 m0 (Ke hrow2 m7), rfl⟩, by show Ending.returned _ = Ending.returned (Value.tuple #[Value.agg #[Jy a.addr, uV a.nonce, uV a.bal.a, uV a.bal.b, uV a.bal.c, uV a.bal.d, Jy a.code, KE (Qy a.slots k v).length (Qv row2)], .int .i64 0]); rw [Vw _ _ hrow2.zero]; rfl, hs1.weakL (List.sublist_append_right [_, _, _] _)⟩)
        refine J9 4 rfl ?_
        try rw [show QO Prod.fst (k, v) a.slots = Qy a.slots k v from by unfold Qy; rw [if_neg m9]] at hrow ⊢
        refine kj ?_; refine LR rfl (W7 rfl hrow.zero rfl) (kU ?_); refine cD (fun g => ?_) fun g => ?_
        exact H3
        refine H8 ?_; refine Ky (k := 2) (cs' := #[Jy a.addr, uV a.nonce, uV a.bal.a, uV a.bal.b, uV a.bal.c, uV a.bal.d, Jy a.code, J3 (Qy a.slots k v).length row]) rfl rfl rfl rfl rfl (ZN _ _) rfl rfl rfl rfl (GU ?_); refine gc ?_; refine Vr (k := 0) (n := 8) (cs' := #[Jy a.addr, uV a.nonce, uV a.bal.a, uV a.bal.b, uV a.bal.c, uV a.bal.d, Jy a.code, J3 (Qy a.slots k v).length row]) (vs := #[_, _, _, _, _, _, _, _]) rfl rfl rfl rfl rfl rfl Ml mH rfl rfl (Ge ?_); refine NN fun w1 hs1 => ?_
        (rw [hset, if_neg m0, if_neg m0, if_neg m0]
         exact ⟨⟨⟨a.addr, a.nonce, a.bal, a.code, Qy a.slots k v, Qv row⟩, 0, JJ 59 ((Qy a.slots k v).flatMap Vq) row, yZ ha m0 m0 m0 (Ke hrow m7), rfl⟩, by show Ending.returned _ = Ending.returned (Value.tuple #[Value.agg #[Jy a.addr, uV a.nonce, uV a.bal.a, uV a.bal.b, uV a.bal.c, uV a.bal.d, Jy a.code, KE (Qy a.slots k v).length (Qv row)], .int .i64 0]); rw [Vw _ _ hrow.zero]; rfl, hs1.weakL (List.sublist_append_right [_, _, _] _)⟩)
        skip)
     skip)
theorem J12 {s : StL} {a : AcL} (hs : s.In R) (ha : a.In R) : PureT (α := StRes R (Juv s.er a.er)) Tryz.prog 23 [s.val, a.val].toArray (fun x => x.val) [] (fun x => x.L) R := by
 have hc := XJ hs
 have hlk := Jif ha
 have hl := hs.len
 have hseg := hs.seg
 have hput : Juv s.er a.er = if Qn s.er ≠ 0 then (s.er, Qn s.er) else if Yh a.er ≠ 0 then (s.er, Yh a.er) else if (QO AcE.addr a.er s.er).length > 32 then (s.er, 5) else (QO AcE.addr a.er s.er, 0) := rfl
 have hil : (QO AcE.addr a.er s.er).length = (QO AcL.addr a s.accts).length := by unfold StL.er; rw [← Jhj, List.length_map]
 rw [hil] at hput; refine JE Tryz.func23 rfl rfl fun w => NA fun r1 r2 => ?_; refine LN rfl fun r3 => G1 ?_; refine LR rfl (Jq (vs := [_]) rfl (kn 2 rfl) rfl rfl rfl rfl) (Jc rfl rfl rfl Jml hc oR (HN ?_)); refine cD (fun g => ?_) fun g => ?_
 refine E6 ?_
 refine E8 ?_; refine GD fun w1 hs1 => ?_; rw [hput, if_pos m0]; exact ⟨⟨s, Qn s.er, [], hs, rfl⟩, rfl, hs1.weakL (List.nil_sublist _)⟩
 ·refine gH ?_; refine LR rfl (Jq (vs := [_, _, _, _, _, _, _, _]) rfl (kn 1 rfl) rfl rfl rfl rfl) (Jc rfl rfl rfl Jy8 hlk oR (HN ?_)); refine cD (fun g => ?_) fun g => ?_
  refine E6 ?_
  refine E8 ?_; refine GD fun w1 hs1 => ?_; rw [hput, if_neg m0, if_pos m0]; exact ⟨⟨s, Yh a.er, [], hs, rfl⟩, rfl, hs1.weakL (List.nil_sublist _)⟩
  ·refine Da ?_
   have hok : s.accts.length ≤ 32 ∧ KY AcL.addr s.accts := by
    have h := yP.1 (show Qn s.er = 0 by omega)
    rw [s.er_len] at h; exact ⟨h.1, (Jma s).2 h.2.2⟩
   refine QZ 4 [2, 1] rfl rfl (Qu rfl rfl rfl (enters_of Tryz.func46 m5 rfl) (Jwz m0 hseg hok.2 a) oR fun x => ?_)
   obtain ⟨row, hrow⟩ := x
   refine Dt ?_; change HL _ _ ((24, J3 (QO AcL.addr a s.accts).length row) :: _) ((r3, _) :: (r2, _) :: (r1, _) :: JJ _ _ row) _ _ _ _; refine Gq ?_; refine LR rfl (W7 rfl hrow.zero rfl) (kU ?_); refine cD (fun g => ?_) fun g => ?_
   refine kj ?_; refine LR rfl (Jq (vs := [_]) rfl (kn 2 rfl) rfl rfl rfl rfl) ?_
   refine E8 ?_; refine GD fun w1 hs1 => ?_; rw [hput, if_neg m0, if_neg m0, if_pos m0]; exact ⟨⟨s, 5, [], hs, rfl⟩, rfl, hs1.weakL (List.nil_sublist _)⟩
   ·refine gH ?_
    refine LR rfl (J5 (r := [J3 _ row]) rfl (by cases row <;> rfl)) ?_; refine Vr (k := 0) (n := 1) (cs' := #[J3 (QO AcL.addr a s.accts).length row]) (vs := #[_]) rfl rfl rfl rfl rfl rfl Ml mH rfl rfl ?_; refine Ge ?_; refine GD fun w1 hs1 => ?_
    (rw [hput, if_neg m0, if_neg m0, if_neg m0]
     exact ⟨⟨⟨QO AcL.addr a s.accts, Qv row⟩, 0, JJ 34 ((QO AcL.addr a s.accts).flatMap AcL.cells) row, ⟨by show (QO AcL.addr a s.accts).length ≤ 9223372036854775807; omega, (Ke hrow m7).mono fun q hq => List.mem_append_left _ hq, fun x hx => ((wJ hx).elim (fun e => by rw [e]; exact ha) (hs.accts x)).mono fun q hq => List.mem_append_right _ hq⟩, by unfold StL.er; rw [Jhj]⟩, by show Ending.returned _ = Ending.returned (Value.tuple #[Value.agg #[KE (QO AcL.addr a s.accts).length (Qv row)], .int .i64 0]); rw [Vw _ _ hrow.zero]; rfl, hs1.weakL (List.sublist_append_right [_, _, _] _)⟩)
theorem Jtg  {ys : List (BS × BS)} {p q : Pl} (hl : xs.length ≤ 9223372036854775807) (hl2 : ys.length ≤ 9223372036854775807) (hs : Seg R xs.length (xs.flatMap Vq) p) (hs' : Seg R ys.length (ys.flatMap Vq) q) :
  PureR Tryz.prog 44 [KE xs.length p, KE ys.length q].toArray (.bool (decide (xs = ys))) R := by
 refine Ja Tryz.func44 rfl rfl fun w => Di ?_; refine cD (fun g => ?_) fun g => ?_
 refine gZ fun w1 hs1 => ?_; rw [decide_eq_false (show ¬ xs = ys from fun e => by have := congrArg List.length e; omega)]; rfl
 ·refine H8 ?_; refine HU ?_
  have hll : xs.length = ys.length := by omega
  refine Js (σ := Nat) (fun i => i ≤ xs.length ∧ ∀ j, j < i → xs[j]? = ys[j]?) (fun i => [(0, KE xs.length p), (1, KE ys.length q), (12, .int .i64 (xs.length : Int)), (13, .int .i64 (i : Int))]) (fun _ => []) (fun _ _ _ => True) (fun i => xs.length - i) 0 ⟨by omega, fun j hj => absurd hj m0⟩ (lK rfl) (List.nil_sublist _) (fun _ _ h => h) ?_; rintro i ⟨hi1, hinv⟩; refine NK ?_; refine cD (fun g => ?_) fun g => ?_
  refine J9 11 rfl ?_
  obtain ⟨x, hx, hmx⟩ := QN nD
  obtain ⟨y, hy, hmy⟩ := QN (show i < ys.length by omega)
  refine JR 9 m5 m5 (kp ?_)
  refine gW ?_; refine Jb rfl rfl rfl (KU Ki oR rfl hs hx rfl rfl) (kp ?_)
  refine Jb rfl rfl rfl (Jf (j := i) rfl hs' rfl rfl rfl me m0) (Jb rfl rfl rfl (KU Ki oR rfl hs' hy rfl rfl) (GS ?_)); refine cD (fun g => ?_) fun g => ?_
  refine kT fun w1 hs1 => ?_; rw [decide_eq_false (Jpp hx hy mA)]; rfl
  refine GX ?_
  exact Jm (i + 1) ⟨by omega, fun j hj => by
   rcases Nat.lt_succ_iff_lt_or_eq.1 hj with hj | rfl
   exact hinv j hj
   rw [hx, hy]; simp_all⟩ m0 (lK rfl) (List.nil_sublist _) (fun _ _ h => h)
  ·refine kT fun w1 hs1 => ?_; rw [decide_eq_true (Jpo hll m0 hinv)]; rfl
theorem Jw5 (a b : AcL) : a.er = b.er ↔ a.addr = b.addr ∧ a.nonce = b.nonce ∧ a.bal = b.bal ∧ a.code = b.code ∧ a.slots = b.slots := by
 unfold AcL.er
 simp
theorem Jw6 {a b : AcL} (ha : a.In R) (hb : b.In R) : PureR Tryz.prog 43 [vA a, vA b].toArray (.bool (decide (a.er = b.er))) R := by
 have heq := Jtg ha.len hb.len ha.seg hb.seg
 have hE : decide (a.er = b.er) = (decide (a.addr = b.addr) && (decide (a.nonce = b.nonce) && (decide (a.bal = b.bal) && (decide (a.code = b.code) && decide (a.slots = b.slots))))) := by
  rw [Bool.eq_iff_iff]; simp only [decide_eq_true_eq, Bool.and_eq_true]; exact Jw5 a b
 rw [hE]; refine Ja Tryz.func43 rfl rfl fun w => NA fun r1 r2 => ?_; refine XO 9 [1, 0] rfl rfl (LR rfl (V5 rfl rfl) (DL ?_))
 refine Jo 10 rfl (fun gb => ?_) (fun gb => ?_) <;> (try simp only [ZZ] at gb) <;> first | (refine LR rfl (Jw rfl rfl rfl) ?_) | (refine LK rfl ?_)
 all_goals refine G7 ?_
 all_goals refine LW 2 [0] rfl rfl ?_
 all_goals first | (refine Jj (congrArg Value.bool (eqU a.nonce b.nonce)) ?_) | skip
 all_goals refine GL ?_
 all_goals first | refine LK rfl ?_ | (refine Jo 17 rfl (fun gb => ?_) (fun gb => ?_) <;> (try simp only [ZZ] at gb) <;> first | (refine LR rfl (Jw rfl rfl rfl) ?_) | (refine LK rfl ?_))
 all_goals refine G7 ?_
 all_goals refine gC ?_
 all_goals first | (refine LR rfl (jr rfl rfl rfl rfl rfl m5 rfl rfl rfl rfl) ?_) | refine LK rfl ?_
 all_goals first | (refine Jj (congrArg Value.bool (eqW a.bal b.bal)) ?_) | skip
 all_goals refine GL ?_
 all_goals first | refine LK rfl ?_ | (refine Jo 24 rfl (fun gb => ?_) (fun gb => ?_) <;> (try simp only [ZZ] at gb) <;> first | (refine LR rfl (Jw rfl rfl rfl) ?_) | (refine LK rfl ?_))
 all_goals refine G7 ?_
 all_goals refine gC ?_
 all_goals first | refine LR rfl (V5 rfl rfl) ?_ | refine LK rfl ?_
 all_goals refine GL ?_
 all_goals first | refine LK rfl ?_ | (refine Jo 31 rfl (fun gb => ?_) (fun gb => ?_) <;> (try simp only [ZZ] at gb) <;> first | (refine LR rfl (Jw rfl rfl rfl) ?_) | (refine LK rfl ?_))
 all_goals refine G7 ?_
 all_goals refine gC ?_
 all_goals first | (refine Jc rfl rfl rfl (enters_of Tryz.func44 m5 rfl) heq oR ?_) | refine LK rfl ?_
 all_goals (
  refine kv fun w1 hs1 => ?_
  simp_all [J6]
  skip)
theorem vJ {s t : StL} : s.er = t.er ↔ s.accts.length = t.accts.length ∧ ∀ (i : Nat) a b, s.accts[i]? = some a → t.accts[i]? = some b → a.er = b.er := by
 constructor
 ·intro h
  refine ⟨by have := congrArg List.length h; rwa [s.er_len, t.er_len] at this, fun i a b ha hb => ?_⟩
  have h1 := Y3 ha
  have h2 := Y3 hb
  rw [h, h2] at h1; exact (Option.some.inj h1).symm
 ·rintro ⟨h1, h2⟩
  apply List.ext_getElem?
  intro i
  by_cases hi : i < s.accts.length
  ·obtain ⟨a, ha, _⟩ := QN hi
   obtain ⟨b, hb, _⟩ := QN (show i < t.accts.length by omega)
   rw [Y3 ha, Y3 hb, h2 i a b ha hb]
  ·rw [List.getElem?_eq_none N3, List.getElem?_eq_none (by rw [t.er_len]; omega)]
theorem Jth {s t : StL} (hs : s.In R) (ht : t.In R) :
  PureR Tryz.prog 45 [KE s.accts.length s.p, KE t.accts.length t.p, fV 43].toArray (.bool (decide (s.er = t.er))) R := by
 have hl : s.accts.length ≤ 9223372036854775807 := hs.len
 have hl2 : t.accts.length ≤ 9223372036854775807 := ht.len
 have h1 := hs.seg
 have h2 := ht.seg
 refine Ja Tryz.func45 rfl rfl fun w => G0 ?_; refine LR rfl (Jl rfl h1 rfl) (Vb rfl (LR rfl (Jl rfl h2 rfl) (JP 3 rfl ?_))); refine cD (fun g => ?_) fun g => ?_
 refine gZ fun w1 hs1 => ?_; rw [decide_eq_false (show ¬ s.er = t.er from fun e => by have := (vJ.1 e).1; omega)]; rfl
 ·refine H8 ?_; refine LR rfl (Jl rfl h1 rfl) (G5 ?_)
  have hll : s.accts.length = t.accts.length := by omega
  refine Js (σ := Nat) (fun i => i ≤ s.accts.length ∧ ∀ q, q < i → ∀ a b, s.accts[q]? = some a → t.accts[q]? = some b → a.er = b.er) (fun i => [(1, KE t.accts.length t.p), (2, fV 43), (15, KE s.accts.length s.p), (16, .int .i64 (s.accts.length : Int)), (17, .int .i64 (i : Int))]) (fun _ => []) (fun _ _ _ => True) (fun i => s.accts.length - i) 0 ⟨by omega, fun j hj => absurd hj m0⟩ (lK rfl) (List.nil_sublist _) (fun _ _ h => h) ?_; rintro i ⟨hi1, hinv⟩; refine NK ?_; refine cD (fun g => ?_) fun g => ?_
  refine gr ?_
  obtain ⟨x, hx, hmx⟩ := QN MC
  obtain ⟨y, hy, hmy⟩ := QN (show i < t.accts.length by omega)
  refine kj ?_
  refine LR rfl (Jf (j := i) rfl h1 rfl rfl rfl me m0) (LR rfl (KU AcL.len oR rfl h1 hx rfl rfl) (LN rfl fun r1 => Vb rfl (Jv (k := 0) (n := 8) (ys := x.cells) rfl rfl rfl rfl rfl x.len rfl x.one rfl (JK 6 rfl ?_))))
  refine LR rfl (Jf (j := i) rfl h2 rfl rfl rfl me m0) (LR rfl (KU AcL.len oR rfl h2 hy rfl rfl) (LN rfl fun r2 => Jv (k := 0) (n := 8) (ys := y.cells) rfl rfl rfl rfl rfl y.len rfl y.one rfl (kB ?_))); refine LR rfl (Ji (xs := x.cells) (n := 8) rfl (kn 1 rfl) rfl rfl x.len) (LR rfl (Ji (xs := y.cells) (n := 8) rfl (kn 0 rfl) rfl rfl y.len) (Jc rfl rfl rfl (enters_of Tryz.func43 m5 rfl) (Jw6 (hs.accts x hmx) (ht.accts y hmy)) oR (kU ?_))); refine cD (fun g => ?_) fun g => ?_
  refine kT fun w1 hs1 => ?_; rw [decide_eq_false (show ¬ s.er = t.er from fun e => by have := (vJ.1 e).2 i x y hx hy; simp_all)]; rfl
  refine GX ?_
  exact Jm (i + 1) ⟨by omega, fun q hq u v hu hv => by
   rcases Nat.lt_succ_iff_lt_or_eq.1 hq with hq | rfl
   exact hinv q hq u v hu hv
   rw [hx] at hu; rw [hy] at hv; cases hu; cases hv; simp_all⟩ m0 (lK rfl) (List.nil_sublist _) (fun _ _ h => h)
  ·refine kT fun w1 hs1 => ?_; rw [decide_eq_true (vJ.2 ⟨hll, fun q a b ha hb => hinv q (by have := (List.getElem?_eq_some_iff.1 ha).1; omega) a b ha hb⟩)]; rfl
theorem Jti {s t : StL} (hs : s.In R) (ht : t.In R) : PureR Tryz.prog 21 [s.val, t.val].toArray (.bool (decide (s.er = t.er))) R := by
 have h := Jth hs ht
 refine Ja Tryz.func21 rfl rfl fun w => NA fun r1 r2 => ?_; refine XO 15 [1, 0] rfl rfl (Jc rfl rfl rfl (enters_of Tryz.func45 m5 rfl) h oR ?_); exact NS
def YW (a : AcE) : Bool := !((decide (100 < a.addr.length) || (decide (60 < a.code.length) && decide (a.code.length ≤ 512))) || decide (20 < a.slots.length)) && a.slots.all fun x => !(decide (100 < x.1.length) || decide (100 < x.2.length))
def jD : Nat → Int → List AcE → Bool × Int
 | _, n, [] => (true, n)
 | i, n, a :: l => if 40 < i then (true, n) else if YW a = false then (false, n) else jD (i + 1) (n + (a.slots.length : Int)) l
def zY (s : List AcE) : Bool := (jD 0 0 s).1 && (decide (s.length ≤ 40) && decide ((jD 0 0 s).2 ≤ 40))
theorem Jw7 {a : AcE} {x : BS × BS} (hx : a.slots[i]? = some x) (h : x.1.length > 100 ∨ x.2.length > 100) : YW a = false := by
 unfold YW
 have : (a.slots.all fun x => !(decide (100 < x.1.length) || decide (100 < x.2.length))) = false := by
  rw [List.all_eq_false]
  exact ⟨x, List.mem_of_getElem? hx, by rcases h with h | h <;> simp [h]⟩
 rw [this, Bool.and_false]
theorem Jw8 {a : AcE} (h : YW a = true) : a.slots.length ≤ 20 := by
 unfold YW at h
 simp only [Bool.and_eq_true, Bool.not_eq_true', Bool.or_eq_false_iff, decide_eq_false_iff_not] at h; omega
theorem Jtj {n : Int} {s : List AcE} {a : AcE} (h : s[i]? = some a) (hi : i ≤ 40) (hf : YW a = true) : jD i n (s.drop i) = jD (i + 1) (n + (a.slots.length : Int)) (s.drop (i + 1)) := by
 obtain ⟨hlt, e⟩ := List.getElem?_eq_some_iff.1 h
 rw [List.drop_eq_getElem_cons hlt, e]
 unfold jD
 rw [if_neg m0, if_neg (by rw [hf]; simp)]
 cases s.drop (i + 1) <;> rfl
theorem Jtk {n : Int} {s : List AcE} (h : 40 < i ∨ s.length ≤ i) : jD i n (s.drop i) = (true, n) := by
 rcases h with h | h
 ·cases s.drop i with
  | nil => rfl
  | cons a l => unfold jD; rw [if_pos h]
 ·rw [List.drop_of_length_le h]; rfl
theorem Jtl {n : Int} {s : List AcE} {a : AcE} (h : s[i]? = some a) (hi : i ≤ 40) (hf : YW a = false) : (jD i n (s.drop i)).1 = false := by
 obtain ⟨hlt, e⟩ := List.getElem?_eq_some_iff.1 h
 rw [List.drop_eq_getElem_cons hlt, e]
 unfold jD
 rw [if_neg m0, if_pos hf]
theorem Jnl {a : AcL} (ha : a.In R) : PureR Tryz.prog 22 [a.val].toArray (.bool (YW a.er)) R := by
  have hl := ha.len
  have hseg := ha.seg
  obtain ⟨res, hres⟩ : ∃ b, b = YW a.er := ⟨_, rfl⟩
  rw [← hres]
  have h1 : (100 < (a.addr.length : Int) ∨ (60 < (a.code.length : Int) ∧ (a.code.length : Int) ≤ 512) ∨ 20 < (a.slots.length : Int)) → res = false := fun h => by
    rw [hres]; unfold YW
    have : ((decide (100 < a.addr.length) || (decide (60 < a.code.length) && decide (a.code.length ≤ 512))) || decide (20 < a.slots.length)) = true := by
      simp only [Bool.or_eq_true, Bool.and_eq_true, decide_eq_true_eq]; omega
    show (!((decide (100 < a.addr.length) || (decide (60 < a.code.length) && decide (a.code.length ≤ 512))) || decide (20 < a.slots.length)) && _) = false
    rw [this]; rfl
  have h2 : ¬ (100 < (a.addr.length : Int) ∨ (60 < (a.code.length : Int) ∧ (a.code.length : Int) ≤ 512) ∨ 20 < (a.slots.length : Int)) → (∀ (j : Nat) (x : BS × BS), a.slots[j]? = some x → x.1.length ≤ 100 ∧ x.2.length ≤ 100) → res = true := fun h h' => by
    rw [hres]; unfold YW
    have e : ((decide (100 < a.addr.length) || (decide (60 < a.code.length) && decide (a.code.length ≤ 512))) || decide (20 < a.slots.length)) = false := by
      simp only [Bool.or_eq_false_iff, Bool.and_eq_false_iff, decide_eq_false_iff_not]; omega
    show (!((decide (100 < a.addr.length) || (decide (60 < a.code.length) && decide (a.code.length ≤ 512))) || decide (20 < a.slots.length)) && _) = true
    rw [e]; simp only [Bool.not_false, Bool.true_and, List.all_eq_true]; intro x hx
    obtain ⟨j, hj⟩ := List.getElem?_of_mem hx
    obtain ⟨g1, g2⟩ := h' j x hj
    simp; omega
  refine Ja Tryz.func22 rfl rfl fun w => JN (kj ?_); refine Qp (cs := a.cells.toArray) rfl rfl rfl rfl fun r1 => XO 8 [0] rfl rfl (Ey ?_)
  refine Jo 8 rfl (fun gb => ?_) (fun gb => ?_) <;> (try simp only [ZZ] at gb) <;> first | (refine LR rfl (Jw rfl rfl rfl) ?_) | (refine LK rfl ?_)
  all_goals refine gC ?_
  all_goals refine kP ?_
  all_goals refine GL ?_
  all_goals first | refine LK rfl ?_ | (refine Jo 13 rfl (fun gb => ?_) (fun gb => ?_) <;> (try simp only [ZZ] at gb) <;> first | (refine LR rfl (Jw rfl rfl rfl) ?_) | (refine LK rfl ?_))
  all_goals refine gC ?_
  all_goals refine kP ?_
  all_goals refine LW 4 [] rfl rfl ?_
  all_goals first | refine LR rfl (Jw rfl rfl rfl) ?_ | refine LK rfl ?_ | (refine Jo 20 rfl (fun gb => ?_) (fun gb => ?_) <;> (try simp only [ZZ] at gb) <;> first | (refine LR rfl (Jw rfl rfl rfl) ?_) | (refine LK rfl ?_))
  all_goals refine G9 ?_
  all_goals (
   refine gi ?_; refine JI rfl (fun g => ?_) (fun g => ?_)
   try simp only [ZZ] at g
   refine KQ 7 rfl (ke fun w1 hs1 => ?_); rw [h1 m0]; exact Ns
   · try exact Bool.noConfusion g
     all_goals try simp only [ZZ] at g
     all_goals (
      refine J9 9 rfl ?_
      have h0 : ¬ (100 < (a.addr.length : Int) ∨ (60 < (a.code.length : Int) ∧ (a.code.length : Int) ≤ 512) ∨ 20 < (a.slots.length : Int)) := by
        simp_all
        all_goals first | done | omega | trace_state
      refine Js (σ := Nat) (fun i => i ≤ a.slots.length ∧ ∀ (j : Nat) (x : BS × BS), j < i → a.slots[j]? = some x → x.1.length ≤ 100 ∧ x.2.length ≤ 100) (fun i => [(1, .pointer (some ⟨r1, 0, none⟩)), (3, .int .i64 (i : Int))]) (fun _ => [(r1, .cells a.cells.toArray 34 (0, 0))]) (fun _ _ _ => True) (fun i => a.slots.length - i) 0 ⟨Nat.zero_le _, fun _ _ h => absurd h (Nat.not_lt_zero _)⟩ (lK rfl) (List.Sublist.refl _) (fun _ _ h => h) ?_; rintro i ⟨hi1, hinv⟩; refine E7 ?_; refine GV ?_; refine kU ?_; refine cD (fun g => ?_) fun g => ?_
      · refine gr ?_
        obtain ⟨x, hx, hmx⟩ := QN N0
        have hxl := ha.slots x hmx
        refine Gt ?_
        refine Jo 41 rfl (fun gb => ?_) (fun gb => ?_) <;> (try simp only [ZZ] at gb) <;> first | (refine LR rfl (Jw rfl rfl rfl) ?_) | (refine LK rfl ?_)
        all_goals refine gy ?_
        all_goals (
         refine gi ?_; refine JI rfl (fun g => ?_) (fun g => ?_)
         try simp only [ZZ] at g
         refine KQ 11 rfl (ke fun w1 hs1 => ?_); rw [hres, Jw7 hx m0]; exact Ns
         · try exact Bool.noConfusion g
           all_goals try simp only [ZZ] at g
           all_goals (
            refine H8 ?_; refine Nn ?_
            exact Jm (i + 1) ⟨by omega, fun j y hj hy => by
              rcases Nat.lt_succ_iff_lt_or_eq.1 hj with h | rfl
              exact hinv j y h hy
              · obtain rfl := Option.some.inj (hx.symm.trans hy); simp_all; all_goals first | done | omega | trace_state⟩ m0 (lK rfl) (List.Sublist.refl _) (fun _ _ h => h)
            skip)
         skip)
      refine KQ 11 rfl (ke fun w1 hs1 => ?_); rw [h2 h0 (fun j y hy => hinv j y (by have := (List.getElem?_eq_some_iff.1 hy).1; omega) hy)]; exact Ns
      skip)
   skip)
theorem Jw9 {s : StL} (hs : s.In R) : PureR Tryz.prog 12 [s.val].toArray (.bool (zY s.er)) R := by
  have hl := hs.len
  have hseg := hs.seg
  obtain ⟨⟨rb, rn⟩, hres⟩ : ∃ b, b = jD 0 0 s.er := ⟨_, rfl⟩
  have hfs : zY s.er = (rb && (decide (s.accts.length ≤ 40) && decide (rn ≤ 40))) := by unfold zY; rw [← hres, s.er_len]
  rw [hfs]; refine Ja Tryz.func12 rfl rfl fun w => JN (kj ?_); refine Qp (cs := s.cells.toArray) rfl rfl rfl rfl fun r1 => JP 15 rfl (Js (σ := Nat × Int) (fun q => q.1 ≤ s.accts.length ∧ 0 ≤ q.2 ∧ q.2 ≤ 20 * q.1 ∧ q.1 ≤ 41 ∧ jD q.1 q.2 (s.er.drop q.1) = (rb, rn)) (fun q => [(1, .pointer (some ⟨r1, 0, none⟩)), (3, .int .i64 q.2), (4, .int .i64 (q.1 : Int))]) (fun _ => [(r1, .cells s.cells.toArray 24 (0, 0))]) (fun _ _ _ => True) (fun q => s.accts.length - q.1) (0, 0) ⟨Nat.zero_le _, by omega, by omega, by omega, hres.symm⟩ (lK rfl) (List.Sublist.refl _) (fun _ _ h => h) ?_); rintro ⟨i, n⟩ ⟨hi1, hn0, hn1, hi41, hinv⟩; simp only at hi1 hn0 hn1 hi41 hinv; change HC _ _ [(1, _), (3, .int .i64 n), (4, .int .i64 (i : Int))] _ _ _ _; refine E7 ?_; refine GV ?_; refine NZ ?_
  refine Jo 11 rfl (fun gb => ?_) (fun gb => ?_) <;> (try simp only [ZZ] at gb) <;> first | (refine Vb rfl ?_) | (refine LK rfl ?_)
  all_goals (
   refine gi ?_; refine JI rfl (fun g => ?_) (fun g => ?_)
   · try exact Bool.noConfusion g
     all_goals try simp only [ZZ] at g
     all_goals (
      refine gr ?_
      obtain ⟨a, ha, hma⟩ := QN MC
      have ha2 := hs.accts a hma
      have hi40 : i ≤ 40 := by simp_all <;> omega
      refine gu ?_
      refine kV ?_; refine Jc rfl rfl rfl (enters_of Tryz.func22 m5 rfl) (Jnl ha2) oR (DE ?_); refine cD (fun g => ?_) fun g => ?_
      refine KQ 12 rfl (ke fun w1 hs1 => ?_)
      (have hff : YW a.er = false := by simp_all
       have h1 := Jtl (n := n) (Y3 ha) hi40 hff
       rw [hinv] at h1
       rw [show rb = false from h1]; exact ⟨rfl, hs1.keep⟩)
      refine J9 2 rfl ?_
      have hft : YW a.er = true := by simp_all
      have h20 := Jw8 hft
      have h20 : a.slots.length ≤ 20 := h20
      rw [Jtj (Y3 ha) hi40 hft] at hinv; refine QZ 5 [0] rfl rfl ?_
      refine LR rfl (Jf (j := i) rfl hseg rfl rfl rfl me m0) (LR rfl (JW (off' := YC s.p + (i * 8 + 7)) rfl rfl (by show YC s.p + i * 8 + 7 = _; omega)) (LR rfl (VB AcL.len (k := 7) (v := KE a.slots.length a.p) oR rfl hseg ha rfl rfl) (LR rfl (Jl rfl ha2.seg rfl) (Vf rfl (Jh m0 m0 (JK 7 rfl ?_)))))); refine Nn ?_; exact Jm (i + 1, n + (a.slots.length : Int)) ⟨by simp only; omega, by simp only; omega, by simp only; omega, by simp only; omega, hinv⟩ ml (lK rfl) (List.Sublist.refl _) (fun _ _ h => h)
      skip)
   · try simp only [ZZ] at g
     refine QZ 9 [0] rfl rfl (GV ?_); refine NZ ?_
     refine Jo 38 rfl (fun gb => ?_) (fun gb => ?_) <;> (try simp only [ZZ] at gb) <;> first | (refine Vb rfl ?_) | (refine LK rfl ?_)
     all_goals (
      refine gM ?_; refine ke fun w1 hs1 => ?_
      first
        | (have hff : YW a.er = false := by simp_all
           have h1 := Jtl (n := n) (Y3 ha) hi40 hff
           rw [hinv] at h1
           rw [show rb = false from h1]; exact ⟨rfl, hs1.keep⟩)
        | (rw [Jtk N3] at hinv
           obtain ⟨rfl, rfl⟩ := Prod.mk.inj hinv
           refine ⟨?_, hs1.keep⟩
           simp [J6]
           all_goals first | done | omega | trace_state)
        | trace_state
      skip)
   skip)
theorem zZ (a b : AcL) : a.er = b.er ↔ a.addr = b.addr ∧ a.nonce = b.nonce ∧ a.bal = b.bal ∧ a.code = b.code ∧ a.slots = b.slots := by
 unfold AcL.er
 simp
theorem qP {a b : AcL} (h : ¬ a.addr = b.addr ∨ ¬ a.nonce = b.nonce ∨ ¬ a.bal = b.bal ∨ ¬ a.code = b.code ∨ ¬ a.slots.length = b.slots.length) : ¬ a.er = b.er := fun e => by
 obtain ⟨h1, h2, h3, h4, h5⟩ := (zZ a b).1 e
 rcases h with h | h | h | h | h
 ·exact h h1
 ·exact h h2
 ·exact h h3
 ·exact h h4
 ·exact h (by rw [h5])
theorem xf {a b : AcL} (ha : a.In R) (hb : b.In R) : PureR Tryz.prog 16 [a.val, b.val].toArray (.bool (decide (a.er = b.er))) R := by
  have hl : a.slots.length ≤ 9223372036854775807 := ha.len
  have hl2 : b.slots.length ≤ 9223372036854775807 := hb.len
  have h1 := ha.seg
  have h2 := hb.seg
  refine Ja Tryz.func16 rfl rfl fun w => JN (kj ?_); refine Qp (cs := a.cells.toArray) rfl rfl rfl rfl fun ra => Qp (cs := b.cells.toArray) rfl rfl rfl rfl fun rb => XO 10 [1, 0] rfl rfl (LR rfl (jp rfl rfl) (DL ?_))
  refine Jo 11 rfl (fun gb => ?_) (fun gb => ?_) <;> (try simp only [ZZ] at gb) <;> first | (refine LR rfl (Jw rfl rfl rfl) ?_) | (refine LK rfl ?_)
  all_goals refine G7 ?_
  all_goals refine LW 2 [0] rfl rfl ?_
  all_goals first | (refine Jj (congrArg (fun b => Value.bool (!b)) (eqU a.nonce b.nonce)) ?_) | skip
  all_goals refine GL ?_
  all_goals first | refine LK rfl ?_ | (refine Jo 18 rfl (fun gb => ?_) (fun gb => ?_) <;> (try simp only [ZZ] at gb) <;> first | (refine LR rfl (Jw rfl rfl rfl) ?_) | (refine LK rfl ?_))
  all_goals refine G7 ?_
  all_goals refine gC ?_
  all_goals first | (refine LR rfl (Jip rfl rfl rfl rfl rfl m5 rfl rfl rfl rfl) ?_) | refine LK rfl ?_
  all_goals first | (refine Jj (congrArg (fun b => Value.bool (!b)) (eqW a.bal b.bal)) ?_) | skip
  all_goals refine GL ?_
  all_goals first | refine LK rfl ?_ | (refine Jo 25 rfl (fun gb => ?_) (fun gb => ?_) <;> (try simp only [ZZ] at gb) <;> first | (refine LR rfl (Jw rfl rfl rfl) ?_) | (refine LK rfl ?_))
  all_goals refine G7 ?_
  all_goals refine gC ?_
  all_goals first | refine LR rfl (jp rfl rfl) ?_ | refine LK rfl ?_
  all_goals refine GL ?_
  all_goals first | refine LK rfl ?_ | (refine Jo 32 rfl (fun gb => ?_) (fun gb => ?_) <;> (try simp only [ZZ] at gb) <;> first | (refine LR rfl (Jw rfl rfl rfl) ?_) | (refine LK rfl ?_))
  all_goals refine LW 1 [1] rfl rfl ?_
  all_goals first | refine LR rfl (Jl rfl h1 rfl) ?_ | refine LK rfl ?_
  all_goals refine Nx ?_
  all_goals refine gC ?_
  all_goals first | refine LR rfl (Jl rfl h2 rfl) ?_ | refine LK rfl ?_
  all_goals (
   refine gi ?_; refine JI rfl (fun g => ?_) (fun g => ?_)
   try simp only [ZZ] at g
   refine gZ fun w1 hs1 => ?_
   first | (rw [decide_eq_false (qP (.inl m9))]; rfl) | (rw [decide_eq_false (qP (.inr (.inl m9)))]; rfl) | (rw [decide_eq_false (qP (.inr (.inr (.inl m9))))]; rfl) | (rw [decide_eq_false (qP (.inr (.inr (.inr (.inl m9)))))]; rfl) | (rw [decide_eq_false (qP (.inr (.inr (.inr (.inr m0)))))]; rfl)
   · try exact Bool.noConfusion g
     all_goals try simp only [ZZ] at g
     all_goals (
      refine J9 9 rfl ?_
      have hll : a.slots.length = b.slots.length := by omega
      have hflat : a.addr = b.addr ∧ a.nonce = b.nonce ∧ a.bal = b.bal ∧ a.code = b.code := by simp_all
      refine Js (σ := Nat) (fun i => i ≤ a.slots.length ∧ ∀ j, j < i → a.slots[j]? = b.slots[j]?) (fun i => [(2, Value.pointer (some ⟨ra, 0, none⟩)), (3, Value.pointer (some ⟨rb, 0, none⟩)), (5, .int .i64 (i : Int))]) (fun _ => [(rb, .cells b.cells.toArray 34 (0, 0)), (ra, .cells a.cells.toArray 34 (0, 0))]) (fun _ _ _ => True) (fun i => a.slots.length - i) 0 ⟨by omega, fun j hj => absurd hj m0⟩ (lK rfl) (List.Sublist.refl _) (fun _ _ h => h) ?_; rintro i ⟨hi1, hinv⟩; refine QZ 6 [1] rfl rfl (LR rfl (Jl rfl h1 rfl) (kU ?_)); refine cD (fun g => ?_) fun g => ?_
      refine gr ?_
      obtain ⟨x, hx, hmx⟩ := QN N0
      obtain ⟨y, hy, hmy⟩ := QN (show i < b.slots.length by omega)
      refine JR 11 m5 m5 ?_
      refine Hq ?_; refine Nm ?_
      refine Jb rfl rfl rfl (Jf (j := i) rfl h1 rfl rfl rfl me m0) (Jb rfl rfl rfl (KU Ki oR rfl h1 hx rfl rfl) ?_)
      refine kE ?_; refine Nm ?_
      refine Jb rfl rfl rfl (Jf (j := i) rfl h2 rfl rfl rfl me m0) (Jb rfl rfl rfl (KU Ki oR rfl h2 hy rfl rfl) (GS ?_)); refine cD (fun g => ?_) fun g => ?_
      refine kT fun w1 hs1 => ?_; rw [decide_eq_false (show ¬ a.er = b.er from fun e => Jpp hx hy mA ((zZ a b).1 e).2.2.2.2)]; rfl
      refine H8 ?_; refine Nn ?_
      exact Jm (i + 1) ⟨by omega, fun j hj => by
        rcases Nat.lt_succ_iff_lt_or_eq.1 hj with hj | rfl
        exact hinv j hj
        rw [hx, hy]; simp_all⟩ m0 (lK rfl) (List.Sublist.refl _) (fun _ _ h => h)
      refine kT fun w1 hs1 => ?_; rw [decide_eq_true ((zZ a b).2 ⟨hflat.1, hflat.2.1, hflat.2.2.1, hflat.2.2.2, Jpo hll m0 hinv⟩)]; rfl
      skip)
   skip)
structure Stay (s t : StL) (a key : BS) : Prop where
  there : Xy s a = true → Xy t a = true
  oth : a ≠ A0 → a ≠ A1 → Xy s a = Xy t a ∧ (WC s a).er = (WC t a).er
  nonce : (WC s a).nonce = (WC t a).nonce
  bal : (WC s a).bal = (WC t a).bal
  slot : (a = A0 → ¬ Jhf key) → QB (WC s a).er key = QB (WC t a).er key
theorem YX {a b : Bool} (h : a = b) : Value.bool a = .bool b := congrArg _ h
theorem Jxa : Pure Tryz.prog 36 [].toArray (Jy VJ) := by
 refine Jz Tryz.func36 rfl rfl fun w => JN (Jt 7 rfl (Wq (n := 32) (b := 1) rfl rfl rfl rfl rfl rfl rfl rfl rfl m7 m7 fun r1 => LR rfl (KB (b := VJ) (row := some (r1, 32, [])) (e := 5) rfl ⟨rfl, rfl⟩ (fun p hp => .inl mU) rfl rfl rfl) ?_)); exact NS
def Jtm (p : Option BS) (a : AcE) : Bool := p.isNone || Op.bytesLess (p.getD []) a.addr
theorem Jav (p : Option BS) (a : AcE) : V0 p a = if a.slots.any ZM = true ∨ a.addr.length ≠ 20 then 2 else if (Jtm p a && Vd Prod.fst a.slots) = false then 11 else if a.code.length > 512 ∨ a.slots.length > 16 then 5 else if a.slots.any Xx = true then 8 else 0 := by
 by_cases h : a.slots.any ZM = true ∨ a.addr.length ≠ 20
 ·have e : Yh a = 2 := by unfold Yh; rw [if_pos (h.elim Or.inr Or.inl)]
  rw [if_pos h, Jbu (.inl e), e]
 rw [if_neg h]
 have h' : ¬ (a.addr.length ≠ 20 ∨ a.slots.any ZM = true) := fun hh => h (hh.elim Or.inr Or.inl)
 have e : Yh a = if Vd Prod.fst a.slots = false then 11 else if a.code.length > 512 ∨ a.slots.length > 16 then 5 else if a.slots.any Xx = true then 8 else 0 := by unfold Yh; rw [if_neg h']
 cases hr : Vd Prod.fst a.slots
 ·rw [hr, if_pos rfl] at e
  rw [Bool.and_false, if_pos rfl]
  unfold V0
  split
  ·rfl
  ·exact e
 rw [hr, if_neg mh] at e
 have h2 : Yh a ≠ 2 := by
  rw [e]
  split
  ·decide
  ·split <;> decide
 cases p with
 | none =>
  rw [Jl0, e]
  rfl
 | some b =>
  show V0 (some b) a = if ((false || Op.bytesLess b a.addr) && true) = false then 11 else _
  cases hb : Op.bytesLess b a.addr
  ·rw [Jji h2 rfl hb]; rfl
  ·rw [Jbu (.inr (.inr ⟨b, rfl, hb⟩)), e]; rfl
theorem Jtn {p : α → Bool} {l : List α} {x : α} (h : l[j]? = some x) (hp : p x = true) : l.any p = true := List.any_eq_true.2 ⟨x, List.mem_of_getElem? h, hp⟩
theorem Jto {p : α → Bool} {l : List α} (h : ∀ (j : Nat) x, l[j]? = some x → p x = false) : l.any p = false := by
 rw [List.any_eq_false]; intro x hx
 obtain ⟨j, hj⟩ := List.getElem?_of_mem hx
 rw [h j x hj]; simp
structure RackI (a : AcL) (rb : Bool) (i : Nat) (rs sp : Bool) : Prop where
  le : i ≤ a.slots.length
  odd : ∀ (j : Nat) x, j < i → a.slots[j]? = some x → ZM x = false
  rs : rs = true ↔ rb = true ∧ ∀ (j : Nat) x y, j + 1 < i → a.slots[j]? = some x → a.slots[j + 1]? = some y → Op.bytesLess x.1 y.1 = true
  sp : sp = true ↔ ∃ (j : Nat) (x : BS × BS), j < i ∧ a.slots[j]? = some x ∧ x.2 = VJ
theorem RackI.zero (a : AcL) (rb : Bool) : RackI a rb 0 rb false := ⟨Nat.zero_le _, fun _ _ h => absurd h (Nat.not_lt_zero _), by simp, by simp⟩
theorem RackI.next {a : AcL} {rb : Bool} {sp rs' sp' : Bool} {x : BS × BS} (h : RackI a rb i rs sp) (hx : a.slots[i]? = some x) (ho : x.1.length = 32 ∧ x.2.length = 32)
  (hr : rs' = (rs && (decide (i = 0) || Op.bytesLess ((a.slots[i - 1]?.map Prod.fst).getD []) x.1))) (hp : sp' = (sp || decide (x.2 = VJ))) : RackI a rb (i + 1) rs' sp' := by
 have hlt := (List.getElem?_eq_some_iff.1 hx).1
 refine ⟨hlt, fun j y hj hy => ?_, ?_, ?_⟩
 ·rcases Nat.lt_succ_iff_lt_or_eq.1 hj with hj | rfl
  ·exact h.odd j y hj hy
  ·rw [hx] at hy; cases hy
   unfold ZM; simp [ho.1, ho.2]
 ·rw [hr, Bool.and_eq_true, h.rs, Bool.or_eq_true, decide_eq_true_eq]
  constructor
  ·rintro ⟨⟨h1, h2⟩, h3⟩
   refine ⟨h1, fun j u v hj hu hv => ?_⟩
   rcases Nat.lt_succ_iff_lt_or_eq.1 hj with hj | hj
   ·exact h2 j u v hj hu hv
   ·subst hj
    rw [hx] at hv; cases hv; rw [show j + 1 - 1 = j by omega, hu] at h3; exact h3.resolve_left m0
  ·rintro ⟨h1, h2⟩
   refine ⟨⟨h1, fun j u v hj hu hv => h2 j u v m0 hu hv⟩, ?_⟩
   rcases Nat.eq_zero_or_pos i with h0 | h0
   ·exact .inl h0
   ·obtain ⟨j, rfl⟩ : ∃ j, i = j + 1 := ⟨i - 1, by omega⟩
    obtain ⟨u, hu, -⟩ := QN (show j < a.slots.length by omega)
    rw [show j + 1 - 1 = j by omega, hu]; exact .inr (h2 j u x m0 hu hx)
 ·rw [hp, Bool.or_eq_true, h.sp, decide_eq_true_eq]
  constructor
  ·rintro (⟨j, u, hj, hu, e⟩ | e)
   ·exact ⟨j, u, by omega, hu, e⟩
   ·exact ⟨i, x, by omega, hx, e⟩
  ·rintro ⟨j, u, hj, hu, e⟩
   rcases Nat.lt_succ_iff_lt_or_eq.1 hj with hj | rfl
   ·exact .inl ⟨j, u, hj, hu, e⟩
   ·rw [hx] at hu; cases hu; exact .inr e
theorem RackI.done {a : AcL} {rb : Bool} {sp : Bool} (h : RackI a rb a.slots.length rs sp) : a.slots.any ZM = false ∧ rs = (rb && Vd Prod.fst a.slots) ∧ sp = a.slots.any Xx := by
 have hlt : ∀ (j : Nat) (x : BS × BS), a.slots[j]? = some x → j < a.slots.length := fun j x hx => (List.getElem?_eq_some_iff.1 hx).1
 refine ⟨Jto fun j x hx => h.odd j x (hlt j x hx) hx, ?_, ?_⟩
 ·rw [Bool.eq_iff_iff, h.rs, Bool.and_eq_true]
  refine and_congr_right fun _ => ⟨fun hh => jy fun j x y hx hy => hh j x y (hlt _ _ hy) hx hy, fun hh j x y _ hx hy => ?_⟩
  cases hb : Op.bytesLess x.1 y.1
  ·rw [qx hx hy hb] at hh; cases hh
  ·rfl
 ·rw [Bool.eq_iff_iff, h.sp]
  constructor
  ·rintro ⟨j, x, _, hx, e⟩
   exact Jtn hx (by unfold Xx; rw [e]; simp)
  ·intro hh
   obtain ⟨x, hx, e⟩ := List.any_eq_true.1 hh
   obtain ⟨j, hj⟩ := List.getElem?_of_mem hx
   exact ⟨j, x, hlt j x hj, hj, by simpa [Xx] using e⟩
theorem Jtp {a : AcL} {x : BS × BS} (p : Option BS) (hx : a.slots[j]? = some x) (h : ¬ (x.1.length = 32 ∧ x.2.length = 32)) : V0 p a.er = 2 := by
 rw [Jav, if_pos (.inl (Jtn (l := a.er.slots) hx (by unfold ZM; rw [Bool.or_eq_true, decide_eq_true_eq, decide_eq_true_eq]; omega)))]
theorem Jtq {a : AcL} {p : Option BS} {sp : Bool} (h : RackI a (Jtm p a.er) a.slots.length rs sp) : V0 p a.er = if (a.addr.length : Int) ≠ 20 then 2 else if rs = false then 11 else if (a.code.length : Int) > 512 ∨ (a.slots.length : Int) > 16 then 5 else if sp = true then 8 else 0 := by
 obtain ⟨h1, h2, h3⟩ := h.done
 rw [Jav, h2, h3, show a.er.slots.any ZM = false from h1]; refine ite_congr (propext ⟨fun hh => ?_, fun hh => ?_⟩) (fun _ => rfl) fun _ => ite_congr rfl (fun _ => rfl) fun _ => ite_congr (propext ⟨fun hh => ?_, fun hh => ?_⟩) (fun _ => rfl) fun _ => rfl
 ·have hh : a.addr.length ≠ 20 := hh.elim (fun h => by cases h) id
  omega
 ·exact .inr (show a.addr.length ≠ 20 by omega)
 ·have hh : a.code.length > 512 ∨ a.slots.length > 16 := hh
  omega
 ·show a.code.length > 512 ∨ a.slots.length > 16
  omega
set_option maxHeartbeats 1000000 in
theorem Jxb {a : AcL} (ha : a.In R) (p : Option BS) : PureR Tryz.prog 33 [a.val, .bool p.isNone, Jy (p.getD [])].toArray (.int .i64 (V0 p a.er)) R := by
  have hl : a.slots.length ≤ 9223372036854775807 := ha.len
  have hseg := ha.seg
  obtain ⟨rb, hrb⟩ : ∃ b, b = Jtm p a.er := ⟨_, rfl⟩
  have hrb2 : rb = (p.isNone || Op.bytesLess (p.getD []) a.addr) := hrb
  obtain ⟨first, hfirst⟩ : ∃ b, b = p.isNone := ⟨_, rfl⟩
  obtain ⟨last, hlast⟩ : ∃ b, b = p.getD [] := ⟨_, rfl⟩
  rw [← hfirst, ← hlast] at hrb2; rw [← hfirst, ← hlast]; refine Ja Tryz.func33 rfl rfl fun w => JN (kj ?_); refine Qp (cs := a.cells.toArray) rfl rfl rfl rfl fun ra => Gq ?_
  refine Jo 11 rfl (fun gb => ?_) (fun gb => ?_) <;> (try simp only [ZZ] at gb) <;> first | (refine LR rfl (Jw rfl rfl rfl) ?_) | (refine LK rfl ?_)
  all_goals refine LW 2 [0] rfl rfl ?_
  all_goals first | refine LR rfl (Jbt (a := a.addr) (b := last) rfl rfl) ?_ | refine LK rfl ?_
  all_goals refine Ei ?_
  all_goals first | (refine Jj (YX (show true = rb by rw [hrb2]; simp_all)) ?_) | (refine Jj (YX (show Op.bytesLess last a.addr = rb by rw [hrb2]; simp_all)) ?_)
  all_goals (
   refine J0 2 rfl (ZE 13 rfl ?_); refine Js (σ := Nat × Bool × Bool) (fun q => RackI a rb q.1 q.2.1 q.2.2) (fun q => [(3, Value.pointer (some ⟨ra, 0, none⟩)), (7, .bool q.2.1), (8, .bool q.2.2), (9, .int .i64 (q.1 : Int))]) (fun _ => [(ra, .cells a.cells.toArray 34 (0, 0))]) (fun _ _ _ => True) (fun q => a.slots.length - q.1) (0, rb, false) (RackI.zero a rb) (lK rfl) (List.Sublist.refl _) (fun _ _ h => h) ?_; rintro ⟨i, rs, sp⟩ hinv; simp only at hinv; change HC _ _ [(3, _), (7, .bool rs), (8, .bool sp), (9, .int .i64 (i : Int))] _ _ _ _; refine E7 ?_; refine GV ?_; refine kU ?_; refine cD (fun g => ?_) fun g => ?_
   · refine NK ?_
     obtain ⟨x, hx, hmx⟩ := QN N0
     refine Gt ?_
     refine Jo 32 rfl (fun gb => ?_) (fun gb => ?_) <;> (try simp only [ZZ] at gb) <;> first | (refine LR rfl (Jw rfl rfl rfl) ?_) | (refine LK rfl ?_)
     all_goals refine gy ?_
     all_goals (
      refine gi ?_; refine JI rfl (fun g => ?_) (fun g => ?_)
      try simp only [ZZ] at g
      refine Gz fun w1 hs1 => ?_; rw [Jtp p hx m0]; rfl
      · try exact Bool.noConfusion g
        all_goals try simp only [ZZ] at g
        all_goals (
         refine Da ?_
         have hxo : x.1.length = 32 ∧ x.2.length = 32 := by omega
         obtain ⟨nv, hnv⟩ : ∃ b, b = decide (x.2 = VJ) := ⟨_, rfl⟩
         refine JR 22 m5 m5 (kp ?_)
         refine jm 43 rfl (fun gb => ?_) (fun gb => ?_) <;> (try simp only [ZZ] at gb) <;> first | (refine Jb rfl rfl rfl (Jg rfl) ?_) | (refine JT rfl rfl rfl ?_)
         all_goals first | (refine Jb rfl rfl rfl (Ju rfl rfl rfl) ?_; refine Kz (YX (show _ = decide (i = 0) from by rw [Bool.eq_iff_iff]; simp)) ?_) | refine JT rfl rfl rfl ?_
         all_goals first | refine Jb rfl rfl rfl (Jg rfl) ?_ | refine JT rfl rfl rfl ?_
         all_goals first | refine JT rfl rfl rfl ?_ | (refine jm 46 rfl (fun gb => ?_) (fun gb => ?_) <;> (try simp only [ZZ] at gb) <;> first | (refine Jb rfl rfl rfl (Jw rfl rfl rfl) ?_) | (refine JT rfl rfl rfl ?_))
         all_goals refine Ej ?_
         all_goals first | (refine Jb rfl rfl rfl (JW (off' := YC a.p + (i * 2 + 0)) rfl rfl MN) ?_) | refine JT rfl rfl rfl ?_
         all_goals first | refine Jb rfl rfl rfl (VB Ki (k := 0) (v := Jy x.1) oR rfl hseg hx rfl rfl) ?_ | refine JT rfl rfl rfl ?_
         all_goals first | refine Jb rfl rfl rfl (Jw rfl rfl rfl) ?_ | refine JT rfl rfl rfl ?_
         all_goals refine gK ?_
         all_goals first | (refine Jb rfl rfl rfl (Ju rfl rfl rfl) ?_; refine Ww m0 m0 ?_) | refine JT rfl rfl rfl ?_
         all_goals first | (obtain ⟨y, hy, hmy⟩ := QN (show i - 1 < a.slots.length by omega); refine Jb rfl rfl rfl (Jf (j := (i - 1)) rfl hseg rfl rfl rfl me m0) ?_) | refine JT rfl rfl rfl ?_
         all_goals first | (refine Jb rfl rfl rfl (JW (off' := YC a.p + ((i - 1) * 2 + 0)) rfl rfl (by show YC a.p + (i - 1) * 2 + 0 = _; omega)) ?_) | refine JT rfl rfl rfl ?_
         all_goals first | refine Jb rfl rfl rfl (VB Ki (k := 0) (v := Jy y.1) oR rfl hseg hy rfl rfl) ?_ | refine JT rfl rfl rfl ?_
         all_goals first | (refine Jb rfl rfl rfl (Jbt (a := x.1) (b := y.1) rfl rfl) ?_; refine Kz (YX (show Op.bytesLess y.1 x.1 = Op.bytesLess ((a.slots[i - 1]?.map Prod.fst).getD []) x.1 by rw [hy]; rfl)) ?_) | refine JT rfl rfl rfl ?_
         all_goals first | refine Jb rfl rfl rfl (Yk rfl rfl) ?_ | refine Jb rfl rfl rfl (Yl rfl rfl) ?_ | refine JT rfl rfl rfl ?_
         all_goals refine D3 ?_
         all_goals (
          refine Jb rfl rfl rfl (JA rfl) (Kn (J0 1 rfl (ZE 1 rfl ?_))); refine JR 12 m5 m5 (kp ?_)
          refine jm 64 rfl (fun gb => ?_) (fun gb => ?_) <;> (try simp only [ZZ] at gb) <;> first | (refine Jb rfl rfl rfl (Jw rfl rfl rfl) ?_) | (refine JT rfl rfl rfl ?_)
          all_goals refine Ej ?_
          all_goals first | (refine Jb rfl rfl rfl (JW (off' := YC a.p + (i * 2 + 1)) rfl rfl Mk) ?_) | refine JT rfl rfl rfl ?_
          all_goals first | refine Jb rfl rfl rfl (VB Ki (k := 1) (v := Jy x.2) oR rfl hseg hx rfl rfl) ?_ | refine JT rfl rfl rfl ?_
          all_goals first | (refine Qk rfl rfl rfl (enters_of Tryz.func36 m5 rfl) Jxa ?_) | refine JT rfl rfl rfl ?_
          all_goals first | (refine Jb rfl rfl rfl (V5 (a := x.2) (b := VJ) rfl rfl) ?_; refine Kz (YX hnv.symm) ?_) | refine JT rfl rfl rfl ?_
          all_goals refine D3 ?_
          all_goals (
           refine Jb rfl rfl rfl (JA rfl) (Kn (J0 1 rfl (gqo 5 rfl ?_))); refine Nn ?_; refine Jm (i + 1, _, _) (RackI.next hinv hx hxo ?_ ?_) ml (lK rfl) (List.Sublist.refl _) (fun _ _ h => h)
           simp_all
           simp_all
           skip)
          skip)
         skip)
      skip)
   · refine E3 ?_
     obtain rfl : i = a.slots.length := by have := hinv.le; omega
     have hE := Jtq (p := p) (hrb ▸ hinv)
     refine QZ 3 [0] rfl rfl (kG ?_); refine kU ?_; refine cD (fun g => ?_) fun g => ?_
     refine gZ fun w1 hs1 => ?_; rw [hE, if_pos m0]; rfl
     · refine J9 9 rfl (cD (fun g => ?_) fun g => ?_)
       refine gZ fun w1 hs1 => ?_; rw [hE, if_neg m0, if_pos m9]; rfl
       · refine QZ 7 [0] rfl rfl (Ey ?_)
         refine Jo 84 rfl (fun gb => ?_) (fun gb => ?_) <;> (try simp only [ZZ] at gb) <;> first | (refine LR rfl (Jw rfl rfl rfl) ?_) | (refine LK rfl ?_)
         all_goals refine G9 ?_
         all_goals (
          refine gi ?_; refine JI rfl (fun g => ?_) (fun g => ?_)
          try simp only [ZZ] at g
          refine gZ fun w1 hs1 => ?_; rw [hE, if_neg m0, if_neg mA, if_pos m0]; rfl
          · try exact Bool.noConfusion g
            all_goals try simp only [ZZ] at g
            all_goals (
             refine J9 8 rfl (cD (fun g => ?_) fun g => ?_)
             refine gZ fun w1 hs1 => ?_; rw [hE, if_neg m0, if_neg mA, if_neg m0, if_pos m9]; rfl
             refine Hx fun w1 hs1 => ?_; rw [hE, if_neg m0, if_neg mA, if_neg m0, if_neg mA]; rfl
             skip)
          skip)
   skip)
theorem Jnm {s : StL} (hi : i ≤ s.accts.length) : ((i : Int) == 0) = (Xo s.er i).isNone := by
 cases i with
 | zero => rfl
 | succ j =>
  obtain ⟨a, ha, -⟩ := QN (show j < s.accts.length by omega)
  rw [Jbv ha rfl]; exact J2o m0
theorem Jge {s : StL} (hs : s.In R) : PureR Tryz.prog 13 [s.val].toArray (.int .i64 (Qn s.er)) R := by
 have hl : s.accts.length ≤ 9223372036854775807 := hs.len
 have hseg := hs.seg
 obtain ⟨hc5, hcg⟩ := Jjj s
 refine Ja Tryz.func13 rfl rfl fun w => JN (kj ?_); refine Qp (cs := s.cells.toArray) rfl rfl rfl rfl fun rs => XO 8 [0] rfl rfl (GV ?_); refine kU ?_; refine cD (fun g => ?_) fun g => ?_
 refine gZ fun w1 hs1 => ?_; rw [hc5 m9]; rfl
 ·refine J9 14 rfl (Js (σ := Nat) (fun i => i ≤ s.accts.length ∧ goS (Xo s.er i) (s.er.drop i) = goS none s.er) (fun i => [(1, Value.pointer (some ⟨rs, 0, none⟩)), (3, Jy ((Xo s.er i).getD [])), (4, .int .i64 (i : Int))]) (fun _ => [(rs, .cells s.cells.toArray 24 (0, 0))]) (fun _ _ _ => True) (fun i => s.accts.length - i) 0 ⟨Nat.zero_le _, rfl⟩ (lK rfl) (List.Sublist.refl _) (fun _ _ h => h) ?_); rintro i ⟨hi1, hinv⟩; refine E7 ?_; refine GV ?_; refine kU ?_; refine cD (fun g => ?_) fun g => ?_
  refine gr ?_
  obtain ⟨a, ha, hma⟩ := QN MC
  rw [Jjh (Y3 ha)] at hinv; refine gu ?_
  refine kV ?_; refine NZ ?_; refine Jj (YX (Jnm hi1)) (Vb rfl (Jc rfl rfl rfl (enters_of Tryz.func33 m5 rfl) (Jxb (hs.accts a hma) (Xo s.er i)) oR (JP 10 rfl ?_))); refine cD (fun g => ?_) fun g => ?_
  refine KQ 13 rfl (Nk fun w1 hs1 => ?_); exact EQ
  refine E7 ?_
  refine LR rfl (Jf (j := i) rfl hseg rfl rfl rfl me m0) (LR rfl (JW (off' := YC s.p + (i * 8 + 0)) rfl rfl (by show YC s.p + i * 8 + 0 = _; omega)) (LR rfl (VB AcL.len (k := 0) (v := Jy a.addr) oR rfl hseg ha rfl rfl) (DC ?_))); exact Jm (i + 1) ⟨by omega, by rw [if_neg mA] at hinv; exact hinv⟩ m0 (.cons rfl (.cons (by rw [Jbv ha rfl]; rfl) (.cons rfl .nil))) (List.Sublist.refl _) (fun _ _ h => h)
  ·exact EK
structure OutI {α : Type} (f : α → List Value) (sz : Nat) (acc : List α) (n : Nat) (xs : List Value) (row : Vn) : Prop where
  num : n = acc.length
  cells : xs = acc.flatMap f
  ok : rowOk sz n xs row
theorem OutI.nil {f : α → List Value} : OutI f sz [] 0 [] none := ⟨rfl, rfl, rfl, rfl⟩
open Go.Proofs (Enters enters_of)
theorem qQ {k n : Int} {p : Pl} {l : List Vl} (hk : (k = 3 ∧ (l.length : Int) = n) ∨ (k = 4 ∧ (l.length : Int) ≤ n)) (h : ∀ v ∈ l, Ku v x = 0) : Ku (KP l 0) (.mk k n p [x]) = 0 := by
 have hL : ∀ (l : List Vl) (i : Nat), (∀ v ∈ l, Ku v x = 0) → Qz l k 0 [x] i = 0 := by
  intro l
  induction l with
  | nil => intro i _; rw [Qz]
  | cons v l ih =>
   intro i h
   have e : JF k 0 [x] i = x := by unfold JF VF; rcases hk with ⟨rfl, _⟩ | ⟨rfl, _⟩ <;> rfl
   rw [Qz, e, if_pos (h v mh), ih _ (fun w hw => h w (by simp [hw]))]
 unfold KP
 rw [Xa ?_ ?_, hL l 0 h]
 ·rcases hk with ⟨rfl, h1⟩ | ⟨rfl, h1⟩ <;> simp <;> omega
 ·rw [QA k n _ 0 0 0 0 [] none l none 0 _ rfl]
  rcases hk with ⟨rfl, h1⟩ | ⟨rfl, h1⟩ <;> simp [Q0, h1]
theorem xg {a : Nat} {n : Int} {p : Pl} (h : ((Wu [a, b, c, d]).length : Int) ≤ n) : Ku (.mk a b c d [] none [] none 0) (.mk 1 n p []) = 0 := by
 rw [Xa mh (by rw [QA 1 n _ a b c d [] none [] none 0 _ rfl]; simp [Q0, h]), Qz]
theorem Jz8 : ∀ i : Fin 256, (Wu [i.val, 0, 0, 0]).length ≤ 1 := by decide +kernel
theorem Jtr (b : UInt8) : Ku (Zu b) byT = 0 := xg (by have := Jz8 ⟨b.toNat, Vh b⟩; simp only at this; omega)
theorem Jc6 {n : Int} (h : (s.length : Int) = n) : Ku (wi s) (Xu 3 n) = 0 := qQ (.inl ⟨rfl, by rw [List.length_map]; exact h⟩) fun v hv => by obtain ⟨b, _, rfl⟩ := List.mem_map.1 hv; exact Jtr b
theorem Jxc {n : Int} (h : (s.length : Int) ≤ n) : Ku (wi s) (Xu 4 n) = 0 := qQ (.inr ⟨rfl, by rw [List.length_map]; exact h⟩) fun v hv => by obtain ⟨b, _, rfl⟩ := List.mem_map.1 hv; exact Jtr b
theorem Jxd {x : BS × BS} (h1 : x.1.length = 32) (h2 : x.2.length = 32) : Ku (jh x) vF = 0 := by
 unfold jh vF KP
 rw [Xa mh (by rw [QA 7 0 _ 0 0 0 0 [] none _ none 0 _ rfl]; simp [Q0]), Qz, show JF 7 0 [Xu 3 32, Xu 3 32] 0 = Xu 3 32 from rfl, if_pos (Jc6 m0), Qz, show JF 7 0 [Xu 3 32, Xu 3 32] (0 + 1) = Xu 3 32 from rfl, if_pos (Jc6 m0), Qz]
theorem Jxe {n : Nat} (h : XD n) : (Wu [n, 0, 0, 0]).length ≤ 8 := by
 have h1 := Jad (l := [n, 0, 0, 0]) (Jq6 h)
 rw [Je4] at h1; exact of_decide_eq_true h1.symm
theorem Jz9 {a : AcE} (h : Yh a = 0) (hn : XD a.nonce) : Ku (acV a) acT = 0 := by
 obtain ⟨h1, h2, _, h4, h5⟩ := WB h
 obtain ⟨I, hI⟩ : ∃ I, I = [Xu 3 20, .mk 1 8 none [], .mk 1 32 none [], Xu 4 512, .mk 4 16 none [vF]] := ⟨_, rfl⟩
 have e0 : JF 7 0 I 0 = Xu 3 20 := by rw [hI]; rfl
 have e1 : JF 7 0 I (0 + 1) = .mk 1 8 none [] := by rw [hI]; rfl
 have e2 : JF 7 0 I (0 + 1 + 1) = .mk 1 32 none [] := by rw [hI]; rfl
 have e3 : JF 7 0 I (0 + 1 + 1 + 1) = Xu 4 512 := by rw [hI]; rfl
 have e4 : JF 7 0 I (0 + 1 + 1 + 1 + 1) = .mk 4 16 none [vF] := by rw [hI]; rfl
 have hl : I.length = 5 := by rw [hI]; rfl
 have hsl : Ku (Vl.mk 0 0 0 0 [] none (a.slots.map jh) none 0) (.mk 4 16 none [vF]) = 0 := qQ (.inr ⟨rfl, by rw [List.length_map]; omega⟩) fun v hv => by
  obtain ⟨x, hx, rfl⟩ := List.mem_map.1 hv
  exact Jxd (h2 x hx).1 (h2 x hx).2.1
 unfold acV acT KP
 rw [← hI, Xa mh (by rw [hl, QA 7 0 _ 0 0 0 0 [] none _ none 0 _ rfl]; simp [Q0]), Qz, e0, if_pos (Jc6 m0), Qz, e1, if_pos (xg (by have := Jxe hn; omega)), Qz, e2, if_pos (xg (by have := Jh0 [a.bal.a, a.bal.b, a.bal.c, a.bal.d]; omega)),
  Qz, e3, if_pos (Jxc m0), Qz, e4, if_pos hsl, Qz]
theorem Jxf {l : List AcE} (h : Qn l = 0) (hn : ∀ a ∈ l, XD a.nonce) : Vc QU (WP l) = 0 := by
 obtain ⟨h1, h2, _⟩ := yP.1 h
 unfold Vc
 rw [if_pos qM]
 exact qQ (.inr ⟨rfl, by rw [List.length_map]; omega⟩) fun v hv => by
  obtain ⟨a, ha, rfl⟩ := List.mem_map.1 hv
  exact Jz9 (h2 a ha) (hn a ha)
theorem qR {s : StL} (h : Qn s.er = 0) : s.accts.length ≤ 100000 ∧ ∀ a ∈ s.accts, Ac1 a := by
 obtain ⟨h1, h2, _⟩ := yP.1 h
 rw [s.er_len] at h1; refine ⟨by omega, fun a ha => ?_⟩
 obtain ⟨g1, g2, _, g4, g5⟩ := WB (h2 a.er (List.mem_map.2 ⟨a, ha, rfl⟩))
 change a.addr.length = 20 at g1; change a.code.length ≤ 512 at g4; change a.slots.length ≤ 16 at g5; exact ⟨by omega, by omega, by omega, fun x hx => by obtain ⟨e1, e2, _⟩ := g2 x hx; omega⟩
theorem Jc7 {s : StL} (hs : s.In R) (h : Qn s.er = 0) : Vc QU (WP s.er) = 0 := Jxf h fun a ha => by
 obtain ⟨b, hb, rfl⟩ := List.mem_map.1 ha
 exact (hs.accts b hb).nonce
theorem Jgf : ∀ l : List Vl, (∀ x ∈ l, Nonempty (VR x)) → ∃ (ys : List Vl) (L : Jp), ys.map Xh = l ∧ ∀ y ∈ ys, y.In L
 | [], _ => ⟨[], [], rfl, fun y hy => nomatch hy⟩
 | x :: l, h => by
  obtain ⟨ys, L, h1, h2⟩ := Jgf l fun y hy => h y (List.mem_cons_of_mem _ hy)
  obtain ⟨v⟩ := h x List.mem_cons_self
  refine ⟨v.x :: ys, v.L ++ L, by rw [List.map_cons, v.er, h1], fun y hy => ?_⟩
  rcases List.mem_cons.1 hy with rfl | hy
  ·exact v.ok.mono fun q hq => List.mem_append_left _ hq
  ·exact (h2 y hy).mono fun q hq => List.mem_append_right _ hq
theorem j9 {l : List Vl} (h : ∀ x ∈ l, Nonempty (VR x)) (hl : l.length ≤ 100000) : Nonempty (VR (KP l 0)) := by
 obtain ⟨ys, L, h1, h2⟩ := Jgf l h
 have hy : ys.length = l.length := by rw [← h1, List.length_map]
 exact ⟨⟨.mk 0 0 0 0 [] none ys (some (⟨0, 0, none⟩, ys.length)) 0, (0, .cells (KL ys).toArray 0 (0, 0)) :: L, .mk u0 u0 u0 u0 m7 rfl m0 ⟨Nat.le_refl _, fun _ => ⟨rfl, _, 0, (0, 0), List.mem_cons_self, by rw [List.drop_zero, List.toList_toArray, List.take_length]⟩⟩ i0 fun x hx => (h2 x hx).mono fun q hq => List.mem_cons_of_mem _ hq, by rw [Qs, Wr, h1]; rfl⟩⟩
theorem Jld {a : Nat} (ha : XD a) (hb : XD b) (hc : XD c) (hd : XD d) : Nonempty (VR (.mk a b c d [] none [] none 0)) :=
 ⟨⟨.mk a b c d [] none [] none 0, [], .mk ha hb hc hd m7 rfl m7 rfl i0 (fun x hx => nomatch hx), by rw [Qs, YN]⟩⟩
theorem Jc8 (hl : s.length ≤ 100000) : Nonempty (VR (wi s)) := ⟨Jc3 hl⟩
theorem J0a {a : AcL} (h : Ac1 a) (hn : XD a.nonce) (hb : a.bal.ok) : Nonempty (VR (acV a.er)) := by
 obtain ⟨h1, h2, h3, h4⟩ := h
 refine j9 (fun x hx => ?_) (by show 5 ≤ 100000; decide); simp only [List.mem_cons, List.not_mem_nil, or_false] at hx
 rcases hx with rfl | rfl | rfl | rfl | rfl
 ·exact Jc8 h1
 ·exact Jld hn u0 u0 u0
 ·exact Jld hb.a hb.b hb.c hb.d
 ·exact Jc8 h2
 ·refine j9 (fun x hx => ?_) (by rw [List.length_map]; exact h3)
  obtain ⟨⟨k, v⟩, hy, rfl⟩ := List.mem_map.1 hx
  refine j9 (fun x hx => ?_) (by show 2 ≤ 100000; decide); simp only [List.mem_cons, List.not_mem_nil, or_false] at hx
  rcases hx with rfl | rfl
  ·exact Jc8 (h4 _ hy).1
  ·exact Jc8 (h4 _ hy).2
theorem Jc9 {s : StL} (hs : s.In R) (h : Qn s.er = 0) : Nonempty (VR (WP s.er)) := by
 obtain ⟨hn, hb⟩ := qR h
 refine j9 (fun x hx => ?_) (by rw [List.length_map, s.er_len]; exact hn)
 obtain ⟨a, ha, rfl⟩ := List.mem_map.1 hx
 obtain ⟨b, hb2, rfl⟩ := List.mem_map.1 ha
 exact J0a (hb b hb2) (hs.accts b hb2).nonce (hs.accts b hb2).bal
def Jle : TR QU := ⟨Jnd 0 0 0 0 0 0 0 0, [(0, Jnb 0), (0, .cells #[.int .i64 3, .int .i64 32, .slice (some ⟨0, 0, none⟩) 1 1, .int .i64 3, .int .i64 32, .slice (some ⟨0, 0, none⟩) 1 1] 0 (0, 0)), (0, .cells #[.int .i64 7, .int .i64 0, .slice (some ⟨0, 0, none⟩) 2 2] 0 (0, 0)),
 (0, .cells #[.int .i64 3, .int .i64 20, .slice (some ⟨0, 0, none⟩) 1 1, .int .i64 1, .int .i64 8, .slice none 0 0, .int .i64 1, .int .i64 32, .slice none 0 0, .int .i64 4, .int .i64 512, .slice (some ⟨0, 0, none⟩) 1 1, .int .i64 4, .int .i64 16, .slice (some ⟨0, 0, none⟩) 1 1] 0 (0, 0)),
 (0, .cells #[.int .i64 7, .int .i64 0, .slice (some ⟨0, 0, none⟩) 5 5] 0 (0, 0))], Jcs (e := 0) (by simp) (by simp) (by simp) (by simp) (by simp) (by simp) (by simp) (by simp), Jct ..⟩
theorem Jxg (t : Ty) (v : Vl) : ZY t (Xh v) = ZY t v := by unfold ZY Vc; rw [Jcz, Jr2]
theorem Jts (t : Ty) (v : Vl) : YV t (Xh v) = YV t v := by unfold YV Vc; rw [Jcz, Jkn]
theorem Jlf {V : Vl} (t : TR T) (v : VR V) : ZY t.x v.x = ZY T V := by obtain ⟨x, L, ok, rfl⟩ := t; obtain ⟨y, M, ok2, rfl⟩ := v; rw [Jss, Jxg]
theorem Jtt {V : Vl} (t : TR T) (v : VR V) : YV t.x v.x = YV T V := by obtain ⟨x, L, ok, rfl⟩ := t; obtain ⟨y, M, ok2, rfl⟩ := v; rw [Jnf, Jts]
theorem Jnn {V : Vl} (t : TR T) (v : VR V) : KD v.x t.x = KD V T := by obtain ⟨x, L, ok, rfl⟩ := t; obtain ⟨y, M, ok2, rfl⟩ := v; rw [zV, Jkn]
theorem Jxh (t : TR QU) : Vp t.x 0 = 0 := by rw [← qL, t.er]; exact qM
theorem Jxi {V : Vl} (t : TR QU) (v : VR V) (h : Vc QU V = 0) : Ku v.x t.x = 0 := by
 unfold Vc at h
 rw [if_pos qM] at h; rw [← Jc0, t.er, ← Jcz, v.er]; exact h
theorem xh {l : List AcE} (h : Qn l = 0) (hf : Vc QU (WP l) = 0) : Yw l = (KD (WP l) QU, 0) := by
 unfold Yw YV
 rw [if_neg m0, if_neg m0]
theorem vK {s : StL} (hs : s.In R) (hw : Qn s.er = 0 → wV (WP s.er) ≤ 20000) : PureR Tryz.prog 27 [s.val].toArray (YI (VI s.er)) R := by
 have hC := XJ hs
 have hac := qR (s := s)
 have hlay := Jc9 hs
 have hfit := Jc7 hs
 have hb0 : Qn s.er ≠ 0 → VI s.er = ([], Qn s.er) := fun h => by unfold VI; rw [if_pos h]
 have hb1 : Qn s.er = 0 → VI s.er = ZY QU (WP s.er) := fun h => by unfold VI; rw [if_neg m0]
 obtain ⟨accts, p⟩ := s
 generalize hz0 : Qn (StL.er ⟨accts, p⟩) = z at *
 refine Ja Tryz.func27 rfl rfl fun w => Nl fun r1 => ?_; refine Gq ?_; refine gU ?_; refine Jc rfl rfl rfl Jml hC oR (HN ?_); refine cD (fun g => ?_) fun g => ?_
 exact H5
 ·refine Da ?_
  have hz : z = 0 := by assumption
  obtain ⟨hn, hb⟩ := hac hz
  obtain ⟨v0⟩ := hlay hz
  have hww := hw hz
  refine ki fun t v => ?_
  refine JU (k := 4) (Rl := v.L ++ t.L) rfl rfl rfl rfl rfl (enters_of Tryz.func52 m5 rfl) (Jrs (t.ok.mono fun q hq => List.mem_append_right _ hq) (v.ok.mono fun q hq => List.mem_append_left _ hq) Mr) (fun q hq => .inl nc) (Qw (congrArg YI (Jlf t v)) (gY ?_)); exact Gx
theorem xj {s : StL} (hs : s.In R) (hw : Qn s.er = 0 → wV (WP s.er) ≤ 20000) : PureR Tryz.prog 29 [s.val].toArray (YI (Yw s.er)) R := by
 have hC := XJ hs
 have hac := qR (s := s)
 have hlay := Jc9 hs
 have hfit := Jc7 hs
 have hb0 : Qn s.er ≠ 0 → Yw s.er = ([], Qn s.er) := fun h => by unfold Yw; rw [if_pos h]
 have hb1 : Qn s.er = 0 → Yw s.er = YV QU (WP s.er) := fun h => by unfold Yw; rw [if_neg m0]
 obtain ⟨accts, p⟩ := s
 generalize hz0 : Qn (StL.er ⟨accts, p⟩) = z at *
 refine Ja Tryz.func29 rfl rfl fun w => Nl fun r1 => ?_; refine Gq ?_; refine gU ?_; refine Jc rfl rfl rfl Jml hC oR (HN ?_); refine cD (fun g => ?_) fun g => ?_
 exact H5
 ·refine Da ?_
  have hz : z = 0 := by assumption
  obtain ⟨hn, hb⟩ := hac hz
  obtain ⟨v0⟩ := hlay hz
  have hww := hw hz
  refine ki fun t v => ?_
  refine JU (k := 4) (Rl := v.L ++ t.L) rfl rfl rfl rfl rfl (enters_of Tryz.func58 m5 rfl) (Jws (t.ok.mono fun q hq => List.mem_append_right _ hq) (v.ok.mono fun q hq => List.mem_append_left _ hq) Mr) (fun q hq => .inl nc) (Qw (congrArg YI (Jtt t v)) (gY ?_)); exact Gx
theorem Jig {s : StL} (hs : s.In R) (hw : Qn s.er = 0 → wV (WP s.er) ≤ 20000) : PureR Tryz.prog 28 [s.val].toArray (YI (VI s.er)) R := by
 have hC := Jge hs
 have hac := qR (s := s)
 have hlay := Jc9 hs
 have hfit := Jc7 hs
 have hb0 : Qn s.er ≠ 0 → VI s.er = ([], Qn s.er) := fun h => by unfold VI; rw [if_pos h]
 have hb1 : Qn s.er = 0 → VI s.er = ZY QU (WP s.er) := fun h => by unfold VI; rw [if_neg m0]
 obtain ⟨accts, p⟩ := s
 generalize hz0 : Qn (StL.er ⟨accts, p⟩) = z at *
 refine Ja Tryz.func28 rfl rfl fun w => Nl fun r1 => ?_; refine G1 ?_; refine gU ?_; refine Jc rfl rfl rfl (enters_of Tryz.func13 m5 rfl) hC oR (DE ?_); refine cD (fun g => ?_) fun g => ?_
 exact H5
 ·refine Da ?_
  have hz : z = 0 := by assumption
  obtain ⟨hn, hb⟩ := hac hz
  obtain ⟨v0⟩ := hlay hz
  have hww := hw hz
  refine JD [(r1, .cells #[KE accts.length p] 24 (0, 0))] [(0, .grow (KA Jle (fun y => y.x.val) (fun y => y.L))), (1, .pure), (2, .grow (KA v0 (fun y => y.x.val) (fun y => y.L))), (4, .pure), (5, .pure)] 6 [1, 0, 2, 3, 4, 5] m5 m5 m6 (gR fun t v => ?_)
  refine JU (k := 3) (Rl := v.L ++ t.L) rfl rfl rfl rfl rfl (enters_of Tryz.func55 m5 rfl) (Jzq (t.ok.mono fun q hq => List.mem_append_right _ hq) (v.ok.mono fun q hq => List.mem_append_left _ hq) Mr) (fun q hq => .inl nc) (Qw (congrArg YI (Jlf t v)) (Jk (k := 4) rfl rfl rfl rfl rfl (fun _ hS => (Qi rfl rfl)) (Jk (k := 5) rfl rfl rfl rfl rfl (fun _ hS => (Qi rfl rfl)) ?_))); exact Gx
theorem Jno {s : StL} (hs : s.In R) (hw : Qn s.er = 0 → wV (WP s.er) ≤ 20000) : PureR Tryz.prog 30 [s.val].toArray (YI (Yw s.er)) R := by
 have hC := Jge hs
 have hac := qR (s := s)
 have hlay := Jc9 hs
 have hfit := Jc7 hs
 have hb0 : Qn s.er ≠ 0 → Yw s.er = ([], Qn s.er) := fun h => by unfold Yw; rw [if_pos h]
 have hb1 : Qn s.er = 0 → Yw s.er = (KD (WP s.er) QU, 0) := fun h => xh h (hfit h)
 obtain ⟨accts, p⟩ := s
 generalize hz0 : Qn (StL.er ⟨accts, p⟩) = z at *
 refine Ja Tryz.func30 rfl rfl fun w => Nl fun r1 => ?_; refine G1 ?_; refine gU ?_; refine Jc rfl rfl rfl (enters_of Tryz.func13 m5 rfl) hC oR (DE ?_); refine cD (fun g => ?_) fun g => ?_
 exact H5
 ·refine Da ?_
  have hz : z = 0 := by assumption
  obtain ⟨hn, hb⟩ := hac hz
  obtain ⟨v0⟩ := hlay hz
  have hww := hw hz
  have hff := hfit hz
  refine JD [(r1, .cells #[KE accts.length p] 24 (0, 0))] [(0, .grow (KA Jle (fun y => y.x.val) (fun y => y.L))), (1, .pure), (2, .grow (KA v0 (fun y => y.x.val) (fun y => y.L)))] 4 [1, 0, 2, 3] m5 m5 m6 (gR fun t v => ?_)
  refine JU (k := 3) (Rl := v.L ++ t.L) rfl rfl rfl rfl rfl Jve (J1w (v.ok.mono fun q hq => List.mem_append_left _ hq) t.x 0 (t.ok.mono fun q hq => List.mem_append_right _ hq) (Jxh t) (Jxi t v hff) Mr) (fun q hq => .inl nc) (Qw (congrArg Jy (Jnn t v)) ?_); exact Gx
theorem Jxj (n : Nat) : yA [n, 0, 0, 0] = .tuple #[uV n, .bool true] := by unfold yA; rw [Je4]; rfl
theorem Jda  {a : Nat} {bits : List Bool} {items : List Vl} {pick : Int} (h : Vl.In R (.mk a b c d bits pb items pi pick)) : Seg R items.length (KL items) pi := by cases h; assumption
theorem Jyi  {a : Nat} {bits : List Bool} {items : List Vl} {pick : Int} (h : Vl.In R (.mk a b c d bits pb items pi pick)) : W4.ok ⟨a, b, c, d⟩ := by cases h; exact ⟨by assumption, by assumption, by assumption, by assumption⟩
theorem yg {a : Nat} {bits : List Bool} {items : List Vl} {pick k n : Int} {p : Pl} {ins : List Ty} (h : Ku (.mk a b c d bits pb items pi pick) (.mk k n p ins) = 0) : ¬ (k = 4 ∧ n < items.length) ∧ xx k n ins.length (.mk a b c d bits pb items pi pick) = true ∧ Qz items k pick ins 0 = 0 := by
 rw [Ku] at h
 split at h
 ·cases h
 ·rename_i h1
  split at h
  ·cases h
  ·rename_i h2
   exact ⟨fun e => h1 (.inl e), by simpa using h2, h⟩
theorem xl {n : Int} {p : Pl} (h : Ku v (.mk 4 n p [x]) = 0) : (v.items.length : Int) ≤ n ∧ ∀ y ∈ v.items, Ku y x = 0 := by
 obtain ⟨a, b, c, d, bits, pb, items, pi, pick⟩ := v
 obtain ⟨h1, _, h3⟩ := yg h
 refine ⟨by show (items.length : Int) ≤ n; omega, fun y hy => ?_⟩
 obtain ⟨j, hj⟩ := List.getElem?_of_mem hy
 exact Vx h3 hj
theorem Jdb {n : Int} {p : Pl} (h : Ku v (.mk 3 n p [x]) = 0) : (v.items.length : Int) = n := by
 obtain ⟨a, b, c, d, bits, pb, items, pi, pick⟩ := v
 obtain ⟨_, h2, _⟩ := yg h
 rw [QA 3 n _ a b c d bits pb items pi pick _ rfl] at h2; simp at h2; exact h2.2
theorem Jlg {p : Pl} {ins : List Ty} (h : Ku v (.mk 7 0 p ins) = 0) : v.items.length = ins.length ∧ ∀ (j : Nat) y, v.items[j]? = some y → Ku y (ins.getD j default) = 0 := by
 obtain ⟨a, b, c, d, bits, pb, items, pi, pick⟩ := v
 obtain ⟨_, h2, h3⟩ := yg h
 rw [QA 7 0 _ a b c d bits pb items pi pick _ rfl] at h2; simp at h2; refine ⟨h2.2, fun j y hy => ?_⟩
 have := Vx h3 hy
 rw [Nat.zero_add] at this; exact this
theorem J0b {p : Pl} {ins : List Ty} (hv : v.In R) (h : Ku v (.mk 1 8 p ins) = 0) : ∃ n, v.num = [n, 0, 0, 0] ∧ XD n := by
 obtain ⟨a, b, c, d, bits, pb, items, pi, pick⟩ := v
 obtain ⟨_, h2, _⟩ := yg h
 rw [QA 1 8 _ a b c d bits pb items pi pick _ rfl] at h2; simp at h2
 have hw := Jyi hv
 have h1 := Jad (l := [a, b, c, d]) hw.wok
 rw [decide_eq_true (by have := h2.2; omega)] at h1; exact ⟨a, (Jq5 h1).symm, hw.a⟩
theorem Jtu {z : Vl} (h : Ku z vF = 0) : ∃ k0 k1, z.items = [k0, k1] ∧ k0.items.length = 32 ∧ k1.items.length = 32 := by
 obtain ⟨h1, h2⟩ := Jlg h
 match hz : z.items, h1 with
 | [k0, k1], _ =>
  have e0 := h2 0 k0 N1
  have e1 := h2 1 k1 N1
  exact ⟨k0, k1, rfl, by have := Jdb e0; omega, by have := Jdb e1; omega⟩
theorem Jxk {x : Vl} (hx : x.In R) (h : Ku x acT = 0) : ∃ p0 p1 p2 p3 p4 : Vl, x.items = [p0, p1, p2, p3, p4] ∧ p0.items.length = 20 ∧ (p1.num.getD 1 0 = 0 ∧ p1.num.getD 2 0 = 0 ∧ p1.num.getD 3 0 = 0 ∧ XD (p1.num.getD 0 0)) ∧ True ∧ p3.items.length ≤ 512 ∧ (p4.items.length ≤ 16 ∧ ∀ z ∈ p4.items, ∃ k0 k1, z.items = [k0, k1] ∧ k0.items.length = 32 ∧ k1.items.length = 32) := by
 obtain ⟨h1, h2⟩ := Jlg h
 match hz : x.items, h1 with
 | [p0, p1, p2, p3, p4], _ =>
  have e0 := h2 0 p0 N1
  have e1 := h2 1 p1 N1
  have e3 := h2 3 p3 N1
  have e4 := h2 4 p4 N1
  have hi1 : p1.In R := by obtain ⟨a, b, c, d, bits, pb, items, pi, pick⟩ := x; exact hx.sub p1 (by show p1 ∈ items; rw [show items = _ from hz]; simp)
  obtain ⟨n, hn, hu⟩ := J0b hi1 e1
  obtain ⟨g3, _⟩ := xl e3
  obtain ⟨g4, g5⟩ := xl e4
  refine ⟨p0, p1, p2, p3, p4, rfl, by have := Jdb e0; omega, by rw [hn]; exact ⟨rfl, rfl, rfl, hu⟩, trivial, by omega, by omega, fun z hz => Jtu (g5 z hz)⟩
theorem J13 {gv : Vl} {ya yb yc yd : Nat} {ybits : List Bool} {ypb : Pl} {ypi : Pl} {ypick : Int} (h : Ku gv QU = 0) (e : Xh (.mk ya yb yc yd ybits ypb yitems ypi ypick) = gv) : (yitems.length : Int) ≤ 32 ∧ ∀ y ∈ yitems, Ku y acT = 0 := by
 rw [← e, Jcz] at h; exact xl h
theorem qS (v : Vl) : (Xh v).items = v.items.map Xh := by obtain ⟨a, b, c, d, bits, pb, items, pi, pick⟩ := v; rw [Qs, Wr]; rfl
theorem Jih (v : Vl) : (Xh v).num = v.num := by obtain ⟨a, b, c, d, bits, pb, items, pi, pick⟩ := v; rw [Qs]; rfl
theorem Jdc (v : Vl) : ZD (Xh v) = ZD v := by
 unfold ZD; rw [qS, List.map_map]; exact List.map_congr_left fun x _ => by show UInt8.ofNat ((Xh x).num.getD 0 0) = _; rw [Jih]
theorem v0_er : Xh v0L = v0L := by unfold v0L; rw [Qs, YN]
theorem Zw (v : Vl) (i : Nat) : qN (Xh v) i = Xh (qN v i) := by
 unfold qN
 rw [qS, List.getD_eq_getElem?_getD, List.getD_eq_getElem?_getD, List.getElem?_map]
 cases v.items[i]? with
 | none => exact v0_er.symm
 | some x => rfl
theorem Jxl (v : Vl) : Yg (Xh v) = Yg v := by unfold Yg; rw [Zw, Zw, Jdc, Jdc]
theorem J0c (v : Vl) : acB (Xh v) = acB v := by
 unfold acB w4B
 rw [Zw, Zw, Zw, Zw, Zw, Jdc, Jdc, Jih, Jih, qS, List.map_map, show (Yg ∘ Xh) = Yg from funext Jxl]
theorem Jxm (v : Vl) : vI (Xh v) = vI v := by unfold vI; rw [qS, List.map_map, show (acB ∘ Xh) = acB from funext J0c]
theorem Jtv {l : List Vl} {a : Nat} {bits : List Bool} {k0 k1 : Vl} {pick : Int} {cs : List Value} (h : l[j]? = some (.mk a b c d bits pb [k0, k1] pi pick)) (hc : cs = [Jy (ZD k0), Jy (ZD k1)]) : wq ((l.take j).map Yg) ++ cs = wq ((l.take (j + 1)).map Yg) := by
 rw [KJ h, List.map_append, hc]; unfold wq; rw [List.flatMap_append]; rfl
theorem yh (v : Vl) : (ZD v).length = v.items.length := by unfold ZD; rw [List.length_map]
theorem J0d {E S : Jp} {p0a p0b p0c p0d p3a p3b p3c p3d : Nat} {p0bi p3bi : List Bool} {p0pb p0pi p3pb p3pi p : Pl} {p0it p3it zs : List Vl} {p0pk p3pk : Int} {n : Nat} {w : W4} (hin : ∀ a ∈ acs, AcL.In E a) (hs : Seg S (zs.map Yg).length (wq (zs.map Yg)) p) (h0 : p0it.length = 20) (h3 : p3it.length ≤ 512) (hz : zs.length ≤ 16) (hn : XD n) (hw : w.ok) (hzz : ∀ z ∈ zs, ∃ k0 k1, z.items = [k0, k1] ∧ k0.items.length = 32 ∧ k1.items.length = 32) {q : AcL}
  (hq : q ∈ acs ++ [(⟨ZD (.mk p0a p0b p0c p0d p0bi p0pb p0it p0pi p0pk), n, w, ZD (.mk p3a p3b p3c p3d p3bi p3pb p3it p3pi p3pk), zs.map Yg, p⟩ : AcL)]) : AcL.In (S ++ E) q := by
 rcases List.mem_append.1 hq with hq | hq
 ·exact (hin q hq).mono fun p hp => List.mem_append_right _ hp
 ·rw [List.mem_singleton.1 hq]
  refine ⟨?_, hn, hw, ?_, ?_, hs.mono fun p hp => List.mem_append_left _ hp, fun x hx => ?_⟩
  ·show (ZD _).length ≤ Xn; rw [yh]; show p0it.length ≤ Xn; unfold Xn; omega
  ·show (ZD _).length ≤ Xn; rw [yh]; show p3it.length ≤ Xn; unfold Xn; omega
  ·show (zs.map Yg).length ≤ Xn; rw [List.length_map]; unfold Xn; omega
  ·obtain ⟨z, hz, rfl⟩ := List.mem_map.1 hx
   obtain ⟨k0, k1, e, e0, e1⟩ := hzz z hz
   have f0 : qN z 0 = k0 := by unfold qN; rw [e]; rfl
   have f1 : qN z 1 = k1 := by unfold qN; rw [e]; rfl
   unfold Yg
   rw [f0, f1]; exact ⟨by show (ZD k0).length ≤ Xn; rw [yh]; unfold Xn; omega, by show (ZD k1).length ≤ Xn; rw [yh]; unfold Xn; omega⟩
theorem J0e  {zs : List Vl} {xa xb xc xd : Nat} {xbits : List Bool} {xpb xpi p p1pb p1pi p2pb p2pi p4pb p4pi : Pl} {xpick p1pk p2pk p4pk : Int} {P0 P3 : Vl} {n ba bb bc bd p4a p4b p4c p4d n1 n2 n3 : Nat} {p1bi p2bi p4bi : List Bool} {p1it p2it : List Vl} (her : acs.map AcL.er = (yitems.take i).map acB)
  (hx : yitems[i]? = some (.mk xa xb xc xd xbits xpb [P0, .mk n n1 n2 n3 p1bi p1pb p1it p1pi p1pk, .mk ba bb bc bd p2bi p2pb p2it p2pi p2pk, P3, .mk p4a p4b p4c p4d p4bi p4pb zs p4pi p4pk] xpi xpick)) :
  (acs ++ [(⟨ZD P0, n, ⟨ba, bb, bc, bd⟩, ZD P3, zs.map Yg, p⟩ : AcL)]).map AcL.er = (yitems.take (i + 1)).map acB := by
 rw [List.map_append, her, KJ hx, List.map_append]; rfl
theorem J0f {E : Jp} (h : rowOk 8 acs.length (jJ acs) row) (hl : acs.length ≤ 100000) (hin : ∀ a ∈ acs, AcL.In E a) : StL.In (JJ e (jJ acs) row ++ E) ⟨acs, Qv row⟩ :=
 ⟨by show acs.length ≤ Xn; unfold Xn; omega, (Ke h m7).mono fun q hq => List.mem_append_left _ hq, fun a ha => (hin a ha).mono fun q hq => List.mem_append_right _ hq⟩
theorem Jtw (t : TR T) (s : BS) : getR t.x s = getR T s := by obtain ⟨x, L, ok, rfl⟩ := t; rw [Jsw]
theorem Jtx (h : (getR QU s).2 = 0) : Ku (getR QU s).1 QU = 0 := by
 unfold getR at h ⊢
 rw [if_neg (by rw [qM]; decide)] at h ⊢
 by_cases h1 : 65536 < s.length
 ·rw [if_pos h1] at h; cases h
 ·rw [if_neg h1] at h ⊢
  exact (Jwk QU 0 qM s _ m0 (Prod.ext rfl h)).1
open Classical in
theorem J0g (b c : α) (Y T : List α) : (b :: (Y ++ (T ++ [c]))).Perm (b :: c :: (Y ++ T)) := by
 rw [List.perm_iff_count]; intro x; simp only [List.count_append, List.count_cons, List.count_nil]; omega
open Classical in
theorem Jdd (M S W : List α) : (M ++ (S ++ W)).Perm (S ++ (M ++ W)) := by
 exact EL
open Classical in
theorem J0h (M S V W : List α) : (M ++ (S ++ (V ++ W))).Perm (V ++ (M ++ (S ++ W))) := by
 exact EL
open Classical in
theorem J0i (r : α) (P M W : List α) : (r :: (P ++ (M ++ W))).Perm (P ++ (M ++ (r :: W))) := by
 exact kd
open Classical in
theorem J0j (r a b : α) (M S E W : List α) : (r :: a :: b :: (M ++ (S ++ (E ++ W)))).Perm (a :: b :: (M ++ (r :: ((S ++ E) ++ W)))) := by
 exact kd
set_option maxHeartbeats 4000000 in
theorem Jnp (s : BS) : PureT (α := StRes [] (ji s)) Tryz.prog 31 [Jy s].toArray (fun x => x.val) [] (fun x => x.L) [] := by
 have hgt : ∀ t : TR QU, PureT (α := VR (getR QU s).1) Tryz.prog 60 [t.x.val, Jy s].toArray (fun y => .tuple #[y.x.val, .int .i64 (getR QU s).2]) [] (fun y => y.L) t.L := fun t => by
  have := J1t t.ok s
  rw [Jtw t s] at this; exact this
 have hfit := Jtx (s := s)
 have hPa : (getR QU s).2 ≠ 0 → ji s = ([], (getR QU s).2) := fun h => by unfold ji; rw [if_pos h]
 have hPb : (getR QU s).2 = 0 → Qn (vI (getR QU s).1) ≠ 0 → ji s = ([], Qn (vI (getR QU s).1)) := fun h h2 => by unfold ji; rw [if_neg m0, if_pos h2]
 have hPc : (getR QU s).2 = 0 → Qn (vI (getR QU s).1) = 0 → ji s = (vI (getR QU s).1, 0) := fun h h2 => by unfold ji; rw [if_neg m0, if_neg m0]
 generalize (getR QU s).1 = gv at hgt hfit hPa hPb hPc
 generalize (getR QU s).2 = ge at hgt hfit hPa hPb hPc
 refine JE Tryz.func31 rfl rfl fun w => Nl fun r1 => ?_; refine kB ?_; refine Qu rfl rfl rfl Jzb (Jcu) oN fun t => Vb rfl (Qu rfl rfl rfl (enters_of Tryz.func60 m5 rfl) (hgt t) (fun q hq => .inl (List.mem_append_left _ hq)) fun y => ?_)
 obtain ⟨⟨ya, yb, yc, yd, ybits, ypb, yitems, ypi, ypick⟩, yL, yok, yer⟩ := y
 refine GK ?_; refine LN rfl fun r2 => KR (J0g ..) ?_
 refine kq ?_; refine DE ?_; refine cD (fun g => ?_) fun g => ?_
 refine kj ?_; refine Hl ?_; refine DL ?_
 refine Eo ?_; refine gt ?_; refine Jn rfl rfl (.cons (J4 (vs := [_]) rfl (kn 1 rfl) rfl rfl) (.cons (Jx rfl) .nil)) (fun w1 hs1 => ?_); exact ⟨⟨st0L, ge, [], yR, by rw [hPa m9]; rfl⟩, rfl, hs1.weakL (List.nil_sublist _)⟩
 ·refine Da ?_
  have hge : ge = 0 := by assumption
  have hyfit := J13 (hfit hge) yer
  have hsY : Seg yL yitems.length (KL yitems) ypi := Jda yok
  obtain ⟨hy32, hyf⟩ := hyfit
  have hyin := yok.sub
  have hby : vI gv = yitems.map acB := by rw [← yer]; exact Jxm _
  refine Dq ?_; refine LN rfl fun r3 => XO 7 [1] rfl rfl (LR rfl (Jl rfl hsY rfl) (G5 ?_)); refine Js (σ := Nat × List AcL × Vn × Jp) (fun q => q.1 ≤ yitems.length ∧ rowOk 8 q.1 (jJ q.2.1) q.2.2.1 ∧ (∀ a ∈ q.2.1, AcL.In q.2.2.2 a) ∧ q.2.1.map AcL.er = (yitems.take q.1).map acB) (fun q => [(2, Vk r1), (6, Vk r3), (26, KE yitems.length ypi), (27, .int .i64 (yitems.length : Int)), (28, .int .i64 (q.1 : Int))]) (fun q => (r3, .cells #[J3 q.1 q.2.2.1] 24 (0, 0)) :: (r2, .cells #[uV ya, uV yb, uV yc, uV yd, KE ybits.length ypb, KE yitems.length ypi, .int .i64 ypick] 81 (0, 0)) :: (r1, .cells #[.slice none 0 0] 24 (0, 0)) :: (JJ 34 (jJ q.2.1) q.2.2.1 ++ (q.2.2.2 ++ yL))) (fun _ _ _ => True) (fun q => yitems.length - q.1) (0, [], none, []) ⟨Nat.zero_le _, ⟨rfl, rfl⟩, fun x hx => (nomatch hx), rfl⟩ (lK rfl) (by simp only [JJ, List.nil_append]; exact .cons_cons _ (.cons_cons _ (.cons_cons _ (List.sublist_append_left _ _)))) (fun _ _ h => h) ?_; rintro ⟨i, acs, row, E⟩ ⟨hi1, hrow, hin, her⟩; simp only at hi1 hrow hin her; refine NK ?_; refine cD (fun g => ?_) fun g => ?_
  ·refine gr ?_
   obtain ⟨x, hx, hxm⟩ := QN (show i < yitems.length by omega)
   obtain ⟨p0, p1, p2, p3, p4, hxi, hp0, hp1, hp2, hp3, hp4⟩ := Jxk (hyin x hxm) (hyf x hxm)
   obtain ⟨xa, xb, xc, xd, xbits, xpb, xitems, xpi, xpick⟩ := x
   change xitems = _ at hxi; subst hxi
   have hxin : Vl.In yL _ := hyin _ hxm
   have hsx : Seg yL _ (KL _) xpi := Jda hxin
   have hpi0 := hxin.sub p0 mh
   have hpi1 := hxin.sub p1 mh
   have hpi2 := hxin.sub p2 mh
   have hpi3 := hxin.sub p3 mh
   have hpi4 := hxin.sub p4 mh
   obtain ⟨p0a, p0b, p0c, p0d, p0bi, p0pb, p0it, p0pi, p0pk⟩ := p0
   obtain ⟨p1a, p1b, p1c, p1d, p1bi, p1pb, p1it, p1pi, p1pk⟩ := p1
   obtain ⟨p2a, p2b, p2c, p2d, p2bi, p2pb, p2it, p2pi, p2pk⟩ := p2
   obtain ⟨p3a, p3b, p3c, p3d, p3bi, p3pb, p3it, p3pi, p3pk⟩ := p3
   obtain ⟨p4a, p4b, p4c, p4d, p4bi, p4pb, p4it, p4pi, p4pk⟩ := p4
   obtain ⟨hq0, hq1, hq2, hq3⟩ : p1b = 0 ∧ p1c = 0 ∧ p1d = 0 ∧ XD p1a := hp1
   subst hq0 hq1 hq2
   obtain ⟨hz16, hzz⟩ := hp4
   change p4it.length ≤ 16 at hz16
   have hsz : Seg yL p4it.length (KL p4it) p4pi := Jda hpi4
   change p0it.length = 20 at hp0; change p3it.length ≤ 512 at hp3
   have hba : W4.ok ⟨p2a, p2b, p2c, p2d⟩ := Jyi hpi2
   refine Dq ?_; refine LR rfl (Jf (j := i) rfl hsY rfl rfl rfl rfl m0) (LR rfl (KV (fun q hq => .inl mm) rfl hsY hx rfl rfl) (LN rfl fun r4 => ?_))
   refine kq ?_; refine XO 6 [0] rfl rfl (LR rfl (Jf (j := 1) rfl hsx rfl rfl rfl rfl mH) (LR rfl (JW (off' := YC xpi + 7) rfl rfl (by show YC xpi + 1 * 7 + 0 = _; omega)) (LR rfl (XC (j := 7) (vs := [uV p1a, uV 0, uV 0, uV 0]) (fun q hq => .inl mm) rfl hsx (Nat.le_of_ble_eq_true rfl) rfl rfl rfl rfl) (J2 rfl rfl rfl (enters_of Tryz.func61 m5 rfl) (Jb3 (l := [p1a, 0, 0, 0]) (Jq6 hq3)) (Jj ((Jxj p1a)) (JP 8 rfl ?_))))))
   refine JD [(r4, .cells #[uV xa, uV xb, uV xc, uV xd, KE xbits.length xpb, KE 5 xpi, .int .i64 xpick] 81 (0, 0))] [(0, .pure), (1, .pure), (2, .pure), (5, .pure), (6, .pure), (7, .pure), (8, .pure), (9, .pure), (11, .pure), (12, .pure), (13, .pure), (16, .pure), (17, .grow (VS xo (.cells #[.string ⟨#[]⟩, .int .u64 0, .int .u64 0, .int .u64 0, .int .u64 0, .int .u64 0, .string ⟨#[]⟩, .slice none 0 0] 34 (0, 0))))] 18 [0, 1, 2, 3, 4, 5, 6, 7, 8, 9, 10, 11, 12, 13, 14, 15, 16, 17] m5 m5 m6 ?_
   refine Ed ?_; refine Jk (k := 2) rfl rfl rfl rfl rfl (fun _ _ => Jf (j := 0) rfl hsx rfl rfl rfl rfl mH) (JY (k := 3) rfl rfl rfl rfl rfl (KV (fun q hq => .inl mm) rfl hsx rfl rfl rfl) (JU (k := 4) (Rl := yL) rfl rfl rfl rfl rfl Jvf (Jwx hpi0 (by show _ ≤ 100000; show p0it.length ≤ 100000; omega)) (fun q hq => .inl mm) (Jk (k := 5) rfl rfl rfl rfl rfl (fun _ hS => (Jg rfl)) ?_)))
   refine Jk (k := 6) rfl rfl rfl rfl rfl (fun _ hS => (Jw rfl rfl rfl)) (Jk (k := 7) rfl rfl rfl rfl rfl (fun _ hS => (Jd rfl (.inl (hS _ (Kh (n := 0) rfl))) rfl rfl)) (Jk (k := 8) rfl rfl rfl rfl rfl (fun _ _ => Jf (j := 2) rfl hsx rfl rfl rfl rfl mH) (Jk (k := 9) rfl rfl rfl rfl rfl (fun _ _ => JW (off' := YC xpi + 14) rfl rfl (by show YC xpi + 2 * 7 + 0 = _; omega)) (JY (k := 10) rfl rfl rfl rfl rfl (XC (j := 14) (vs := [uV p2a, uV p2b, uV p2c, uV p2d]) (fun q hq => .inl mm) rfl hsx (Nat.le_of_ble_eq_true rfl) rfl rfl rfl rfl) ?_))))
   refine Jk (k := 11) rfl rfl rfl rfl rfl (fun _ hS => (Jw rfl rfl rfl)) (Jk (k := 12) rfl rfl rfl rfl rfl (fun _ hS => (Jd rfl (.inl (hS _ (Kh (n := 0) rfl))) rfl rfl)) (Jk (k := 13) rfl rfl rfl rfl rfl (fun _ _ => Jf (j := 3) rfl hsx rfl rfl rfl rfl mH) (JY (k := 14) rfl rfl rfl rfl rfl (KV (fun q hq => .inl mm) rfl hsx rfl rfl rfl) (JU (k := 15) (Rl := yL) rfl rfl rfl rfl rfl Jvf (Jwx hpi3 (by show _ ≤ 100000; show p3it.length ≤ 100000; omega)) (fun q hq => .inl mm) (Jk (k := 16) rfl rfl rfl rfl rfl (fun _ hS => (J5 (r := [_, _, _, _, _, _, _, _]) rfl rfl)) (XU (k := 17) (cs := #[_, _, _, _, _, _, _, _]) rfl rfl rfl rfl rfl rfl fun r5 => Kc ?_))))))
   refine kq ?_; refine XO 7 [1] rfl rfl (LR rfl (Jf (j := 4) rfl hsx rfl rfl rfl rfl mH) (LR rfl (JW (off' := YC xpi + 33) rfl rfl (by show YC xpi + 4 * 7 + 5 = _; omega)) (LR rfl (ZK (j := 33) (v := KE p4it.length p4pi) (fun q hq => .inl mm) rfl hsx (Nat.le_of_ble_eq_true rfl) rfl rfl) (LR rfl (Jl rfl hsz rfl) (G5 ?_))))); refine Js (σ := Nat × Vn) (fun q => q.1 ≤ p4it.length ∧ rowOk 2 q.1 (wq ((p4it.take q.1).map Yg)) q.2) (fun q => [(2, Vk r1), (6, Vk r3), (11, Vk r5), (26, KE yitems.length ypi), (27, .int .i64 (yitems.length : Int)), (28, .int .i64 (i : Int)), (62, KE p4it.length p4pi), (63, .int .i64 (p4it.length : Int)), (64, .int .i64 (q.1 : Int))]) (fun q => (r5, .cells #[Jy (ZD (.mk p0a p0b p0c p0d p0bi p0pb p0it p0pi p0pk)), uV p1a, uV p2a, uV p2b, uV p2c, uV p2d, Jy (ZD (.mk p3a p3b p3c p3d p3bi p3pb p3it p3pi p3pk)), J3 q.1 q.2] 34 (0, 0)) :: (r3, .cells #[J3 i row] 24 (0, 0)) :: (r2, .cells #[uV ya, uV yb, uV yc, uV yd, KE ybits.length ypb, KE yitems.length ypi, .int .i64 ypick] 81 (0, 0)) :: (r1, .cells #[.slice none 0 0] 24 (0, 0)) :: (JJ 59 (wq ((p4it.take q.1).map Yg)) q.2 ++ (JJ 34 (jJ acs) row ++ (E ++ yL)))) (fun _ _ _ => True) (fun q => p4it.length - q.1) (0, none) ⟨Nat.zero_le _, ⟨rfl, rfl⟩⟩ (lK rfl) (by simp only [JJ, List.nil_append]; exact .cons_cons _ (.cons _ (List.Sublist.refl _))) (fun _ _ h => h) ?_; rintro ⟨j, rw2⟩ ⟨hj1, hrow2⟩; simp only at hj1 hrow2; refine NK ?_; refine cD (fun g => ?_) fun g => ?_
   ·refine gr ?_
    obtain ⟨z, hz, hzm⟩ := QN (show j < p4it.length by omega)
    obtain ⟨k0, k1, hzi, hk0, hk1⟩ := hzz z hzm
    obtain ⟨za, zb, zc, zd, zbits, zpb, zitems, zpi, zpick⟩ := z
    change zitems = _ at hzi; subst hzi
    have hzin : Vl.In yL _ := hpi4.sub _ hzm
    have hsq : Seg yL _ (KL _) zpi := Jda hzin
    have hki0 := hzin.sub k0 mh
    have hki1 := hzin.sub k1 mh
    refine Dq ?_; refine LR rfl (Jf (j := j) rfl hsz rfl rfl rfl rfl m0) (LR rfl (KV (fun q hq => .inl mm) rfl hsz hz rfl rfl) (LN rfl fun r6 => ?_))
    refine kq ?_; refine HY ?_
    refine JD [(r5, .cells #[Jy (ZD (.mk p0a p0b p0c p0d p0bi p0pb p0it p0pi p0pk)), uV p1a, uV p2a, uV p2b, uV p2c, uV p2d, Jy (ZD (.mk p3a p3b p3c p3d p3bi p3pb p3it p3pi p3pk)), J3 j rw2] 34 (0, 0)), (r6, .cells #[uV za, uV zb, uV zc, uV zd, KE zbits.length zpb, KE 2 zpi, .int .i64 zpick] 81 (0, 0))] [(0, .pure), (1, .pure), (2, .pure), (3, .pure), (4, .pure), (7, .pure), (8, .pure), (9, .pure), (12, .pure), (13, .grow (VS (slV 1) (.cells #[Jy (ZD k0), Jy (ZD k1)] 59 (0, 0))))] 14 [0, 1, 2, 3, 4, 5, 6, 7, 8, 9, 10, 11, 12, 13] m5 m5 m6 ?_
    refine NV ?_; refine Ny ?_; refine Jk (k := 4) rfl rfl rfl rfl rfl (fun _ _ => Jf (j := 0) rfl hsq rfl rfl rfl rfl mH) (JY (k := 5) rfl rfl rfl rfl rfl (KV (fun q hq => .inl mm) rfl hsq rfl rfl rfl) (JU (k := 6) (Rl := yL) rfl rfl rfl rfl rfl Jvf (Jwx hki0 (by show _ ≤ 100000; omega)) (fun q hq => .inl mm) ?_))
    refine Eb ?_; refine Jk (k := 9) rfl rfl rfl rfl rfl (fun _ _ => Jf (j := 1) rfl hsq rfl rfl rfl rfl mH) (JY (k := 10) rfl rfl rfl rfl rfl (KV (fun q hq => .inl mm) rfl hsq rfl rfl rfl) (JU (k := 11) (Rl := yL) rfl rfl rfl rfl rfl Jvf (Jwx hki1 (by show _ ≤ 100000; omega)) (fun q hq => .inl mm) (Jk (k := 12) rfl rfl rfl rfl rfl (fun _ hS => (J5 (r := [_, _]) rfl rfl)) (QS (k := 13) (n := 1) (sz := 2) (vs := [_]) (zs := [_, _]) (r := [Jy (ZD k0), Jy (ZD k1)]) rfl rfl rfl rfl rfl rfl rfl rfl rfl rfl rfl ms rfl fun rc => Kc (KR (Jdd (M := [_, _, _, _, _, _]) ..) (JB (L0 := _) (xs := wq ((p4it.take j).map Yg)) (row := rw2) (n := j) (sz := 2) (b := 32) (news := [_, _]) (List.Perm.refl _) rfl rfl rfl rfl (kn 0 rfl) rfl rfl rfl rfl rfl m7 rfl rfl rfl m7 hrow2 m0 m0 fun ra cap sp hra => ?_))))))
    refine LS 1 [] rfl rfl (Ky (k := 3) (cs' := #[Jy (ZD (.mk p0a p0b p0c p0d p0bi p0pb p0it p0pi p0pk)), uV p1a, uV p2a, uV p2b, uV p2c, uV p2d, Jy (ZD (.mk p3a p3b p3c p3d p3bi p3pb p3it p3pi p3pk)), J3 (j + 1) (some (ra, cap, sp))]) rfl rfl rfl rfl rfl rfl rfl rfl rfl rfl (kB ?_)); refine Jj mY (HG ?_); rw [Jtv hz rfl] at hra ⊢; refine WM (J0i (P := [_, _]) (M := [_, _, _, _]) ..) ?_; exact Jm (j + 1, some (ra, cap, sp)) ⟨by simp only; omega, hra⟩ ml (lK rfl) (.cons _ (.cons _ (List.Sublist.refl _))) (fun _ _ h => h)
   ·refine gr ?_
    obtain rfl : j = p4it.length := by omega
    rw [List.take_length] at hrow2 ⊢
    have hvr2 : J3 p4it.length rw2 = KE (p4it.map Yg).length (Qv rw2) := by rw [List.length_map]; exact (Vw _ _ (fun h => by rw [h] at hrow2; exact hrow2.1)).symm
    rw [hvr2]; rw [show p4it.length = (p4it.map Yg).length by rw [List.length_map]] at hrow2; refine QZ 4 [1, 0] rfl rfl (J8 (vs := [_]) (zs := [_, _, _, _, _, _, _, _]) (r := [_, _, _, _, _, _, _, _]) rfl rfl rfl rfl rfl rfl rfl rfl rfl ms rfl fun r7 => KR (J0h (M := [_, _, _, _, _]) ..) (JB (L0 := _) (xs := jJ acs) (row := row) (n := i) (sz := 8) (b := 96) (news := [_, _, _, _, _, _, _, _]) (List.Perm.refl _) rfl rfl rfl rfl (kn 0 rfl) rfl rfl rfl rfl rfl m7 rfl rfl rfl m7 hrow m0 m0 fun ra cap sp hra => ?_))
    refine LS 1 [] rfl rfl (Ky (k := 3) (cs' := #[J3 (i + 1) (some (ra, cap, sp))]) rfl rfl rfl rfl rfl rfl rfl rfl rfl rfl (kB ?_)); refine ND ?_
    have hvc : jJ acs ++ AcL.cells (⟨ZD (.mk p0a p0b p0c p0d p0bi p0pb p0it p0pi p0pk), p1a, ⟨p2a, p2b, p2c, p2d⟩, ZD (.mk p3a p3b p3c p3d p3bi p3pb p3it p3pi p3pk), p4it.map Yg, Qv rw2⟩ : AcL) = jJ (acs ++ [(⟨ZD (.mk p0a p0b p0c p0d p0bi p0pb p0it p0pi p0pk), p1a, ⟨p2a, p2b, p2c, p2d⟩, ZD (.mk p3a p3b p3c p3d p3bi p3pb p3it p3pi p3pk), p4it.map Yg, Qv rw2⟩ : AcL)]) := by unfold jJ; rw [List.flatMap_append]; simp
    refine WM (J0j (M := [_, _, _]) ..) ?_; exact Jm (i + 1, acs ++ [(⟨ZD (.mk p0a p0b p0c p0d p0bi p0pb p0it p0pi p0pk), p1a, ⟨p2a, p2b, p2c, p2d⟩, ZD (.mk p3a p3b p3c p3d p3bi p3pb p3it p3pi p3pk), p4it.map Yg, Qv rw2⟩ : AcL)], some (ra, cap, sp), JJ 59 (wq (p4it.map Yg)) rw2 ++ E) ⟨by simp only; omega, by simp only; rw [← hvc]; exact hra, fun z hz => J0d hin (Ke hrow2 m7) hp0 hp3 hz16 hq3 hba hzz hz, J0e her hx⟩ ml (lK rfl) nI (fun _ _ h => h)
  ·refine E3 ?_
   have hiM : i = yitems.length := by omega
   have hvl : acs.length = i := by have := congrArg List.length her; simp at this; omega
   rw [hiM, List.take_length] at her
   have hvr : J3 i row = KE acs.length (Qv row) := by rw [← hvl]; exact (Vw _ _ (fun h => by rw [h] at hrow; rw [hvl]; exact hrow.1)).symm
   rw [hvr]; rw [← hvl] at hrow
   have hsin : StL.In (JJ 34 (jJ acs) row ++ E) ⟨acs, Qv row⟩ := J0f hrow m0 hin
   have hck : Qn (StL.er ⟨acs, Qv row⟩) = Qn (vI gv) := by show Qn (acs.map AcL.er) = _; rw [her, ← hby]
   refine Dq ?_; refine gU ?_
   refine Jc (Rl := JJ 34 (jJ acs) row ++ E) rfl rfl rfl Jml (XJ (s := ⟨acs, Qv row⟩) hsin) (fun q hq => .inl nc) (Jj (congrArg (Value.int .i64) hck) ?_); generalize hcz : Qn (vI gv) = ck at *; refine HN ?_; refine cD (fun g => ?_) fun g => ?_
   refine kj ?_; refine Hl ?_; refine DL ?_
   refine LT 2 rfl rfl (gt ?_); refine Jn rfl rfl (.cons (J4 (vs := [_]) rfl (kn 2 rfl) rfl rfl) (.cons (Jx rfl) .nil)) (fun w1 hs1 => ?_); exact ⟨⟨st0L, ck, [], yR, by rw [hPb hge m9]; rfl⟩, rfl, hs1.weakL (List.nil_sublist _)⟩
   ·refine GO ?_; refine gU ?_
    refine LT 2 rfl rfl (Ge ?_); refine Jn rfl rfl (.cons (J4 (vs := [_]) rfl (kn 2 rfl) rfl rfl) (.cons (Jx rfl) .nil)) (fun w1 hs1 => ?_); exact ⟨⟨⟨acs, Qv row⟩, 0, JJ 34 (jJ acs) row ++ E, by simpa using hsin, by rw [hPc hge m9]; show (acs.map AcL.er, _) = _; rw [her, ← hby]⟩, rfl, hs1.weakL (.cons _ (.cons _ (.cons _ ((List.Sublist.refl _).append (List.sublist_append_left _ _)))))⟩
def Wg : BS := List.replicate 32 0
def jk : BS := List.replicate 31 0 ++ [7]
def a0W : AcE := ⟨List.replicate 20 0, 1, ⟨5, 0, 0, 0⟩, [99], []⟩
def qT : AcE := ⟨List.replicate 20 0, 1, ⟨5, 0, 0, 0⟩, [99], [(Wg, jk)]⟩
theorem J3c : yO a0W Wg jk = (qT, 0) := by decide +kernel
theorem J3d : Juv [] qT = ([qT], 0) := by decide +kernel
theorem J14 : (VI [qT]).2 = 0 ∧ (VI [qT]).1.length = 137 := by decide +kernel
theorem J3e : VI [] = ([], 0) := by decide +kernel
theorem J3f : ji (VI [qT]).1 = ([qT], 0) := by decide +kernel
theorem J3g : yO qT Wg Wg = (a0W, 0) := by decide +kernel
theorem J15 : QB qT Wg = jk ∧ QB a0W Wg = Wg := by decide +kernel
theorem J0k : Qn [qT] = 0 ∧ Qn [ac0] = 2 := by decide +kernel
theorem J3h : Wc [qT] a0W.addr = some qT := by decide +kernel
theorem J16 : Vc QU (WP []) = 0 ∧ Vc QU (WP [qT]) = 0 := by decide +kernel
def Q1 : BS := [173, 50, 40, 182, 118, 247, 211, 205, 66, 132, 165, 68, 63, 23, 241, 150, 43, 54, 228, 145, 179, 10, 64, 178, 64, 88, 73, 229, 151, 186, 95, 181]
def Q2 : BS := [180, 193, 25, 81, 149, 124, 111, 143, 100, 44, 74, 246, 28, 214, 178, 70, 64, 254, 198, 220, 127, 198, 7, 238, 130, 6, 169, 158, 146, 65, 13, 48]
def Q3 : BS := [33, 221, 185, 163, 86, 129, 92, 63, 172, 16, 38, 182, 222, 197, 223, 49, 36, 175, 186, 219, 72, 92, 155, 165, 163, 227, 57, 138, 4, 183, 186, 133]
def Q4 : BS := [229, 135, 105, 179, 42, 27, 234, 241, 234, 39, 55, 90, 68, 9, 90, 13, 31, 182, 100, 206, 45, 211, 88, 231, 252, 191, 183, 140, 38, 161, 147, 68]
def Q5 : BS := [14, 176, 30, 191, 201, 237, 39, 80, 12, 212, 223, 201, 121, 39, 45, 31, 9, 19, 204, 159, 102, 84, 13, 126, 128, 5, 129, 17, 9, 225, 207, 45]
def Q6 : BS := [96, 77, 89, 36, 103, 234, 171, 101, 127, 86, 19, 141, 165, 3, 154, 226, 46, 200, 192, 119, 115, 164, 178, 43, 215, 43, 143, 81, 243, 38, 157, 220]
def P99 : BS := [99, 0, 0, 0, 0, 0, 0, 0, 0, 0, 0, 0, 0, 0, 0, 0, 0, 0, 0, 0, 0, 0, 0, 0, 0, 0, 0, 0, 0, 0, 0, 0]
def PK : BS := [0, 0, 0, 0, 0, 0, 0, 0, 0, 0, 0, 0, 0, 0, 0, 0, 0, 0, 0, 0, 0, 0, 0, 0, 0, 0, 0, 0, 0, 0, 0, 0]
def PV : BS := [0, 0, 0, 0, 0, 0, 0, 0, 0, 0, 0, 0, 0, 0, 0, 0, 0, 0, 0, 0, 0, 0, 0, 0, 0, 0, 0, 0, 0, 0, 0, 7]
def PA : BS := [0, 0, 0, 0, 0, 0, 0, 0, 0, 0, 0, 0, 0, 0, 0, 0, 0, 0, 0, 0, 0, 0, 0, 0, 0, 0, 0, 0, 0, 0, 0, 0]
def PN : BS := [1, 0, 0, 0, 0, 0, 0, 0, 0, 0, 0, 0, 0, 0, 0, 0, 0, 0, 0, 0, 0, 0, 0, 0, 0, 0, 0, 0, 0, 0, 0, 0]
def PB : BS := [5, 0, 0, 0, 0, 0, 0, 0, 0, 0, 0, 0, 0, 0, 0, 0, 0, 0, 0, 0, 0, 0, 0, 0, 0, 0, 0, 0, 0, 0, 0, 0]
def Q7 : BS := [128, 254, 150, 100, 183, 3, 234, 100, 255, 5, 28, 105, 143, 172, 232, 125, 162, 79, 15, 193, 202, 27, 191, 186, 36, 126, 5, 43, 158, 34, 177, 205]
def Q8 : BS := [12, 143, 253, 230, 89, 92, 177, 101, 195, 65, 172, 208, 17, 208, 134, 148, 105, 130, 245, 12, 127, 155, 223, 118, 245, 87, 156, 192, 149, 130, 164, 20]
def Q9 : BS := [231, 246, 47, 82, 53, 130, 220, 255, 58, 248, 170, 101, 254, 92, 10, 94, 129, 224, 115, 51, 214, 167, 236, 16, 87, 100, 76, 60, 193, 22, 77, 189]
def Q10 : BS := [62, 120, 232, 158, 100, 195, 92, 170, 194, 97, 28, 191, 252, 174, 252, 159, 248, 79, 56, 159, 46, 150, 149, 73, 15, 76, 171, 79, 8, 134, 182, 49]
def Q11 : BS := [159, 191, 115, 214, 144, 225, 62, 161, 22, 15, 4, 77, 135, 125, 79, 179, 121, 216, 64, 99, 137, 162, 186, 191, 199, 253, 71, 153, 77, 133, 6, 62]
def Q12 : BS := [109, 82, 87, 32, 78, 190, 125, 136, 253, 145, 174, 135, 148, 28, 178, 221, 157, 128, 98, 182, 74, 229, 162, 189, 45, 40, 236, 64, 185, 251, 246, 223]
def Q13 : BS := [219, 84, 93, 126, 90, 22, 97, 214, 219, 12, 175, 14, 24, 35, 121, 19, 96, 147, 115, 67, 116, 140, 18, 143, 200, 28, 219, 18, 126, 175, 208, 40]
def Q14 : BS := [23, 242, 83, 39, 154, 106, 105, 48, 122, 17, 49, 169, 103, 30, 223, 237, 241, 103, 177, 103, 204, 94, 81, 103, 51, 252, 125, 148, 139, 186, 173, 45]
def Q15 : BS := [52, 223, 211, 179, 13, 160, 50, 23, 248, 175, 8, 3, 182, 4, 200, 151, 161, 119, 191, 139, 113, 79, 167, 155, 96, 200, 79, 82, 8, 239, 145, 74]
def Q16 : BS := [186, 37, 126, 111, 240, 170, 21, 181, 16, 119, 161, 166, 87, 169, 48, 133, 3, 137, 27, 65, 143, 247, 91, 85, 73, 120, 43, 235, 92, 122, 96, 239]
def Q17 : BS := [180, 173, 121, 44, 79, 132, 42, 240, 211, 151, 148, 221, 8, 138, 131, 255, 77, 30, 250, 106, 90, 143, 30, 18, 161, 252, 51, 238, 73, 69, 76, 177]
def Q18 : BS := [84, 232, 13, 242, 58, 159, 134, 25, 68, 76, 175, 139, 251, 62, 114, 226, 64, 114, 104, 255, 38, 198, 163, 22, 62, 224, 158, 73, 64, 114, 159, 201]
def Q19 : BS := [115, 202, 162, 40, 166, 138, 128, 42, 134, 248, 234, 146, 132, 24, 105, 205, 223, 138, 177, 25, 35, 114, 55, 117, 208, 134, 150, 85, 151, 188, 191, 229]
def Q20 : BS := [180, 10, 97, 218, 138, 109, 67, 207, 163, 113, 133, 201, 96, 160, 57, 16, 63, 175, 109, 127, 187, 77, 142, 232, 170, 181, 195, 67, 58, 55, 225, 169]
def Q21 : BS := [253, 23, 46, 35, 170, 157, 49, 24, 12, 247, 30, 169, 0, 87, 50, 185, 216, 5, 140, 215, 36, 182, 139, 203, 0, 33, 239, 230, 200, 70, 39, 49]
def Q22 : BS := [244, 78, 169, 243, 102, 83, 141, 100, 144, 182, 111, 119, 6, 61, 2, 212, 232, 28, 167, 44, 206, 184, 74, 212, 24, 116, 209, 86, 62, 76, 252, 225]
def Q23 : BS := [9, 105, 40, 196, 205, 136, 217, 62, 206, 76, 176, 220, 112, 142, 1, 36, 83, 196, 135, 68, 65, 28, 63, 234, 254, 89, 74, 34, 119, 48, 210, 228]
def Q24 : BS := [88, 211, 15, 198, 238, 204, 186, 245, 5, 111, 150, 205, 215, 28, 56, 16, 233, 35, 194, 185, 183, 143, 241, 68, 99, 169, 24, 34, 58, 107, 231, 130]
def Q25 : BS := [181, 114, 115, 158, 66, 182, 22, 134, 105, 251, 139, 3, 221, 144, 86, 197, 8, 77, 55, 53, 110, 249, 221, 86, 58, 43, 248, 36, 64, 34, 148, 171]
def Q26 : BS := [52, 127, 120, 91, 102, 123, 138, 53, 132, 85, 67, 94, 157, 185, 194, 118, 141, 49, 10, 26, 63, 78, 145, 197, 145, 212, 176, 30, 206, 94, 6, 183]
def Q27 : BS := [135, 195, 149, 32, 136, 174, 247, 12, 19, 129, 47, 222, 135, 39, 233, 95, 192, 198, 12, 79, 85, 128, 196, 204, 132, 162, 119, 43, 49, 122, 252, 83]
def Q28 : BS := [204, 113, 241, 227, 0, 55, 44, 218, 77, 42, 78, 41, 79, 110, 129, 142, 159, 90, 155, 61, 22, 163, 210, 15, 17, 201, 135, 63, 61, 32, 192, 95]
def Q29 : BS := [211, 5, 113, 100, 174, 43, 94, 143, 48, 107, 194, 22, 250, 134, 93, 174, 214, 17, 81, 90, 35, 252, 254, 108, 57, 144, 147, 130, 70, 243, 107, 235]
theorem hq1 : WO (z32 ++ z32) = Q1 := by decide +kernel
theorem hq2 : WO (Q1 ++ Q1) = Q2 := by decide +kernel
theorem hq3 : WO (Q2 ++ Q2) = Q3 := by decide +kernel
theorem hq4 : WO (Q3 ++ Q3) = Q4 := by decide +kernel
theorem hq5 : WO (Q4 ++ Q4) = Q5 := by decide +kernel
theorem hq6 : XA Q5 0 = Q6 := by decide +kernel
theorem hq7 : WO (P99 ++ z32) = Q7 := by decide +kernel
theorem hq8 : WO (Q7 ++ Q1) = Q8 := by decide +kernel
theorem hq9 : WO (Q8 ++ Q2) = Q9 := by decide +kernel
theorem J3n : WO (Q9 ++ Q3) = Q10 := by decide +kernel
theorem J3o : XA Q10 1 = Q11 := by decide +kernel
theorem J3p : WO (PK ++ PV) = Q12 := by decide +kernel
theorem J3q : WO (Q12 ++ z32) = Q13 := by decide +kernel
theorem J3r : WO (Q13 ++ Q1) = Q14 := by decide +kernel
theorem J3s : WO (Q14 ++ Q2) = Q15 := by decide +kernel
theorem J3t : WO (Q15 ++ Q3) = Q16 := by decide +kernel
theorem J3u : XA Q16 1 = Q17 := by decide +kernel
theorem J3v : WO (PA ++ PN) = Q18 := by decide +kernel
theorem J3w : WO (PB ++ Q11) = Q19 := by decide +kernel
theorem J3x : WO (Q17 ++ z32) = Q20 := by decide +kernel
theorem J3y : WO (Q18 ++ Q19) = Q21 := by decide +kernel
theorem J3z : WO (Q20 ++ Q1) = Q22 := by decide +kernel
theorem J30 : WO (Q21 ++ Q22) = Q23 := by decide +kernel
theorem J31 : WO (Q23 ++ z32) = Q24 := by decide +kernel
theorem J32 : WO (Q24 ++ Q1) = Q25 := by decide +kernel
theorem J33 : WO (Q25 ++ Q2) = Q26 := by decide +kernel
theorem J34 : WO (Q26 ++ Q3) = Q27 := by decide +kernel
theorem J35 : WO (Q27 ++ Q4) = Q28 := by decide +kernel
theorem J36 : XA Q28 1 = Q29 := by decide +kernel
theorem YY (k : Nat) (a z : BS) : Wn (k + 1) [a] z = Wn k [WO (a ++ z)] (WO (z ++ z)) := rfl
theorem Jgg (k : Nat) (z : BS) : Wn (k + 1) [] z = Wn k [] (WO (z ++ z)) := rfl
theorem Jyj (k : Nat) (a b z : BS) : Wn (k + 1) [a, b] z = Wn k [WO (a ++ b)] (WO (z ++ z)) := by rw [Wn]; simp [QJ, SL.pairUp]
theorem J17 (k : Nat) (a b c z : BS) : Wn (k + 1) [a, b, c] z = Wn k [WO (a ++ b), WO (c ++ z)] (WO (z ++ z)) := by rw [Wn]; simp [QJ, SL.pairUp]
theorem J18 (k : Nat) (a b c d e z : BS) : Wn (k + 1) [a, b, c, d, e] z = Wn k [WO (a ++ b), WO (c ++ d), WO (e ++ z)] (WO (z ++ z)) := by rw [Wn]; simp [QJ, SL.pairUp]
theorem Jgh (a z : BS) : Wn 0 [a] z = a := rfl
theorem J19 (z : BS) : Wn 0 [] z = z := rfl
theorem Jty : KD (WP []) QU = Q6 := by
 have e1 : QR [] 32 = Q5 := by
  rw [← Zn m7, show lg 32 = 5 by decide +kernel, Jgg, hq1, Jgg, hq2, Jgg, hq3, Jgg, hq4, Jgg, hq5, J19]
 unfold WP KP QU
 rw [WK, if_neg m7, if_pos rfl]
 unfold VY
 rw [if_neg m7, if_neg N7]
 show XA (QR [] 32) 0 = _
 rw [e1, hq6]
theorem Jaw {l : List Vl} {n : Int} (hx : WI x = false) : KD (KP l 0) (.mk 4 n none [x]) = XA (QR (Kf l 4 0 [x] 0) n.toNat) l.length := by
 unfold KP
 rw [WK, if_neg m7, if_pos rfl]
 unfold VY
 rw [if_neg m7, if_neg (by rw [show [x].getD 0 default = x from rfl, hx]; decide)]
theorem Jgi {l : List Vl} {ins : List Ty} : KD (KP l 0) (.mk 7 0 none ins) = QR (Kf l 7 0 ins 0) ins.length := by
 unfold KP
 rw [WK, if_neg m7, if_neg m7, if_neg m7, if_neg m7, if_neg m7]
 unfold VY
 rw [if_pos rfl]
theorem Jnr : KD (wi [99]) (Xu 4 512) = Q11 := by
 have e1 : VY 4 512 [byT] [Zu 99] (Kf [Zu 99] 4 0 [byT] 0) = QR [P99] 16 := by
  unfold VY
  rw [if_neg m7, if_pos N7, show Wv (WJ [Zu 99] ([byT].getD 0 default)) = [P99] by decide +kernel, show ((512 : Int).toNat * (JV ([byT].getD 0 default)).toNat + 31) / 32 = 16 by decide +kernel]
 have e2 : QR [P99] 16 = Q10 := by
  rw [← Zn m7, show lg 16 = 4 by decide +kernel, YY, hq7, hq1, YY, hq8, hq2, YY, hq9, hq3, YY, J3n, hq4, Jgh]
 unfold wi KP Xu
 rw [WK, if_neg m7, if_pos rfl]
 show XA (VY 4 512 [byT] [Zu 99] (Kf [Zu 99] 4 0 [byT] 0)) 1 = _
 rw [e1, e2, J3o]
theorem Jtz : KD (wi Wg) (Xu 3 32) = PK := by decide +kernel
theorem Jt0 : KD (wi jk) (Xu 3 32) = PV := by decide +kernel
theorem Jt1 : KD (wi (List.replicate 20 0)) (Xu 3 20) = PA := by decide +kernel
theorem Jns : KD (jh (Wg, jk)) vF = Q12 := by
 unfold jh vF
 rw [Jgi]
 show QR [KD (wi Wg) (Xu 3 32), KD (wi jk) (Xu 3 32)] 2 = _
 rw [Jtz, Jt0, ← Zn m7, show lg 2 = 1 by decide +kernel, Jyj, J3p, Jgh]
theorem Jii : KD (KP [jh (Wg, jk)] 0) (.mk 4 16 none [vF]) = Q17 := by
 rw [Jaw N7]
 show XA (QR [KD (jh (Wg, jk)) vF] 16) 1 = _
 rw [Jns, ← Zn m7, show lg 16 = 4 by decide +kernel, YY, J3q, hq1, YY, J3r, hq2, YY, J3s, hq3, YY, J3t, hq4, Jgh, J3u]
theorem Jxn : KD (acV qT) acT = Q23 := by
 unfold acV acT
 rw [Jgi]
 show QR [KD (wi (List.replicate 20 0)) (Xu 3 20), KD (.mk 1 0 0 0 [] none [] none 0) (.mk 1 8 none []), KD (.mk 5 0 0 0 [] none [] none 0) (.mk 1 32 none []), KD (wi [99]) (Xu 4 512), KD (KP [jh (Wg, jk)] 0) (.mk 4 16 none [vF])] 5 = _
 rw [Jt1, Jnr, Jii, show KD (.mk 1 0 0 0 [] none [] none 0) (.mk 1 8 none []) = PN by decide +kernel, show KD (.mk 5 0 0 0 [] none [] none 0) (.mk 1 32 none []) = PB by decide +kernel, ← Zn m7, show lg 5 = 3 by decide +kernel, J18, J3v, J3w, J3x, hq1, J17, J3y, J3z, hq2, Jyj, J30, Jgh]
theorem Jt2 : KD (WP [qT]) QU = Q29 := by
 unfold WP QU
 rw [Jaw N7]
 show XA (QR [KD (acV qT) acT] 32) 1 = _
 rw [Jxn, ← Zn m7, show lg 32 = 5 by decide +kernel, YY, J31, hq1, YY, J32, hq2, YY, J33, hq3, YY, J34, hq4, YY, J35, hq5, Jgh, J36]
theorem J37 : Yw [] = (Q6, 0) := by rw [xh N7 J16.1, Jty]
theorem J38 : Yw [qT] = (Q29, 0) := by rw [xh J0k.1 J16.2, Jt2]
theorem J39 : Q6 ≠ Q29 := by decide +kernel
def xA : BS := List.replicate 20 0
def a0L : AcL := ⟨xA, 1, ⟨5, 0, 0, 0⟩, [99], [], none⟩
theorem Jt3 : a0L.In R := ⟨by decide, by unfold XD; decide, ⟨by unfold XD; decide, WQ, WQ, WQ⟩, by decide, by decide, rfl, by simp [a0L]⟩
theorem jl {a b : Bool} (h : a = b) : Value.bool a = .bool b := congrArg _ h
theorem J2a {a b : BS} (h : a ≠ b) : (!decide (a = b)) = true := by simp [h]
theorem Jt4 {n : Nat} (h : s.length = n) : Value.int .i64 (s.length : Int) = .int .i64 (n : Int) := by rw [h]
theorem Jxo (r : Nat) : StL.In [(r, Obj.cells ac0L.cells.toArray 34 (0, 0))] ⟨[ac0L], some (⟨r, 0, none⟩, 1)⟩ :=
 ⟨by show 1 ≤ Xn; decide, ⟨Nat.le_refl _, fun _ => ⟨rfl, _, _, _, List.mem_singleton_self _, rfl⟩⟩, fun a ha => by rw [List.mem_singleton.1 ha]; exact Jpa⟩
theorem J4a : wV (WP [qT]) ≤ 20000 := by decide +kernel
set_option maxHeartbeats 2000000 in
theorem Jnt : Pure Tryz.prog 11 #[] (.bool true) := by
 have k1 : yO a0L.er Wg jk = (qT, 0) := J3c
 have k2 := J3d
 have k3 : Wc [qT] xA = some qT := J3h
 have k4 := J4a
 have k5 := J3g
 have k6 := J15.1
 have k7 : QB a0L.er Wg = Wg := J15.2
 have k8 := J0k.1
 have k9 := J0k.2
 have hB := show VI [qT] = ((VI [qT]).1, 0) from Prod.ext rfl J14.1
 have htl := J14.2
 have hP := J3f
 have hE := J3e
 generalize (VI [qT]).1 = tb at hB htl hP
 have hR0 := J37
 have hR1 := J38
 have hne := J39
 have hrl : Q29.length = 32 := by decide
 generalize Q6 = ra at hR0 hne
 generalize Q29 = rb at hR1 hne hrl
 refine Jz Tryz.func11 rfl rfl fun w => JN (Jt 7 rfl (Wq (n := 32) (b := 1) rfl rfl rfl rfl rfl rfl rfl rfl rfl m7 m7 fun rk => ?_)); rw [show List.replicate 32 (Value.int .u8 0) = (Wg).map bV from rfl]; refine LR rfl (KB (b := Wg) (row := some (rk, 32, [])) (e := 5) (show _ = some (J3 (List.length Wg) _) from rfl) ⟨rfl, rfl⟩ (fun p hp => .inl mP) rfl rfl rfl) (G1 ?_); refine LR rfl (Vu (kl := some (.i64, 1)) (kh := none) (m := 1) (n := 32) rfl rfl rfl rfl rfl rfl m7 m7 (show _ = List.replicate 31 0 from rfl)) (LR rfl (Qc (a := List.replicate 31 0) (b := [7]) rfl rfl m7) (Jj (show _ = Jy jk from rfl) (kB ?_))); refine Wq (n := 20) (b := 1) rfl rfl rfl rfl rfl rfl rfl rfl rfl m7 m7 fun rz => ?_; rw [show List.replicate 20 (Value.int .u8 0) = (xA).map bV from rfl]; refine LR rfl (KB (b := xA) (row := some (rz, 20, [])) (e := 5) (show _ = some (J3 (List.length xA) _) from rfl) ⟨rfl, rfl⟩ (fun p hp => .inl mP) rfl rfl rfl) (kI ?_); refine Ex ?_; refine LN rfl fun r1 => Jv (k := 0) (n := 8) (ys := (a0L).cells) rfl rfl rfl rfl rfl rfl rfl rfl rfl (GU ?_); refine LR rfl (Ji (xs := (a0L).cells) (n := 8) rfl (kn 0 rfl) rfl rfl rfl) (NZ ?_); refine Qu rfl rfl rfl (enters_of Tryz.func25 m5 rfl) (Jyh (R := []) Jt3 Wg jk) oN fun x => Dt ?_
 obtain ⟨xa, xe, xL, xok, xeq⟩ := x
 obtain ⟨hxa, rfl⟩ : xa.er = qT ∧ xe = 0 := by have := xeq.trans k1; exact Prod.mk.inj this
 have xok : xa.In xL := by simpa using xok
 change HL _ _ ((37, .tuple #[xa.val, .int .i64 0]) :: _) (_ :: _ :: _ :: xL) _ _ _ _; refine GK ?_; refine LN rfl fun r2 => Jv (k := 0) (n := 8) (ys := (xa).cells) rfl rfl rfl rfl rfl rfl rfl rfl rfl (kB ?_); refine Hl ?_; refine LR rfl (Ji (xs := (xa).cells) (n := 8) rfl (kn 0 rfl) rfl rfl rfl) (Qu rfl rfl rfl (enters_of Tryz.func23 m5 rfl) (J12 (R := xL) (s := st0L) yR xok) (fun q hq => .inl (by simp [hq])) fun y => KR (Jdd _ [_, _, _, _] xL) ?_)
 obtain ⟨ys, ye, yL, yok, yeq⟩ := y
 obtain ⟨hys, rfl⟩ : ys.er = [qT] ∧ ye = 0 := by have := yeq.trans ((congrArg (Juv []) hxa).trans k2); exact Prod.mk.inj this
 change HL _ _ ((43, .tuple #[ys.val, .int .i64 0]) :: _) (_ :: _ :: _ :: _ :: (yL ++ xL)) _ _ _ _; refine GK ?_; refine LN rfl fun r3 => Jv (k := 0) (n := 1) (ys := (ys).cells) rfl rfl rfl rfl rfl rfl rfl rfl rfl (kB ?_); refine LR rfl (Ji (xs := (ys).cells) (n := 1) rfl (kn 0 rfl) rfl rfl rfl) (LS 2 [2] rfl rfl ?_)
 refine Jc rfl rfl rfl (enters_of Tryz.func14 m5 rfl) (Jz7 (R := yL ++ xL) yok xA) (fun q hq => .inl mE) ?_
 have hcf : Xy ys xA = true := by rw [Jpm, hys, k3]; rfl
 have hce : (WC ys xA).er = qT := by rw [Ju4, hys, k3]; rfl
 have hci := Ju5 yok xA
 rw [hcf]
 generalize WC ys xA = ca at hce hci ⊢
 refine GK ?_; refine LN rfl fun r4 => Jv (k := 0) (n := 8) (ys := (ca).cells) rfl rfl rfl rfl rfl rfl rfl rfl rfl (kB ?_); refine LR rfl (Ji (xs := (ys).cells) (n := 1) rfl (kn 1 rfl) rfl rfl rfl) ?_
 refine Jc rfl rfl rfl Jy6 (vK (R := yL ++ xL) yok (fun _ => by rw [hys]; exact k4)) (fun q hq => .inl mE) (Jj ((congrArg YI (by rw [hys]; exact hB) : _ = YI (tb, 0))) (JK 10 rfl (Qu rfl rfl rfl (enters_of Tryz.func31 m5 rfl) (Jnp tb) oN fun u => KR (Jdd _ [_, _, _, _, _, _] _) ?_)))
 obtain ⟨us, ue, uL, uok, ueq⟩ := u
 obtain ⟨hus, rfl⟩ : us.er = [qT] ∧ ue = 0 := by have := ueq.trans hP; exact Prod.mk.inj this
 have uok : us.In uL := by simpa using uok
 change HL _ _ ((60, .tuple #[us.val, .int .i64 0]) :: _) (_ :: _ :: _ :: _ :: _ :: _ :: (uL ++ (yL ++ xL))) _ _ _ _; refine GK ?_; refine LN rfl fun r5 => Jv (k := 0) (n := 1) (ys := (us).cells) rfl rfl rfl rfl rfl rfl rfl rfl rfl (kB ?_); refine Hl ?_; refine Jc rfl rfl rfl Jy6 (vK (R := []) (s := st0L) yR (fun _ => by decide +kernel)) oN (Jj ((congrArg YI hE : _ = YI ([], 0))) (JK 9 rfl (LR rfl (Ji (xs := (xa).cells) (n := 8) rfl (kn 3 rfl) rfl rfl rfl) (NZ ?_)))); refine Qu rfl rfl rfl (enters_of Tryz.func25 m5 rfl) (Jyh (R := xL) xok Wg Wg) (fun q hq => .inl (by simp [hq])) fun z => KR (Jdd _ [_, _, _, _, _, _, _] _) ?_
 obtain ⟨da, de, dL, dok, deq⟩ := z
 obtain ⟨hda, rfl⟩ : da.er = a0W ∧ de = 0 := by have := deq.trans ((congrArg (fun e => yO e Wg Wg) hxa).trans k5); exact Prod.mk.inj this
 change HL _ _ ((72, .tuple #[da.val, .int .i64 0]) :: _) (_ :: _ :: _ :: _ :: _ :: _ :: _ :: (dL ++ (uL ++ (yL ++ xL)))) _ _ _ _; refine GK ?_; refine LN rfl fun r6 => Jv (k := 0) (n := 8) (ys := (da).cells) rfl rfl rfl rfl rfl rfl rfl rfl rfl (kB ?_); refine Dz ?_
 refine Jc rfl rfl rfl Jy7 (xj (R := yL ++ xL) yok (fun _ => by rw [hys]; exact k4)) (fun q hq => .inl mE) (Jj ((congrArg YI (by rw [hys]; exact hR1) : _ = YI (rb, 0))) (JK 9 rfl (Hl ?_))); refine Jc rfl rfl rfl Jy7 (xj (R := []) (s := st0L) yR (fun _ => by decide +kernel)) oN (Jj ((congrArg YI hR0 : _ = YI (ra, 0))) (JK 9 rfl (LR rfl (Ji (xs := (ca).cells) (n := 8) rfl (kn 2 rfl) rfl rfl rfl) (LR rfl (Ji (xs := (xa).cells) (n := 8) rfl (kn 4 rfl) rfl rfl rfl) ?_))))
 refine Jc rfl rfl rfl (enters_of Tryz.func16 m5 rfl) (xf (R := yL ++ xL) hci (xok.mono fun q hq => List.mem_append_right _ hq)) (fun q hq => .inl mE) (Jj (jl (show decide (ca.er = xa.er) = true from decide_eq_true (hce.trans hxa.symm))) (kB ?_)); refine LR rfl (Ji (xs := (da).cells) (n := 8) rfl (kn 0 rfl) rfl rfl rfl) (LR rfl (Ji (xs := (a0L).cells) (n := 8) rfl (kn 5 rfl) rfl rfl rfl) ?_)
 refine Jc rfl rfl rfl (enters_of Tryz.func16 m5 rfl) (xf (R := dL ++ xL) dok (b := a0L) Jt3) (fun q hq => .inl mE) (Jj (jl (show decide (da.er = a0L.er) = true from decide_eq_true (hda.trans rfl))) (JK 18 rfl (LR rfl (Ji (xs := (ca).cells) (n := 8) rfl (kn 2 rfl) rfl rfl rfl) (DL ?_))))
 refine Jc rfl rfl rfl (enters_of Tryz.func20 m5 rfl) (Jte (R := yL ++ xL) hci Wg) (fun q hq => .inl mE) (Jj (congrArg Jy (show QB ca.er Wg = jk by rw [hce]; exact k6)) (Vb rfl (LR rfl (V5 (a := jk) (b := jk) rfl rfl) (Jj (jl (show decide (jk = jk) = true from decide_eq_true rfl)) ?_)))); refine NZ ?_; refine LR rfl (Ji (xs := (a0L).cells) (n := 8) rfl (kn 5 rfl) rfl rfl rfl) (Vb rfl (Jc rfl rfl rfl (enters_of Tryz.func20 m5 rfl) (Jte (R := []) (a := a0L) Jt3 Wg) oN (Jj (congrArg Jy (show QB a0L.er Wg = Wg from k7)) ?_))); refine Vb rfl (LR rfl (V5 (a := Wg) (b := Wg) rfl rfl) (Jj (jl (show decide (Wg = Wg) = true from decide_eq_true rfl)) ?_)); refine GK ?_; refine LR rfl (yt rfl rfl rfl) (Jj (show _ = Value.int .i64 137 from Jt4 htl) (LS 7 [] rfl rfl (Dz ?_))); refine LR rfl (Ji (xs := (us).cells) (n := 1) rfl (kn 1 rfl) rfl rfl rfl) ?_
 refine Jc rfl rfl rfl (enters_of Tryz.func21 m5 rfl) (Jti (R := uL ++ (yL ++ xL)) (yok.mono fun q hq => List.mem_append_right _ hq) (uok.mono fun q hq => List.mem_append_left _ hq)) (fun q hq => .inl (by simp only [List.mem_append] at hq; rcases hq with h | h | h <;> simp [h])) ?_; refine Jj (jl (show decide (ys.er = us.er) = true from decide_eq_true (hys.trans hus.symm))) ?_; refine LS 7 [] rfl rfl ?_; refine LR rfl (V5 (a := ([] : BS)) (b := ([] : BS)) rfl rfl) ?_; refine Jj (jl (show decide (([] : BS) = ([] : BS)) = true from decide_eq_true rfl)) ?_; refine LS 14 [] rfl rfl ?_; refine LR rfl (yt rfl rfl rfl) ?_; refine Jj (show _ = Value.int .i64 32 from Jt4 hrl) ?_; refine LS 9 [] rfl rfl ?_; refine LR rfl (jp (a := ra) (b := rb) rfl rfl) ?_; refine Jj (jl (J2a hne)) ?_; refine LS 6 [] rfl rfl ?_; refine Dz ?_
 refine Jc rfl rfl rfl Jml (XJ (R := yL ++ xL) yok) (fun q hq => .inl mE) (Jj (congrArg (Value.int .i64) (show Qn ys.er = 0 by rw [hys]; exact k8)) (GK ?_)); refine Ex ?_; refine J8 (vs := [_]) (zs := [_, _, _, _, _, _, _, _]) (r := ac0L.cells) rfl rfl rfl rfl rfl rfl rfl rfl rfl ms rfl fun rx => Hl ?_; refine Jc (Rl := [(rx, _)]) rfl rfl rfl Jml (XJ (s := ⟨[ac0L], some (⟨rx, 0, none⟩, 1)⟩) (Jxo rx)) (fun q hq => .inl n7) (Jj (congrArg (Value.int .i64) (show Qn [ac0] = 2 from k9)) (J0 6 rfl ?_)); exact Nz
theorem Jyk : ∀ s : BS, wL (s.map Zu) = s.length
 | [] => by rw [List.map_nil, wL]; rfl
 | b :: s => by rw [List.map_cons, wL, Jyk s, List.length_cons]; show wV (.mk b.toNat 0 0 0 [] none [] none 0) + s.length = _; rw [wV, wL]; simp; omega
theorem Jlh (s : BS) : wV (wi s) = 1 + s.length := by unfold wi KP; rw [wV, Jyk]; simp
theorem Jt5 : ∀ l : List (BS × BS), (∀ x ∈ l, x.1.length = 32 ∧ x.2.length = 32) → wL (l.map jh) = 67 * l.length
 | [], _ => by rw [List.map_nil, wL]; rfl
 | x :: l, h => by
  obtain ⟨h1, h2⟩ := h x List.mem_cons_self
  rw [List.map_cons, wL, Jt5 l fun y hy => h y (List.mem_cons_of_mem _ hy), List.length_cons]
  unfold jh KP
  rw [wV, wL, wL, wL, Jlh, Jlh, h1, h2]; simp; omega
theorem J2b {a : AcE} (h : Yh a = 0) : wV (acV a) = 26 + a.code.length + 67 * a.slots.length := by
 obtain ⟨h1, h2, _⟩ := WB h
 unfold acV KP
 rw [wV, wL, wL, wL, wL, wL, wL, Jlh, Jlh, wV, wV, wV, wL, Jt5 _ fun x hx => ⟨(h2 x hx).1, (h2 x hx).2.1⟩, h1]; simp; omega
def slN (l : List AcE) : Nat := (l.map fun a => a.slots.length).sum
theorem Jt6 {a : AcE} (h : YW a = true) (h2 : a.code.length ≤ 512) : a.code.length ≤ 60 := by
 unfold YW at h
 simp only [Bool.and_eq_true, Bool.not_eq_true', Bool.or_eq_false_iff, Bool.and_eq_false_iff, decide_eq_false_iff_not] at h; omega
theorem Jyl : ∀ l : List AcE, (∀ a ∈ l, Yh a = 0 ∧ YW a = true) → wL (l.map acV) ≤ 86 * l.length + 67 * slN l
 | [], _ => by rw [List.map_nil, wL]; simp
 | a :: l, h => by
  obtain ⟨h1, h2⟩ := h a List.mem_cons_self
  have ih := Jyl l fun b hb => h b (List.mem_cons_of_mem _ hb)
  have hc := Jt6 h2 (WB h1).2.2.2.1
  rw [List.map_cons, wL, J2b h1, List.length_cons]
  unfold slN at ih ⊢
  rw [List.map_cons, List.sum_cons]; omega
theorem Jli : ∀ (l : List AcE) (i : Nat) (n : Int), i + l.length ≤ 41 → (jD i n l).1 = true → (∀ a ∈ l, YW a = true) ∧ (jD i n l).2 = n + (slN l : Int)
 | [], i, n, _, _ => ⟨fun a ha => (nomatch ha), by unfold jD slN; simp⟩
 | a :: l, i, n, hl, h => by
  rw [List.length_cons] at hl
  unfold jD at h ⊢
  rw [if_neg m0] at h ⊢
  by_cases hf : YW a = false
  ·rw [if_pos hf] at h; cases h
  ·rw [if_neg hf] at h ⊢
   obtain ⟨h1, h2⟩ := Jli l (i + 1) (n + (a.slots.length : Int)) m0 h
   refine ⟨fun b hb => ?_, ?_⟩
   ·rcases List.mem_cons.1 hb with rfl | hb
    ·simpa using hf
    ·exact h1 b hb
   ·rw [h2]; unfold slN; rw [List.map_cons, List.sum_cons]; omega
theorem Jxp {l : List AcE} (h : zY l = true) : l.length ≤ 40 ∧ (∀ a ∈ l, YW a = true) ∧ slN l ≤ 40 := by
 unfold zY at h
 simp only [Bool.and_eq_true, decide_eq_true_eq] at h
 obtain ⟨h1, h2, h3⟩ := h
 obtain ⟨g1, g2⟩ := Jli l 0 0 m0 h1
 exact ⟨h2, g1, by omega⟩
theorem Jde {l : List AcE} (hf : zY l = true) (hc : Qn l = 0) : wV (WP l) ≤ 20000 := by
 obtain ⟨h1, h2, h3⟩ := Jxp hf
 obtain ⟨c1, c2, _⟩ := yP.1 hc
 have := Jyl l fun a ha => ⟨c2 a ha, h2 a ha⟩
 unfold WP KP
 rw [wV]; simp only [List.length_nil]; omega
end Go.Proofs.YteceenlfegnigaaGreatDoor
