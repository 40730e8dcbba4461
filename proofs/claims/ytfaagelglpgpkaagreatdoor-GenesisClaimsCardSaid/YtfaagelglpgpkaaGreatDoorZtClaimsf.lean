import Derived.Test.YtfaagelglpgpkaaGreatDoorZtClaimse
set_option maxRecDepth 100000
namespace Go.Proofs.YtfaagelglpgpkaaGreatDoor
set_option linter.all false
open Go.SL Go.RowKit Go.Shelf
variable {at_ : Array TypeId} {rt : BS} {pr : BS × BS → Bool} {rs : Bool} {g gh gl : FuncId} {f : Int} {L0 R Rl : Jx} {accts xs : List AcL} {a : List Nat} {caps sp vs : List Value} {α : Type} {ys : List α} {b b1 b2 c cap d e e1 e2 i j m o off oh ol rb rv sz ρ : Nat} {x y : Operand} {gd : Option (Nat × Bool)} {P : Program} {row : QC} {r : Rec} {s : StL} {t x0 : Ty} {z : Value} {q v : Vl} {w : World} {kf : α → BS} {V : α → Value}
theorem Jug {xs : List (BS × BS)} {p : Pl} (hl : xs.length ≤ 1000) (hs : Seg R xs.length (xs.flatMap Q7) p) :
  PureT (α := { row : QC // rowOk 2 xs.length (xs.flatMap Q7) row }) Tryz.prog 325 [KA xs.length p].toArray (fun x => J9 xs.length x.1) [] (fun x => JE 97 (xs.flatMap Q7) x.1) R := by
 cases p with
 | none =>
  have h0 : xs = [] := List.length_eq_zero_iff.1 hs
  subst h0; refine J4 Tryz.func325 O O fun w => HI ?_; refine cD (fun g => ?_) fun g => ?_
  exact Ho
  try exact Bool.noConfusion g
 | some q =>
  refine J4 Tryz.func325 O O fun w => HI ?_; refine J7 O (fun g => ?_) (fun g => ?_)
  try exact Bool.noConfusion g
  ·refine gZ ?_; refine XX O O O O fun r1 => Q1 O (zr (k := 0) (b := 32) (sz := 2) O O O O O O hs oR O O O O O m7 (KO Ki xs) (Zj q8 xs) m5 m5 fun row hrow => (J1 4 O ?_)); exact GX
theorem Jpe {xs : List (BS × BS)} (hl : xs.length ≤ 1000) (hrow : rowOk 2 xs.length (xs.flatMap Q7) row) (hi : i ≤ xs.length) {y : (BS × BS)} (hv : (rv, Obj.cells (Q7 y).toArray 97 (0, 0)) ∈ R) :
  PureT (α := { row' : QC // rowOk 2 (xs.length + 1) ((xs.take i ++ y :: xs.drop i).flatMap Q7) row' }) Tryz.prog 326 [J9 xs.length row, .int .i64 (i : Int), .slice (some ⟨rv, 0, none⟩) 1 1].toArray (fun x => J9 (xs.length + 1) x.1) (JE 97 (xs.flatMap Q7) row) (fun x => JE 97 ((xs.take i ++ y :: xs.drop i).flatMap Q7) x.1) R := by
 obtain ⟨A, hA⟩ : ∃ A, A = (xs.take i).flatMap Q7 := ⟨_, rfl⟩
 obtain ⟨B, hB⟩ : ∃ B, B = (xs.drop i).flatMap Q7 := ⟨_, rfl⟩
 obtain ⟨n, hn⟩ : ∃ n, n = xs.length := ⟨_, rfl⟩
 have e1 : xs.flatMap Q7 = A ++ B := by rw [hA, hB, ← List.flatMap_append, List.take_append_drop]
 have e2 : (xs.take i ++ y :: xs.drop i).flatMap Q7 = A ++ (Q7 y ++ B) := by rw [List.flatMap_append, List.flatMap_cons, hA, hB]
 have lA : A.length = i * 2 := by rw [hA, KO Ki, List.length_take, Nat.min_eq_left hi]
 have lB : B.length = (n - i) * 2 := by rw [hB, KO Ki, List.length_drop, hn]
 have lF : (Q7 y).length = 2 := Ki y
 have oF : (Q7 y).all QE = true := q8 y
 have oA : A.all QE = true := by rw [hA]; exact Zj q8 _
 have oB : B.all QE = true := by rw [hB]; exact Zj q8 _
 rw [e1] at hrow; rw [e1, e2]; rw [← hn] at hl hi hrow ⊢; clear hA hB e1 e2 hn
 cases row with
 | none =>
  obtain ⟨rfl, hAB⟩ := hrow
  obtain rfl : i = 0 := by omega
  obtain ⟨rfl, rfl⟩ := List.append_eq_nil_iff.1 hAB
  refine J4 Tryz.func326 O O fun w => JJ (Jt 15 O (kF ?_)); refine Ht ?_; refine cD (fun g => ?_) fun g => ?_
  first | exact Bool.noConfusion g | omega
  refine EV ?_; refine JN 11 O (J7 O (fun g => ?_) (fun g => ?_))
  try simp only [ZZ] at g
  refine gZ ?_; refine WQ (n := 0) (m := 1) (b := 32) (sz := 2) (news := Q7 y) (xs := []) (L0 := []) O O O O (Or.inr hv) O O O O O m7 O O oF m7 SlOwn.nil m7 m7 fun r1 cap1 sp1 hsp1 => ?_; exact DH
  try exact Bool.noConfusion g
 | some q =>
  obtain ⟨r, cap, sp⟩ := q
  obtain ⟨hr1, hr2⟩ := hrow
  have hcap : n ≤ cap := by omega
  refine J4 Tryz.func326 O O fun w => JJ ?_; change HC _ _ _ [(r, .cells ((A ++ B) ++ sp).toArray 97 (0, 0))] _ _ _; refine GT ?_; refine J7 O (fun g => ?_) (fun g => ?_)
  try exact Bool.noConfusion g
  ·refine EV ?_; refine JN 11 O (J7 O (fun g => ?_) (fun g => ?_))
   try simp only [ZZ] at g
   refine gZ ?_
   obtain rfl : B = [] := List.length_eq_zero_iff.1 m5
   refine WQ (n := n) (m := 1) (b := 32) (sz := 2) (news := Q7 y) (xs := A ++ []) (L0 := []) O O O O (Or.inr hv) O O O O O m7 O lF oF m7 (SlOwn.own (k := 0) O MF hr1 MK O) m5 m5 fun r1 cap1 sp1 hsp1 => gy ?_; exact HF
   ·try simp only [ZZ] at g
    refine Jt 8 O (Ew ?_); refine Q1 O (LR O (Jk6 O O) (JN 3 O ?_)); refine cD (fun g => ?_) fun g => ?_
    ·refine gZ ?_
     refine LR O (Ke (sz := 2) (q := i) (kl := none) (kh := some (i)) (km := none) (m := 0) (z := cap) (off' := 0) O O O trivial ⟨_, rfl⟩ trivial O O O m5 m5 m5 (fun h => by cases h) MH) (HO ?_); refine Ew ?_; refine JH 2 O (Jq nE (zk (r := r) (off := 0) (n := i) (cap := cap) (m := n + 1 - i) (sz := 2) (b := 32) (xs := A) O O O O (kn 0 O) O O O O O O m7 nV lA m5 m5 m5 m5 m5 fun r2 cap2 Z sp2 hZ hsp2 => ?_)); rw [show i + (n + 1 - i) = n + 1 by omega] at hsp2 ⊢
     obtain ⟨Z1, Z2, rfl, lZ1⟩ := cut (l := Z) (a := 2) m5
     have lZ2 : Z2.length = (n - i) * 2 := by rw [List.length_append, lZ1] at hZ; omega
     rw [show A ++ (Z1 ++ Z2) ++ sp2 = A ++ (Z1 ++ (Z2 ++ sp2)) by simp only [List.append_assoc]]; refine gY ?_; refine LR O (Ke (sz := 2) (m := i) (kl := some (i)) (kh := none) (km := none) (q := n + 1) (z := cap2) (off' := i * 2) O O O ⟨_, rfl⟩ trivial trivial O O O m5 m5 m5 (fun _ => rfl) mq) (Q1 O ?_)
     refine Yp (k := 0) (n := 1) (sz := 2) (vs := Q7 y) (cs' := A ++ (Q7 y ++ (Z2 ++ sp2))) O O O O O (Or.inr hv) O O mK O lF oF mD (XY lA (by rw [lZ1])) rfl (ki ?_); refine DI ?_; refine Ja O O O (Ke (sz := 2) (m := i + 1) (kl := some (i + 1)) (kh := none) (km := none) (q := n + 1) (z := cap2) (off' := (i + 1) * 2) O O O ⟨_, rfl⟩ trivial trivial O O O m5 m5 m5 (fun _ => rfl) mq) (k5 ?_); refine Ja O O O (Ke (sz := 2) (m := i) (kl := some (i)) (kh := none) (km := none) (q := n) (z := cap) (off' := i * 2) O O O ⟨_, rfl⟩ trivial trivial O O O m5 m5 m5 (fun _ => rfl) mq) (JS ?_); rw [show A ++ (Q7 y ++ (Z2 ++ sp2)) = (A ++ Q7 y) ++ (Z2 ++ sp2) by simp only [List.append_assoc]]
     refine Yp (k := 0) (n := n - i) (sz := 2) (vs := B) (cs' := (A ++ Q7 y) ++ (B ++ sp2)) O O O O O (kn 1 O) O O mK nR lB oB mD (XY (by rw [List.length_append, lA, lF]; omega) lZ2) rfl ?_; exact D7
    ·refine Jt 8 O (Jq nH ?_)
     refine LR O (Ke (sz := 2) (q := n + 1) (kl := none) (kh := some (n + 1)) (km := none) (m := 0) (z := cap) (off' := 0) O O O trivial ⟨_, rfl⟩ trivial O O O m5 m5 m5 (fun h => by cases h) MH) (JH 11 rfl (Jq mb (LR rfl (Ke (sz := 2) (m := i + 1) (kl := some (i + 1)) (kh := none) (km := none) (q := n + 1) (z := cap) (off' := (i + 1) * 2) rfl rfl rfl ⟨_, rfl⟩ trivial trivial rfl rfl rfl m5 m5 m5 (fun _ => rfl) mq) (LR rfl (wn (k := 0) rfl rfl rfl hv rfl rfl rfl mD Tryz.func356 rfl rfl rfl rfl) (ki ?_))))); refine J7 O (fun g => ?_) (fun g => ?_)
     ·try simp only [ZZ] at g
      refine HS ?_; refine DI ?_; refine Ja O O O (Ke (sz := 2) (m := i + 1) (kl := some (i + 1)) (kh := none) (km := none) (q := n + 1) (z := cap) (off' := (i + 1) * 2) O O O ⟨_, rfl⟩ trivial trivial O O O m5 m5 m5 (fun _ => rfl) mq) (k5 ?_); refine Ja O O O (Ke (sz := 2) (m := i) (kl := some (i)) (kh := none) (km := none) (q := n + 1) (z := cap) (off' := i * 2) O O O ⟨_, rfl⟩ trivial trivial O O O m5 m5 m5 (fun _ => rfl) mq) (JS ?_)
      obtain ⟨X1, X2, hX, lX1⟩ := cut (l := B ++ sp) (a := 2) mL
      obtain ⟨X3, X4, rfl, lX3⟩ := cut (l := X2) (a := (n - i) * 2) Md
      refine FI ?_
      refine Yp (k := 0) (n := n - i) (sz := 2) (vs := B) (cs' := (A ++ X1) ++ (B ++ X4)) O O O O O (kn 0 O) O O mK nL lB oB nN (XY (by rw [List.length_append, lA, lX1]; omega) lX3) rfl (Gu ?_); refine LR O (Ke (sz := 2) (m := i) (kl := some (i)) (kh := none) (km := none) (q := n + 1) (z := cap) (off' := i * 2) O O O ⟨_, rfl⟩ trivial trivial O O O m5 m5 m5 (fun _ => rfl) mq) (FU ?_)
      refine Yp (k := 0) (n := 1) (sz := 2) (vs := Q7 y) (cs' := A ++ (Q7 y ++ (B ++ X4))) O O O O O (Or.inr hv) O O mK O lF oF mD (XY lA (by rw [lX1])) rfl ?_; exact Gs
     ·try exact Bool.noConfusion g
theorem Jy3 {p : Pl} (hl : xs.length ≤ 1000) (hs : Seg R xs.length (xs.flatMap AcL.cells) p) (hso : KN AcL.addr xs) (y : AcL) :
  PureT (α := { row : QC // rowOk 8 (Qo AcL.addr y xs).length ((Qo AcL.addr y xs).flatMap AcL.cells) row }) Tryz.prog 256 [KA xs.length p, vA y, fV 98].toArray (fun x => J9 (Qo AcL.addr y xs).length x.1) [] (fun x => JE 48 ((Qo AcL.addr y xs).flatMap AcL.cells) x.1) R := by
 have hins := Jrr (x := y) hso
 obtain ⟨j, hj⟩ : ∃ j, j = jY AcL.addr (AcL.addr y) xs := ⟨_, rfl⟩
 have hjl : j ≤ xs.length := hj ▸ Jrp _ _
 have hpl := Jue (k := AcL.addr y) hl hs hso
 have hlt : Wk AcL.addr (AcL.addr y) xs = true → j < xs.length := fun h => hj ▸ Jfw h
 rw [← hj] at hins hpl
 obtain ⟨b, hb⟩ : ∃ b, b = Wk AcL.addr (AcL.addr y) xs := ⟨_, rfl⟩
 rw [← hb] at hins hpl hlt; clear hj hb; refine J4 Tryz.func256 O O fun w => EX fun r1 => ?_; refine Jn O O O Jxu (Jdu y) (Q1 O (Ji O O O (enters_of Tryz.func322 m6 O) hpl oR (JH 10 O ?_))); refine Kn O O O (enters_of Tryz.func79 m6 O) (Jhi hl hs) oR fun x => ?_
 obtain ⟨row, hrow⟩ := x
 change HL _ _ ((20, J9 xs.length row) :: _) (JE 48 (xs.flatMap AcL.cells) row ++ [(r1, _)]) _ _ _ _; refine H2 ?_; refine cD (fun g => ?_) fun g => ?_
 refine HS ?_
 have hltb := hlt m9
 obtain ⟨r2, cap2, sp2, rfl⟩ := row_some hrow m5
 change HC _ _ _ [(r2, .cells (xs.flatMap AcL.cells ++ sp2).toArray 48 (0, 0)), (r1, _)] _ _ _; refine Gy ?_; refine LR O (Jz (vs := AcL.cells y) O (kn 1 O) O O O O) (LR O (JO (j := j) (m := 8) O O O O O m5 O) (Q8 (k := 0) (n := 8) (vs := (AcL.cells y).toArray) (cs' := ((xs.set j y).flatMap AcL.cells ++ sp2).toArray) O O O O O O (AcL.one y) (by have := hrow.1; simp only [List.size_toArray, List.length_append, KO AcL.len]; omega) (by apply Array.toList_inj.1; simp only [List.toList_toArray, Nat.zero_add]; exact Jcw AcL.len hltb y sp2) O (J1 10 O (NW fun w1 hs1 => ?_))))
 (rw [if_pos m9] at hins
  rw [hins, List.length_set]
  exact ⟨⟨some (r2, cap2, sp2), hrow.same (by rw [KO AcL.len, KO AcL.len, List.length_set])⟩, rfl, hs1.weakL Nh⟩)
 ·refine Gq ?_; refine LR O (Jz (vs := AcL.cells y) O (Or.inl (List.mem_append_right _ List.mem_cons_self)) O O O O) (J0 (n := 1) (sz := 8) (vs := [_]) (zs := [_, _, _, _, _, _, _, _]) (r := AcL.cells y) O O O O O O O O O mj O fun rv => QK (T := JE 48 (xs.flatMap AcL.cells) row) (L0 := [(rv, _), (r1, _)]) (Rl := [(rv, Obj.cells (AcL.cells y).toArray 48 (0, 0))]) (by exact List.perm_middle.symm) O O O (enters_of Tryz.func323 m6 O) (Jpd (i := j) (y := y) hl hrow hjl List.mem_cons_self) (fun q hq => Or.inl mY) fun x => ?_)
  obtain ⟨row2, hrow2⟩ := x
  refine gM ?_; refine NW fun w1 hs1 => ?_
  (rw [if_neg (by simp_all)] at hins
   have hln : (xs.take j ++ y :: xs.drop j).length = xs.length + 1 := by simp only [List.length_append, List.length_take, List.length_cons, List.length_drop]; omega
   rw [hins, hln]
   exact ⟨⟨row2, hrow2⟩, rfl, hs1.weakL (List.sublist_append_left _ _)⟩)
theorem Jy4 {xs : List (BS × BS)} {p : Pl} (hl : xs.length ≤ 1000) (hs : Seg R xs.length (xs.flatMap Q7) p) (hso : KN Prod.fst xs) (y : (BS × BS)) :
  PureT (α := { row : QC // rowOk 2 (Qo Prod.fst y xs).length ((Qo Prod.fst y xs).flatMap Q7) row }) Tryz.prog 257 [KA xs.length p, vS y, fV 156].toArray (fun x => J9 (Qo Prod.fst y xs).length x.1) [] (fun x => JE 97 ((Qo Prod.fst y xs).flatMap Q7) x.1) R := by
 have hins := Jrr (x := y) hso
 obtain ⟨j, hj⟩ : ∃ j, j = jY Prod.fst (Prod.fst y) xs := ⟨_, rfl⟩
 have hjl : j ≤ xs.length := hj ▸ Jrp _ _
 have hpl := Juf (k := Prod.fst y) hl hs hso
 have hlt : Wk Prod.fst (Prod.fst y) xs = true → j < xs.length := fun h => hj ▸ Jfw h
 rw [← hj] at hins hpl
 obtain ⟨b, hb⟩ : ∃ b, b = Wk Prod.fst (Prod.fst y) xs := ⟨_, rfl⟩
 rw [← hb] at hins hpl hlt; clear hj hb; refine J4 Tryz.func257 O O fun w => EX fun r1 => ?_; refine Jn O O O Jli (Jdv y) (Q1 O (Ji O O O (enters_of Tryz.func324 m6 O) hpl oR (JH 10 O ?_))); refine Kn O O O (enters_of Tryz.func325 m6 O) (Jug hl hs) oR fun x => ?_
 obtain ⟨row, hrow⟩ := x
 change HL _ _ ((20, J9 xs.length row) :: _) (JE 97 (xs.flatMap Q7) row ++ [(r1, _)]) _ _ _ _; refine H2 ?_; refine cD (fun g => ?_) fun g => ?_
 refine HS ?_
 have hltb := hlt m9
 obtain ⟨r2, cap2, sp2, rfl⟩ := row_some hrow m5
 change HC _ _ _ [(r2, .cells (xs.flatMap Q7 ++ sp2).toArray 97 (0, 0)), (r1, _)] _ _ _; refine Gy ?_; refine LR O (Jz (vs := Q7 y) O (kn 1 O) O O O O) (LR O (JO (j := j) (m := 2) O O O O O m5 O) (Q8 (k := 0) (n := 2) (vs := (Q7 y).toArray) (cs' := ((xs.set j y).flatMap Q7 ++ sp2).toArray) O O O O O O (q8 y) (by have := hrow.1; simp only [List.size_toArray, List.length_append, KO Ki]; omega) (by apply Array.toList_inj.1; simp only [List.toList_toArray, Nat.zero_add]; exact Jcw Ki hltb y sp2) O (J1 10 O (NW fun w1 hs1 => ?_))))
 (rw [if_pos m9] at hins
  rw [hins, List.length_set]
  exact ⟨⟨some (r2, cap2, sp2), hrow.same (by rw [KO Ki, KO Ki, List.length_set])⟩, rfl, hs1.weakL Nh⟩)
 ·refine Gq ?_; refine LR O (Jz (vs := Q7 y) O (Or.inl (List.mem_append_right _ List.mem_cons_self)) O O O O) (HR fun rv => ?_); refine QK (T := JE 97 (xs.flatMap Q7) row) (L0 := [(rv, _), (r1, _)]) (Rl := [(rv, Obj.cells (Q7 y).toArray 97 (0, 0))]) (by exact List.perm_middle.symm) O O O (enters_of Tryz.func326 m6 O) (Jpe (i := j) (y := y) hl hrow hjl List.mem_cons_self) (fun q hq => Or.inl mY) fun x => ?_
  obtain ⟨row2, hrow2⟩ := x
  refine gM ?_; refine NW fun w1 hs1 => ?_
  (rw [if_neg (by simp_all)] at hins
   have hln : (xs.take j ++ y :: xs.drop j).length = xs.length + 1 := by simp only [List.length_append, List.length_take, List.length_cons, List.length_drop]; omega
   rw [hins, hln]
   exact ⟨⟨row2, hrow2⟩, rfl, hs1.weakL (List.sublist_append_left _ _)⟩)
theorem Jy5 (x : BS × BS) : ZP x = (((x.1.length : Int) != 32) || ((x.2.length : Int) != 32)) := by
 have key : ∀ n : Nat, decide (n ≠ 32) = ((n : Int) != 32) := fun n => by
  by_cases h : n = 32
  ·subst h; rfl
  ·have h2 : ¬ (n : Int) = 32 := by omega
   simp [h, h2]
 unfold ZP
 rw [key, key]
theorem J4f (x : BS × BS) : Pure Tryz.prog 152 [vS x].toArray (.bool (ZP x)) := by
 refine Jl Tryz.func152 O O fun w => Nj fun r1 => ?_; refine FK ?_; refine F8 ?_
 refine Jv 7 O (fun gb => ?_) (fun gb => ?_) <;> (try simp only [ZZ] at gb) <;> first | (refine LR O (J6 O O O) ?_) | (refine LK O ?_)
 all_goals refine HP ?_
 all_goals refine gc ?_
 all_goals (
  refine FQ fun w1 hs1 => ?_; rw [Jy5]
  simp_all [JB]
  skip)
theorem Jy6 (x : BS × BS) : Pure Tryz.prog 153 [vS x].toArray (.bool (Xy x)) := by
 refine Jl Tryz.func153 O O fun w => Nj fun r1 => ?_; refine Gb ?_; refine JK 5 m6 m6 ?_
 refine Nx ?_; refine KI O O O (enters_of Tryz.func116 m6 O) Jud (Ja O O O (W7 O O) (NP ?_)); exact En
theorem wC {xs : List (BS × BS)} {p : Pl} (hl : xs.length ≤ 9223372036854775807) (hs : Seg R xs.length (xs.flatMap Q7) p) (eg : Enters Tryz.prog g) (hg : ∀ x ∈ xs, PureR Tryz.prog g (vS x :: caps).toArray (.bool (pr x)) R) :
  PureR Tryz.prog 154 [KA xs.length p, .func (.func g) #[] caps.toArray].toArray (.bool (xs.any pr)) R := by
 have h := Jhh hl hs eg hg
 refine Jc Tryz.func154 O O fun w => kV ?_; refine Ji O O O (enters_of Tryz.func114 m6 O) h oR (QN O (Jq (congrArg Value.bool Jxi) (J1 4 O ?_))); exact Nz
theorem Jjo {a : AcL} (ha : a.In R) : PureR Tryz.prog 96 [a.val].toArray (.int .i64 (Wz a.er)) R := by
  have h1 := wC (g := 152) (caps := []) ha.len ha.seg (enters_of Tryz.func152 m6 rfl) (fun x _ => (J4f x).toR)
  have h2 := wC (g := 153) (caps := []) ha.len ha.seg (enters_of Tryz.func153 m6 rfl) (fun x _ => (Jy6 x).toR)
  have h3 := Jub ha.len ha.seg
  have hl := ha.len
  have hseg := ha.seg
  have hE : Wz a.er = if ¬ ((a.addr.length : Int) = 20) ∨ a.slots.any ZP = true then 2 else if QO Prod.fst a.slots = false then 11 else if (512 < (a.code.length : Int)) ∨ (16 < (a.slots.length : Int)) then 5 else if a.slots.any Xy = true then 8 else 0 := by
    exact ite_congr (propext (or_congr (by show ¬ a.addr.length = 20 ↔ _; omega) Iff.rfl)) (fun _ => rfl) (fun _ => ite_congr rfl (fun _ => rfl) (fun _ => ite_congr (propext (or_congr (by show a.code.length > 512 ↔ _; omega) (by show a.slots.length > 16 ↔ _; omega))) (fun _ => rfl) (fun _ => rfl)))
  rw [hE]; clear hE
  generalize a.slots.any ZP = oB at h1 ⊢
  generalize a.slots.any Xy = sBo at h2 ⊢
  generalize QO Prod.fst a.slots = rB at h3 ⊢
  refine Jc Tryz.func96 O O fun w => Nj fun r1 => ?_; refine XG 19 [0] O O (F8 ?_)
  refine Jv 10 O (fun gb => ?_) (fun gb => ?_) <;> (try simp only [ZZ] at gb) <;> first | (refine LR O (J6 O O O) ?_) | (refine LK O ?_)
  all_goals refine LW 2 [0] O O ?_
  all_goals first | (refine Ji O O O (enters_of Tryz.func154 m6 O) h1 oR ?_) | refine LK O ?_
  all_goals (
   refine kp ?_; refine J7 O (fun h10 => ?_) (fun h10 => ?_)
   try simp only [ZZ] at h10
   refine Ej fun w1 hs1 => ?_; simp only [JB]
   simp_all
   · try exact Bool.noConfusion h10
     all_goals try simp only [ZZ] at h10
     all_goals (
      refine gp ?_; refine Ji O O O (enters_of Tryz.func155 m6 O) h3 oR (Gb ?_); refine cD (fun h13 => ?_) fun h13 => ?_
      refine Ej fun w1 hs1 => ?_; simp only [JB]
      simp_all
      · refine gp ?_; refine F8 ?_
        refine Jv 26 O (fun gb => ?_) (fun gb => ?_) <;> (try simp only [ZZ] at gb) <;> first | (refine LR O (J6 O O O) ?_) | (refine LK O ?_)
        all_goals refine HP ?_
        all_goals refine DQ ?_
        all_goals (
         refine HX ?_; refine J7 O (fun h20 => ?_) (fun h20 => ?_)
         try simp only [ZZ] at h20
         refine Ej fun w1 hs1 => ?_; simp only [JB]
         simp_all
         · try exact Bool.noConfusion h20
           all_goals try simp only [ZZ] at h20
           all_goals (
            refine Qy 5 [0] O O (Ji O O O (enters_of Tryz.func154 m6 O) h2 oR (ki ?_)); refine cD (fun h23 => ?_) fun h23 => ?_
            refine Ej fun w1 hs1 => ?_; simp only [JB]
            simp_all
            refine Kk 9 O (Ni fun w1 hs1 => ?_); simp only [JB]
            simp_all
            skip)
         skip)
      skip)
   skip)
theorem Jy7 {k : BS} (hb : (rb, Obj.cells #[J5 k] e (0, 0)) ∈ R) (a : AcL) : PureR Tryz.prog 43 [vA a, .pointer (some ⟨rb, 0, none⟩)].toArray (.bool (decide (a.addr = k))) R := by
 refine Jc Tryz.func43 O O fun w => ?_; exact De
theorem J2i {k : BS} (hb : (rb, Obj.cells #[J5 k] e (0, 0)) ∈ R) (x : BS × BS) : PureR Tryz.prog 259 [vS x, .pointer (some ⟨rb, 0, none⟩)].toArray (.bool (decide (x.1 = k))) R := by
 refine Jc Tryz.func259 O O fun w => ?_; exact De
theorem Juh (hs : s.In R) (k : BS) : PureR Tryz.prog 18 [s.val, J5 k].toArray (.tuple #[(Q5 s k).val, .bool (WD s k)]) R := by
 have hl := hs.len
 have hseg := hs.seg
 refine Jc Tryz.func18 O O fun w => NB fun r1 r2 => ?_; refine LN O fun r3 => XG 7 [2] O O (kJ ?_); refine Ji (Rl := (r2, Obj.cells #[J5 k] 9 (0, 0)) :: R) O O O (enters_of Tryz.func42 m6 O) (Jt9 (caps := [.pointer (some ⟨r2, 0, none⟩)]) (pr := fun a => decide (a.addr = k)) hl (hseg.mono fun q hq => List.mem_cons_of_mem _ hq) (enters_of Tryz.func43 m6 rfl) (fun a _ => Jy7 List.mem_cons_self a)) (fun q hq => (List.mem_cons.1 hq).elim (fun h => Or.inl (by rw [h]; simp)) Or.inr) (Ht ?_); refine cD (fun g => ?_) fun g => ?_
 refine HS ?_
 have hf := Jfr m9
 refine HY ?_; refine DR ?_
 refine Hw ?_; refine Nu fun w1 hs1 => ?_; refine ⟨?_, hs1.keep⟩; rw [(Jar hf).1, (Jar hf).2]; rfl
 ·refine GU ?_
  obtain ⟨i, a, hidx, ha, hf⟩ := Jxj m9
  refine F7 ?_
  refine LR O (Jk (j := i) O hseg O O O me (by have := (List.getElem?_eq_some_iff.1 ha).1; omega)) ?_; refine LR O (Kl AcL.len oR O hseg ha O O) ?_
  refine NQ ?_; refine gM ?_; refine Nu fun w1 hs1 => ?_; refine ⟨?_, hs1.keep⟩; rw [(Jfy hf).1, (Jfy hf).2]; rfl
theorem jz (hs : s.In R) : PureR Tryz.prog 44 [s.val].toArray (.int .i64 (KP s.er)) R := by
  have hl : s.accts.length ≤ 9223372036854775807 := hs.len
  have hseg := hs.seg
  obtain ⟨hc5, hcg⟩ := Jla s
  refine Jc Tryz.func44 O O fun w => EX fun r1 => ?_; refine F3 ?_; refine cD (fun g => ?_) fun g => ?_
  refine Gv fun w1 hs1 => ?_; rw [hc5 m9]; rfl
  · refine Qy 7 [0] O O (Gt ?_); refine Gb ?_; refine Jw (σ := Nat) (fun i => i ≤ s.accts.length ∧ goS (Xp s.er i) (s.er.drop i) = goS none s.er) (fun i => [(1, .pointer (some ⟨r1, 0, none⟩)), (11, KA s.accts.length s.p), (12, .int .i64 (s.accts.length : Int)), (13, .int .i64 (i : Int))]) (fun _ => [(r1, .cells s.cells.toArray 36 (0, 0))]) (fun _ _ _ => True) (fun i => s.accts.length - i) 0 ⟨Nat.zero_le _, rfl⟩ (lK O) (List.Sublist.refl _) (fun _ _ h => h) ?_; rintro i ⟨hi1, hinv⟩; refine NO ?_; refine cD (fun g => ?_) fun g => ?_
    · refine gk ?_
      obtain ⟨a, ha, hma⟩ := QD Ma
      rw [Jk8 (vG ha)] at hinv; refine kE ?_
      refine Gr ?_; refine LN O fun r2 => Q1 O (Jj (k := 0) (n := 8) (ys := a.cells) O O O O O a.len O a.one O (JH 4 O ?_)); refine LR O (Jd (xs := a.cells) (n := 8) O (kn 0 O) O O a.len) (Ji O O O J11 (Jjo (hs.accts a hma)) oR (JH 9 O ?_))
      refine Jv 22 O (fun gb => ?_) (fun gb => ?_) <;> (try simp only [ZZ] at gb) <;> first | (refine Q1 O ?_) | (refine LK O ?_)
      all_goals refine LW 3 [] O O ?_
      all_goals first | refine LK O ?_ | (refine Jv 26 O (fun gb => ?_) (fun gb => ?_) <;> (try simp only [ZZ] at gb) <;> first | (refine LR O (J6 O O O) ?_) | (refine LK O ?_))
      all_goals refine LW 2 [1] O O ?_
      all_goals first | (refine QN O ?_; refine Jb m5 m5 ?_) | refine LK O ?_
      all_goals refine LW 1 [] O O ?_
      all_goals first | (refine QN O ?_; refine Jb m5 m5 ?_) | refine LK O ?_
      all_goals first | (obtain ⟨x, hx, hmx⟩ := QD (show i - 1 < s.accts.length by omega); refine LR O (Jof (sz := 8) (a := i - 1) (b := i + 1) (m := 2) O hseg O O m5 m5 O O m5 m5 m5) ?_; have hlast := Jcy hx (show i - 1 + 1 = i by omega)) | refine LK O ?_
      all_goals first | (refine Ji O O O (enters_of Tryz.func97 m6 O) (Jua (xs := [x, a]) (show 2 ≤ 9223372036854775807 by decide) (hseg.two AcL.len hx ha m5)) oR ?_; refine Jq (congrArg Value.bool (Jiw x a)) ?_) | refine LK O ?_
      all_goals (
       refine kp ?_; refine J7 O (fun g => ?_) (fun g => ?_)
       · try exact Bool.noConfusion g
         all_goals try simp only [ZZ] at g
         all_goals (
          refine gk ?_
          have hst : Vn (Xp s.er i) a.er = 11 ∨ Vn (Xp s.er i) a.er = Wz a.er := by unfold Vn; split <;> simp
          have hst : Vn (Xp s.er i) a.er = 11 := Jk9 m9 hlast m9
          rw [hst] at hinv; refine gk ?_; refine J7 O (fun g => ?_) (fun g => ?_)
          try simp only [ZZ] at g
          refine Hv fun w1 hs1 => ?_; rw [hcg m5, ← hinv, if_pos (by simp_all)]; rfl
          try exact Bool.noConfusion g
          skip)
       · try simp only [ZZ] at g
         refine GU ?_
         have hst : Vn (Xp s.er i) a.er = 11 ∨ Vn (Xp s.er i) a.er = Wz a.er := by unfold Vn; split <;> simp
         have hst : Vn (Xp s.er i) a.er = Wz a.er := Jcx (by first | exact Or.inl m9 | exact Or.inr (Or.inl (by rw [show i = 0 by omega]; rfl)) | exact Or.inr (Or.inr ⟨_, hlast, by assumption⟩))
         rw [hst] at hinv; refine gk ?_; refine cD (fun g => ?_) fun g => ?_
         refine Hv fun w1 hs1 => ?_; rw [hcg m5, ← hinv, if_pos (by simp_all)]; rfl
         refine Gz ?_; exact Jo (i + 1) ⟨by omega, by rw [if_neg (by simp_all)] at hinv; exact hinv⟩ m5 (lK O) (List.sublist_cons_self _ _) (fun _ _ h => h)
       skip)
    · exact I5
theorem Jui {xs : List (BS × BS)} (hl : xs.length ≤ 1000) (hrow : rowOk 2 xs.length (xs.flatMap Q7) row) (eg : Enters Tryz.prog g) (hg : ∀ x ∈ xs, PureR Tryz.prog g (vS x :: caps).toArray (.bool (pr x)) R) :
  PureT (α := { row' : QC // rowOk 2 (xs.filter fun x => !pr x).length ((xs.filter fun x => !pr x).flatMap Q7) row' }) Tryz.prog 258 [J9 xs.length row, .func (.func g) #[] caps.toArray].toArray (fun x => J9 (xs.filter fun x => !pr x).length x.1) (JE 97 (xs.flatMap Q7) row) (fun x => JE 97 ((xs.filter fun x => !pr x).flatMap Q7) x.1) R := by
 have hseg := JQ (e := 97) hrow m7
 have hV := QG xs.length row (fun h => by subst h; exact hrow.1)
 have hidx := Jhh (R := JE 97 (xs.flatMap Q7) row ++ R) m5 (hseg.mono fun q hq => List.mem_append_left _ hq) eg (fun x hx => (hg x hx).mono fun q hq => List.mem_append_right _ hq)
 rw [hV] at hidx
 obtain ⟨m, hm⟩ : ∃ m, m = Zi pr xs := ⟨_, rfl⟩
 rw [← hm] at hidx; refine J4 Tryz.func258 O O fun w => kV ?_; refine Ji (Rl := JE 97 (xs.flatMap Q7) row ++ R) O O O (enters_of Tryz.func114 m6 O) hidx (fun q hq => (List.mem_append.1 hq).elim Or.inl Or.inr) (Ht ?_); refine cD (fun h5 => ?_) fun h5 => ?_
 refine GG ?_; refine NW fun w1 hs1 => ?_
 (have hall := Jxl (pr := pr) (xs := xs) m5
  rw [hall]
  exact ⟨⟨row, hrow⟩, rfl, hs1⟩)
 ·refine FR ?_
  obtain ⟨i, e0⟩ : ∃ i : Nat, m = (i : Int) := by
   rcases zt (pr := pr) (xs := xs) with ⟨h, _⟩ | ⟨i, _, h, _⟩
   ·unfold Zi at hm h; split at hm <;> split at h <;> first | omega | simp_all
   exact ⟨i, hm.trans h⟩
  subst e0
  obtain ⟨hil, hif⟩ := Jxk hm.symm
  obtain ⟨r, cap, sp, rfl⟩ := row_some hrow m5
  obtain ⟨hr1, hr2⟩ := hrow
  obtain ⟨x0, hx0, _⟩ := QD hil
  have hsplit : xs.flatMap Q7 ++ sp = ((xs.take (i + 1)).filter fun x => !pr x).flatMap Q7 ++ (Q7 x0 ++ ((xs.drop (i + 1)).flatMap Q7 ++ sp)) := by
   rw [hif, ← List.append_assoc (Q7 x0), ← Jfz hx0, ← List.append_assoc, ← List.flatMap_append, List.take_append_drop]
  change HC _ _ _ [(r, .cells (xs.flatMap Q7 ++ sp).toArray 97 (0, 0))] _ _ _; rw [hsplit]
  have hcap : xs.length ≤ cap := by omega
  have hi1 : ((xs.take (i + 1)).filter fun x => !pr x).length = i := by rw [hif, List.length_take]; omega
  refine Gy ?_; refine Ew ?_; refine Gb ?_; refine Jw (σ := Nat × List Value) (fun s => s.1 ≤ xs.length ∧ ((xs.take s.1).filter fun x => !pr x).length < s.1 ∧ s.2.length + ((xs.take s.1).filter fun x => !pr x).length * 2 = s.1 * 2) (fun s => [(0, .slice (some ⟨r, 0, none⟩) xs.length cap), (1, .func (.func g) #[] caps.toArray), (5, .int .i64 (((xs.take s.1).filter fun x => !pr x).length : Nat)), (6, .int .i64 (s.1 : Int))]) (fun s => [(r, .cells (((xs.take s.1).filter fun x => !pr x).flatMap Q7 ++ (s.2 ++ ((xs.drop s.1).flatMap Q7 ++ sp))).toArray 97 (0, 0))]) (fun _ _ _ => True) (fun s => xs.length - s.1) (i + 1, Q7 x0) ⟨by simp only; omega, by simp only; omega, by simp only [Ki]; omega⟩ (.cons rfl (.cons rfl (.cons (by rw [hi1]; rfl) (.cons rfl .nil)))) (List.Sublist.refl _) (fun _ _ h => h) ?_; rintro ⟨j, G⟩ ⟨hj1, hj2, hG⟩; simp only at hj1 hj2 hG; change HC _ _ [(0, _), (1, _), (5, .int .i64 (((xs.take j).filter fun x => !pr x).length : Nat)), (6, .int .i64 (j : Int))] [(r, .cells (((xs.take j).filter fun x => !pr x).flatMap Q7 ++ (G ++ ((xs.drop j).flatMap Q7 ++ sp))).toArray 97 (0, 0))] _ _ _; refine EV ?_; refine ki ?_; refine cD (fun h11 => ?_) fun h11 => ?_
  refine gk ?_
  obtain ⟨x, hx, hmx⟩ := QD (show j < xs.length by omega)
  rw [Jfz hx, List.append_assoc (Q7 x)]; refine Gy ?_; refine LR O (JO (j := j) (m := 2) O O O O O m5 O) (LR O (Jz (n := 2) (vs := Q7 x) O (kn 0 O) O O (by simp only [List.toList_toArray]; rw [← List.append_assoc, List.drop_left' (by rw [List.length_append, KO Ki]; omega), List.take_left' (Ki x)]) rfl) (LN rfl fun r1 => Jj (k := 0) (n := 2) (ys := Q7 x) rfl rfl rfl rfl rfl rfl rfl rfl rfl (kL ?_))); refine LR O (Jd (xs := Q7 x) (n := 2) O (kn 0 O) O O O) (Ji O O O eg (hg x hmx) oR (ki ?_)); refine cD (fun h15 => ?_) fun h15 => ?_
  refine HS ?_
  obtain ⟨M, G2, hcut, lM⟩ := cut (l := G ++ Q7 x) (a := 2) (by rw [List.length_append, Ki]; omega)
  have lG2 : G2.length = G.length := by have := congrArg List.length hcut; simp only [List.length_append, Ki] at this; omega
  have hkeep := YC (pr := fun x => !pr x) hx
  rw [if_pos (by simp_all)] at hkeep; refine Gy ?_; refine LR O (Jd (xs := Q7 x) (n := 2) O (kn 0 O) O O O) (LR O (JO (j := ((xs.take j).filter fun x => !pr x).length) (m := 2) O O O O O m5 O) (Q8 (k := 1) (n := 2) (vs := (Q7 x).toArray) (cs' := (((xs.take j).filter fun x => !pr x).flatMap Q7 ++ (Q7 x ++ (G2 ++ ((xs.drop (j + 1)).flatMap Q7 ++ sp)))).toArray) O O O O O O O (by simp only [List.size_toArray, List.length_append, KO Ki]; omega) (by apply Array.toList_inj.1; simp only [List.toList_toArray, Nat.zero_add]; rw [show G ++ (Q7 x ++ ((xs.drop (j + 1)).flatMap Q7 ++ sp)) = M ++ (G2 ++ ((xs.drop (j + 1)).flatMap Q7 ++ sp)) by rw [← List.append_assoc, hcut, List.append_assoc]]; exact XY (KO Ki _) lM) O (kL ?_))); refine Ew ?_; refine D8 ?_; exact Jo (j + 1, G2) ⟨by simp only; omega, by simp only; rw [hkeep, List.length_append, List.length_singleton]; omega, by simp only; rw [hkeep, List.length_append, List.length_singleton]; omega⟩ mh (.cons rfl (.cons rfl (.cons (by simp only [Vg]; rw [hkeep, List.length_append, List.length_singleton]; rfl) (.cons rfl .nil)))) (by simp only [hkeep, List.flatMap_append, List.flatMap_singleton, List.append_assoc]; exact List.sublist_cons_self _ _) (fun _ _ h => h)
  refine Hs ?_
  (have hdel := YC (pr := fun x => !pr x) hx
   rw [if_neg (by simp_all), List.append_nil] at hdel
   exact Jo (j + 1, G ++ Q7 x) ⟨by simp only; omega, by simp only; rw [hdel]; omega, by simp only [List.length_append, Ki]; rw [hdel]; omega⟩ mh (.cons rfl (.cons rfl (.cons (by simp only [Vg]; rw [hdel]; try rfl) (.cons rfl .nil)))) (by simp only [hdel, List.append_assoc]; exact List.sublist_cons_self _ _) (fun _ _ h => h))
  ·refine NO ?_
   have hjn : j = xs.length := by omega
   have hdrop : (xs.drop j).flatMap Q7 = [] := by rw [List.drop_of_length_le m5]; rfl
   rw [hdrop, List.nil_append]; refine Gy ?_; refine LR O (Ke (sz := 2) (m := ((xs.take j).filter fun x => !pr x).length) (kl := some ((xs.take j).filter fun x => !pr x).length) (kh := none) (km := none) (q := xs.length) (z := cap) (off' := ((xs.take j).filter fun x => !pr x).length * 2) O O O ⟨_, rfl⟩ trivial trivial O O O m5 m5 m5 (fun _ => rfl) mq) (Jao (k := 0) (sz := 2) O O O O O O O m7 (by simp only [List.size_toArray, List.length_append, KO Ki, List.length_drop]; omega) (XY (P := ((xs.take j).filter fun x => !pr x).flatMap Q7) (M := G) (S := sp) (KO Ki _) m5) rfl (Gu ?_))
   refine LR O (Ke (sz := 2) (q := ((xs.take j).filter fun x => !pr x).length) (kl := none) (kh := some ((xs.take j).filter fun x => !pr x).length) (km := none) (m := 0) (z := cap) (off' := 0) O O O trivial ⟨_, rfl⟩ trivial O O O m5 m5 m5 (fun h => by cases h) MH) (gM ?_); refine NW fun w1 hs1 => ?_
   (have hfull : (xs.take j).filter (fun x => !pr x) = xs.filter fun x => !pr x := by rw [hjn, List.take_length]
    rw [hfull] at hs1 ⊢; refine ⟨⟨some (r, cap, _), KO Ki _, ?_⟩, rfl, hs1.weakL (by simp only [JE]; exact List.Sublist.refl _)⟩
    have hz : ∀ n, (Builtin.zeroCells (Value.agg #[Value.string ⟨#[]⟩, Value.string ⟨#[]⟩]).cells n).toList.length = n * 2 := fun n => by rw [Array.length_toList, size_zeroCells]; rfl
    rw [List.length_append, hz]
    have := List.length_filter_le (fun x => !pr x) xs
    omega)
theorem J4g {a : AcL} (ha : a.In R) (k v : BS) : PureT (α := AcRes R (VP a.er k v)) Tryz.prog 197 [a.val, J5 k, J5 v].toArray (fun x => x.val) [] (fun x => x.L) R := by
  have hlk := Jjo ha
  have hl := ha.len
  have hseg := ha.seg
  have hset : VP a.er k v = if Wz a.er ≠ 0 then (a.er, Wz a.er) else if k.length ≠ 32 ∨ v.length ≠ 32 then (a.er, 2) else if (KK a.slots k v).length > 16 then (a.er, 5) else (⟨a.addr, a.nonce, a.bal, a.code, KK a.slots k v⟩, 0) := rfl
  refine J4 Tryz.func197 O O fun w => NB fun r1 r2 => ?_; refine LN O fun r3 => Gu ?_; refine gA ?_; refine Ji O O O J11 hlk oR (H2 ?_); refine cD (fun g => ?_) fun g => ?_
  refine F7 ?_
  refine Hw ?_; refine Nu fun w1 hs1 => ?_; exact Eo
  · refine gn ?_; refine Eu ?_; refine F8 ?_
    refine Jv 19 O (fun gb => ?_) (fun gb => ?_) <;> (try simp only [ZZ] at gb) <;> first | (refine Q1 O ?_) | (refine LK O ?_)
    all_goals refine gc ?_
    all_goals (
     refine kp ?_; refine J7 O (fun g => ?_) (fun g => ?_)
     try simp only [ZZ] at g
     refine kE ?_; refine gA ?_
     refine Hw ?_; refine Nu fun w1 hs1 => ?_; exact Eb
     · try exact Bool.noConfusion g
       all_goals try simp only [ZZ] at g
       all_goals (
        refine GU ?_
        have hok : KN Prod.fst a.slots ∧ a.slots.length ≤ 16 := ⟨(Ve (a := a.er) m5).2.2.1, (Ve (a := a.er) m5).2.2.2.2⟩
        have hinl : (Qo Prod.fst (k, v) a.slots).length ≤ 17 := by
          have := hok.2
          rw [Jcp hok.1]
          split <;> omega
        refine Qy 5 [2, 1] O O (Gj ?_); refine Kn O O O (enters_of Tryz.func257 m6 O) (Jy4 (by have := hok.2; omega) hseg hok.1 (k, v)) oR fun x => ?_
        obtain ⟨row, hrow⟩ := x
        refine GL ?_; change HL _ _ ((30, J9 (Qo Prod.fst (k, v) a.slots).length row) :: _) ((r3, _) :: (r2, _) :: (r1, _) :: JE _ _ row) _ _ _ _; refine gY ?_; refine Jn O O O (enters_of Tryz.func116 m6 O) Jud (LR O (W7 O O) (H9 ?_)); refine cD (fun g => ?_) fun g => ?_
        have hdC := Jui (R := [(r2, Obj.cells #[J5 k] 9 (0, 0))]) (caps := [.pointer (some ⟨r2, 0, none⟩)]) (pr := fun x => decide (x.1 = k)) m5 hrow (enters_of Tryz.func259 m6 rfl) (fun x _ => J2i List.mem_cons_self x)
        rw [Jix, show ZE Prod.fst k a.slots = KK a.slots k v from by unfold KK; rw [if_pos m9]] at hdC; refine kE ?_; refine kJ ?_; refine QK (T := JE _ _ row) (L0 := [(r3, _), (r2, _), (r1, _)]) (Rl := [(r2, Obj.cells #[J5 k] 9 (0, 0))]) (List.perm_append_comm (l₁ := [_, _, _])) O O O (enters_of Tryz.func258 m6 O) hdC (fun q hq => Or.inl (by rw [List.mem_singleton.1 hq]; exact List.mem_cons_of_mem _ List.mem_cons_self)) fun x => ?_
        obtain ⟨row2, hrow2⟩ := x
        refine GL ?_; change HL _ _ ((36, J9 (KK a.slots k v).length row2) :: _) ((r3, _) :: (r2, _) :: (r1, _) :: JE _ _ row2) _ _ _ _; refine JN 5 O ?_
        try rw [show Qo Prod.fst (k, v) a.slots = KK a.slots k v from by unfold KK; rw [if_neg m9]] at hrow ⊢
        refine kE ?_; refine LR O (VW O hrow2.zero O) (ki ?_); refine cD (fun g => ?_) fun g => ?_
        exact FZ
        refine Gq ?_; refine Ko (k := 2) (cs' := #[J5 a.addr, uV a.nonce, uV a.bal.a, uV a.bal.b, uV a.bal.c, uV a.bal.d, J5 a.code, J9 (KK a.slots k v).length row2]) O O O O O (WE _ _) O O O O (Ge ?_); refine gA ?_; refine Q8 (k := 0) (n := 8) (cs' := #[J5 a.addr, uV a.nonce, uV a.bal.a, uV a.bal.b, uV a.bal.c, uV a.bal.d, J5 a.code, J9 (KK a.slots k v).length row2]) (vs := #[_, _, _, _, _, _, _, _]) O O O O O O mW mR O O (gM ?_); refine Nu fun w1 hs1 => ?_
        (rw [hset, if_neg m5, if_neg m5, if_neg m5]
         exact ⟨⟨⟨a.addr, a.nonce, a.bal, a.code, KK a.slots k v, KY row2⟩, 0, JE 97 ((KK a.slots k v).flatMap Q7) row2, Zk ha m5 m5 m5 (JQ hrow2 m7), rfl⟩, by show Ending.returned _ = Ending.returned (Value.tuple #[Value.agg #[J5 a.addr, uV a.nonce, uV a.bal.a, uV a.bal.b, uV a.bal.c, uV a.bal.d, J5 a.code, KA (KK a.slots k v).length (KY row2)], .int .i64 0]); rw [QG _ _ hrow2.zero]; rfl, hs1.weakL (List.sublist_append_right [_, _, _] _)⟩)
        refine FR ?_
        try rw [show Qo Prod.fst (k, v) a.slots = KK a.slots k v from by unfold KK; rw [if_neg m9]] at hrow ⊢
        refine kE ?_; refine LR O (VW O hrow.zero O) (ki ?_); refine cD (fun g => ?_) fun g => ?_
        exact FZ
        refine Ic ?_; refine Ge ?_; refine gA ?_; refine Q8 (k := 0) (n := 8) (cs' := #[J5 a.addr, uV a.nonce, uV a.bal.a, uV a.bal.b, uV a.bal.c, uV a.bal.d, J5 a.code, J9 (KK a.slots k v).length row]) (vs := #[_, _, _, _, _, _, _, _]) O O O O O O mW mR O O (gM ?_); refine Nu fun w1 hs1 => ?_
        (rw [hset, if_neg m5, if_neg m5, if_neg m5]
         exact ⟨⟨⟨a.addr, a.nonce, a.bal, a.code, KK a.slots k v, KY row⟩, 0, JE 97 ((KK a.slots k v).flatMap Q7) row, Zk ha m5 m5 m5 (JQ hrow m7), rfl⟩, by show Ending.returned _ = Ending.returned (Value.tuple #[Value.agg #[J5 a.addr, uV a.nonce, uV a.bal.a, uV a.bal.b, uV a.bal.c, uV a.bal.d, J5 a.code, KA (KK a.slots k v).length (KY row)], .int .i64 0]); rw [QG _ _ hrow.zero]; rfl, hs1.weakL (List.sublist_append_right [_, _, _] _)⟩)
        skip)
     skip)
theorem J4h {a : AcL} (hs : s.In R) (ha : a.In R) : PureT (α := StRes R (ZQ s.er a.er)) Tryz.prog 196 [s.val, a.val].toArray (fun x => x.val) [] (fun x => x.L) R := by
 have hc := jz hs
 have hlk := Jjo ha
 have hl := hs.len
 have hseg := hs.seg
 have hput : ZQ s.er a.er = if KP s.er ≠ 0 then (s.er, KP s.er) else if Wz a.er ≠ 0 then (s.er, Wz a.er) else if (Qo AcE.addr a.er s.er).length > 32 then (s.er, 5) else (Qo AcE.addr a.er s.er, 0) := rfl
 have hil : (Qo AcE.addr a.er s.er).length = (Qo AcL.addr a s.accts).length := by unfold StL.er; rw [← Jcz, List.length_map]
 rw [hil] at hput; refine J4 Tryz.func196 O O fun w => NB fun r1 r2 => ?_; refine LN O fun r3 => Gu ?_; refine Fq ?_; refine Ji O O O Jxq hc oR (H2 ?_); refine cD (fun g => ?_) fun g => ?_
 refine F7 ?_
 refine Hw ?_; refine NR fun w1 hs1 => ?_; rw [hput, if_pos m5]; exact GH
 ·refine gn ?_; refine DU ?_; refine Ji O O O J11 hlk oR (H2 ?_); refine cD (fun g => ?_) fun g => ?_
  refine F7 ?_
  refine Hw ?_; refine NR fun w1 hs1 => ?_; exact E2
  ·refine GU ?_
   have hok : s.accts.length ≤ 32 ∧ KN AcL.addr s.accts := by
    have h := XV.1 (show KP s.er = 0 by omega)
    rw [s.er_len] at h; exact ⟨h.1, (Jas s).2 h.2.2⟩
   refine Qy 4 [2, 1] O O (Kn O O O (enters_of Tryz.func256 m6 O) (Jy3 m5 hseg hok.2 a) oR fun x => ?_)
   obtain ⟨row, hrow⟩ := x
   refine GL ?_; change HL _ _ ((24, J9 (Qo AcL.addr a s.accts).length row) :: _) ((r3, _) :: (r2, _) :: (r1, _) :: JE _ _ row) _ _ _ _; refine gY ?_; refine LR O (VW O hrow.zero O) (ki ?_); refine cD (fun g => ?_) fun g => ?_
   refine kE ?_; refine Fq ?_
   refine Hw ?_; refine NR fun w1 hs1 => ?_; rw [hput, if_neg m5, if_neg m5, if_pos m5]; exact Fw
   ·refine gn ?_
    refine LR O (Ju (r := [J9 _ row]) O (by cases row <;> rfl)) ?_; refine Q8 (k := 0) (n := 1) (cs' := #[J9 (Qo AcL.addr a s.accts).length row]) (vs := #[_]) O O O O O O mW mR O O ?_; refine gM ?_; refine NR fun w1 hs1 => ?_
    (rw [hput, if_neg m5, if_neg m5, if_neg m5]
     exact ⟨⟨⟨Qo AcL.addr a s.accts, KY row⟩, 0, JE 48 ((Qo AcL.addr a s.accts).flatMap AcL.cells) row, ⟨by show (Qo AcL.addr a s.accts).length ≤ 9223372036854775807; omega, (JQ hrow m7).mono fun q hq => List.mem_append_left _ hq, fun x hx => ((q7 hx).elim (fun e => by rw [e]; exact ha) (hs.accts x)).mono fun q hq => List.mem_append_right _ hq⟩, by unfold StL.er; rw [Jcz]⟩, by show Ending.returned _ = Ending.returned (Value.tuple #[Value.agg #[KA (Qo AcL.addr a s.accts).length (KY row)], .int .i64 0]); rw [QG _ _ hrow.zero]; rfl, hs1.weakL (List.sublist_append_right [_, _, _] _)⟩)
theorem xl (f : Int) : decide (Q0 f) = (decide (f ≥ 0) && decide (f ≤ 5)) := by
 rw [Bool.eq_iff_iff, Bool.and_eq_true, decide_eq_true_eq, decide_eq_true_eq, decide_eq_true_eq]; exact Iff.rfl
theorem Jhj (f : Int) : Pure Tryz.prog 55 [.int .i64 f].toArray (.bool (decide (Q0 f))) := by
 rw [xl]; refine Jl Tryz.func55 O O fun w => JJ (Jt 10 O ?_)
 refine Jv 5 O (fun gb => ?_) (fun gb => ?_) <;> (try simp only [ZZ] at gb) <;> first | (refine Q1 O ?_) | (refine LK O ?_)
 all_goals (
  refine FQ fun w1 hs1 => ?_
  simp_all [JB]
  all_goals first | done | omega | trace_state
  skip)
theorem Juj : WOk w40.l := w40_ok.wok
theorem Jy8 : Pure Tryz.prog 58 [].toArray (J5 Qx) := by
 rw [J1q]; refine Jl Tryz.func58 O O fun w => E3 ?_; refine kD ?_; refine Jn O O O Jf6 (Vs Juj) ?_; exact NU
theorem J2j {n : Nat} (h : Wr n) : Pure Tryz.prog 61 [uV n].toArray (J5 (WX n)) := by
 refine Jl Tryz.func61 O O fun w => Gi ?_; refine Jn O O O wu (Wu n) (Jn O O O Jf6 (Vs (Jcs h).wok) ?_); exact NU
theorem P_Addr0 : Pure Tryz.prog 19 [.int .i64 0].toArray (J5 A0) := by
 refine Jl Tryz.func19 O O fun w => JJ (JC 16 O (J7 O (fun g => ?_) (fun g => ?_)))
 try exact Bool.noConfusion g
 ·try simp only [ZZ] at g
  refine gZ ?_; refine Gk fun r1 => ?_; exact DG
theorem Jy9 : Pure Tryz.prog 19 [.int .i64 1].toArray (J5 A1) := by
 refine Jl Tryz.func19 O O fun w => JJ (JC 16 O (J7 O (fun g => ?_) (fun g => ?_)))
 try exact Bool.noConfusion g
 ·try simp only [ZZ] at g
  refine gZ ?_; refine Gk fun r1 => ?_; exact Eh
theorem Jza (h : f < 0 ∨ f > 1) : Pure Tryz.prog 19 [.int .i64 f].toArray (J5 []) := by
  refine Jl Tryz.func19 O O fun w => JJ (Jt 11 O ?_)
  refine Jv 6 O (fun gb => ?_) (fun gb => ?_) <;> (try simp only [ZZ] at gb) <;> first | (refine Q1 O ?_) | (refine LK O ?_)
  all_goals (
   refine kp ?_; refine J7 O (fun g => ?_) (fun g => ?_)
   try simp only [ZZ] at g
   refine Kk 7 O (NW fun w1 hs1 => ?_)
   first | exact ⟨rfl, hs1.keep⟩ | (exfalso; omega)
   · try exact Bool.noConfusion g
     all_goals try simp only [ZZ] at g
     all_goals (
      refine gZ ?_
      exfalso; omega
      skip)
   skip)
theorem Juk (f : Int) : Pure Tryz.prog 19 [.int .i64 f].toArray (J5 (QL f)) := by
 by_cases h0 : f = 0
 ·subst h0; exact P_Addr0
 ·by_cases h1 : f = 1
  ·subst h1; exact Jy9
  ·have h : f < 0 ∨ f > 1 := by omega
   have e : QL f = [] := by unfold QL; rw [if_pos h]
   rw [e]; exact Jza h
def cdC (p : Int × BS) : List Value := [.int .i64 p.1, J5 p.2]
theorem Jmr (p : Int × BS) : (cdC p).length = 2 := rfl
def codes0 : List (Int × BS) := [(0, cOne), (1, J3p), (3, Jri), (5, J0m)]
def codes1 : List (Int × BS) := [(2, J3q)]
def YN (f : Int) : List (Int × BS) → BS × Bool → BS × Bool
 | [], acc => acc
 | p :: l, acc => YN f l (if f ≥ p.1 then (p.2, true) else acc)
theorem wD (h : Q0 f) : YN f codes0 ([], false) = Qf f 0 ∧ YN f codes1 ([], false) = Qf f 1 := by
 rcases Zg h with rfl | rfl | rfl | rfl | rfl | rfl <;> exact ⟨by decide +kernel, by decide +kernel⟩
theorem xm {f : Int} {p : Int × BS} : ∀ (l : List (Int × BS)) (acc : BS × Bool), YN f (l ++ [p]) acc = if f ≥ p.1 then (p.2, true) else YN f l acc
 | [], acc => rfl
 | q :: l, acc => by rw [List.cons_append, YN, YN, xm l]
theorem VH {l : List (Int × BS)} {p : Int × BS} (h : l[i]? = some p) : YN f (l.take (i + 1)) ([], false) = if f ≥ p.1 then (p.2, true) else YN f (l.take i) ([], false) := by
 obtain ⟨h1, h2⟩ := List.getElem?_eq_some_iff.1 h
 rw [List.take_succ_eq_append_getElem h1, h2, xm]
theorem Jms : PureE (α := Nat × Nat) Tryz.prog 111 [].toArray (fun p => .agg #[.slice (some ⟨p.1, 0, none⟩) 4 4, .slice (some ⟨p.2, 0, none⟩) 1 1]) (fun p => [(p.2, .cells (codes1.flatMap cdC).toArray 160 (0, 0)), (p.1, .cells (codes0.flatMap cdC).toArray 160 (0, 0))]) := by
 refine Kq Tryz.func111 O O fun w => Nj fun r1 => ?_; refine Ge ?_; refine Gj ?_; refine Gj ?_; refine Gj ?_; refine Gj ?_; refine J0 (vs := [_, _, _, _]) (zs := [_, _, _, _, _, _, _, _]) (r := [_, _, _, _, _, _, _, _]) O O O O O O O O O mj O fun r2 => Gj ?_; refine J0 (vs := [_]) (zs := [_, _]) (r := [_, _]) O O O O O O O O O mj O fun r3 => Gj ?_
 refine LT 2 O O (H6 ?_); refine Jf O O (.cons (Js (vs := [_, _]) O (kn 2 O) O O) .nil) (fun w1 hs1 => ?_); exact ⟨(r2, r3), rfl, hs1.weakL (.cons_cons _ (.cons_cons _ (List.nil_sublist _)))⟩
theorem J4i (hf : Q0 f) : Pure Tryz.prog 56 [.int .i64 f, .int .i64 0].toArray (.tuple #[J5 (Qf f 0).1, .bool (Qf f 0).2]) := by
 refine I0 fun w pp => ?_
 obtain ⟨p1, p2⟩ := pp
 change HL _ _ _ [(p2, _), (p1, _)] _ _ _ _; refine Q1 O (LR O (yG (j := 0) O O O O O O m7 O) (LR O (Kc O O) ?_)); refine Gb ?_; refine Jw (σ := Nat) (fun i => i ≤ 4) (fun i => [(0, .int .i64 f), (6, J5 (YN f (codes0.take i) ([], false)).1), (7, .bool (YN f (codes0.take i) ([], false)).2), (12, .slice (some ⟨p1, 0, none⟩) 4 4), (13, .int .i64 4), (14, .int .i64 (i : Int))]) (fun _ => [(p2, .cells (codes1.flatMap cdC).toArray 160 (0, 0)), (p1, .cells (codes0.flatMap cdC).toArray 160 (0, 0))]) (fun _ _ _ => True) (fun i => 4 - i) 0 (Nat.zero_le _) (lK O) (List.Sublist.refl _) (fun _ _ h => h) ?_; intro i hi1; refine NO ?_; refine cD (fun g => ?_) fun g => ?_
 refine gk ?_
 obtain ⟨p, hp, -⟩ := QD (l := codes0) (show i < 4 by omega)
 refine HY ?_; refine LR O (JO (j := i) (m := 2) (off' := i * 2) O O O O O m5 m5) (LR O (Jz (n := 2) (vs := cdC p) O (kn 1 O) O O (Xf Jmr hp) O) (LN O fun r1 => ?_))
 refine NQ ?_; refine Goc 10 [0] O O (cD (fun g => ?_) fun g => ?_)
 exact HM
 exact Dv
 ·refine Kk 14 O (NA fun w1 hs1 => ?_)
  obtain rfl : i = 4 := by omega
  rw [← (wD hf).1]
  rfl
theorem J4j (hf : Q0 f) : Pure Tryz.prog 56 [.int .i64 f, .int .i64 1].toArray (.tuple #[J5 (Qf f 1).1, .bool (Qf f 1).2]) := by
 refine I0 fun w pp => ?_
 obtain ⟨p1, p2⟩ := pp
 change HL _ _ _ [(p2, _), (p1, _)] _ _ _ _; refine Q1 O (LR O (yG (j := 1) O O O O O O m7 O) (LR O (Kc O O) ?_)); refine Gb ?_; refine Jw (σ := Nat) (fun i => i ≤ 1) (fun i => [(0, .int .i64 f), (6, J5 (YN f (codes1.take i) ([], false)).1), (7, .bool (YN f (codes1.take i) ([], false)).2), (12, .slice (some ⟨p2, 0, none⟩) 1 1), (13, .int .i64 1), (14, .int .i64 (i : Int))]) (fun _ => [(p2, .cells (codes1.flatMap cdC).toArray 160 (0, 0)), (p1, .cells (codes0.flatMap cdC).toArray 160 (0, 0))]) (fun _ _ _ => True) (fun i => 1 - i) 0 (Nat.zero_le _) (lK O) (List.Sublist.refl _) (fun _ _ h => h) ?_; intro i hi1; refine NO ?_; refine cD (fun g => ?_) fun g => ?_
 refine gk ?_
 obtain ⟨p, hp, -⟩ := QD (l := codes1) (show i < 1 by omega)
 refine HY ?_; refine LR O (JO (j := i) (m := 2) (off' := i * 2) O O O O O m5 m5) (LR O (Jz (n := 2) (vs := cdC p) O (kn 0 O) O O (Xf Jmr hp) O) (LN O fun r1 => ?_))
 refine NQ ?_; refine Goc 10 [0] O O (cD (fun g => ?_) fun g => ?_)
 exact HM
 exact Dv
 ·refine Kk 14 O (NA fun w1 hs1 => ?_)
  obtain rfl : i = 1 := by omega
  rw [← (wD hf).2]
  rfl
def Q4 (r o : Nat) : Value := .pointer (some ⟨r, o, none⟩)
theorem vQ (r : Nat) : Pure Tryz.prog 179 [Q4 r 0].toArray (Q4 r 14) := by
 refine Jl Tryz.func179 O O fun w => ?_; exact gW
theorem Jul (r : Nat) : Pure Tryz.prog 181 [Q4 r 0].toArray (Q4 r 0) := by
 refine Jl Tryz.func181 O O fun w => ?_; exact gW
theorem Jum (r : Nat) : Pure Tryz.prog 182 [Q4 r 0].toArray (Q4 r 1) := by
 refine Jl Tryz.func182 O O fun w => ?_; exact gW
theorem Jun (r : Nat) : Pure Tryz.prog 184 [Q4 r 0].toArray (Q4 r 2) := by
 refine Jl Tryz.func184 O O fun w => ?_; exact gW
theorem Juo (r : Nat) : Pure Tryz.prog 185 [Q4 r 0].toArray (Q4 r 10) := by
 refine Jl Tryz.func185 O O fun w => ?_; exact gW
theorem Jup (r : Nat) : Pure Tryz.prog 186 [Q4 r 0].toArray (Q4 r 15) := by
 refine Jl Tryz.func186 O O fun w => ?_; exact gW
theorem Juq (r : Nat) : Pure Tryz.prog 187 [Q4 r 0].toArray (Q4 r 6) := by
 refine Jl Tryz.func187 O O fun w => ?_; exact gW
theorem Jdw (r : Nat) : Pure Tryz.prog 188 [Q4 r 0].toArray (Q4 r 16) := by
 refine Jl Tryz.func188 O O fun w => ?_; exact gW
theorem Jmt  {x y : Nat} (egl : Enters Tryz.prog gl) (egh : Enters Tryz.prog gh) (hgl : ∀ ρ, Pure Tryz.prog gl [Q4 ρ 0].toArray (Q4 ρ ol)) (hgh : ∀ ρ, Pure Tryz.prog gh [Q4 ρ 0].toArray (Q4 ρ oh))
  (h1 : (b1, Obj.cells #[fV gl] e1 (0, 0)) ∈ R) (h2 : (b2, Obj.cells #[fV gh] e2 (0, 0)) ∈ R) (r : Rec) (hx : X7 r.cells ol = some (uV x)) (hy : X7 r.cells oh = some (uV y)) : PureR Tryz.prog 239 [r.val, Q4 b1 0, Q4 b2 0].toArray (wV [x, y, 0, 0]) R := by
 refine H8 fun w rb r1 => ?_; refine LN O fun r2 => ?_
 refine NQ ?_; refine kL ?_; refine E1 ?_; refine J7 O (fun g => ?_) (fun g => ?_)
 try simp only [ZZ] at g
 refine HY ?_; refine LR O (Je O (Or.inr h2) O O) (Jn O O O egh (hgh rb) (QN O (LR O (Je O (kn 2 O) O hy) ?_)))
 refine LR O (JD (j := 1) O O O O O my ma) ?_
 refine NQ ?_; refine Ge ?_; exact GA
 ·try exact Bool.noConfusion g
theorem Jmu  {x y : Nat} (egl : Enters Tryz.prog gl) (egh : Enters Tryz.prog gh) (hgl : ∀ ρ, Pure Tryz.prog gl [Q4 ρ 0].toArray (Q4 ρ ol)) (hgh : ∀ ρ, Pure Tryz.prog gh [Q4 ρ 0].toArray (Q4 ρ oh))
  (h1 : (b1, Obj.cells #[fV gl] e1 (0, 0)) ∈ R) (h2 : (b2, Obj.cells #[.nilFunc] e2 (0, 0)) ∈ R) (r : Rec) (hx : X7 r.cells ol = some (uV x)) (hy : X7 r.cells oh = some (uV y)) : PureR Tryz.prog 239 [r.val, Q4 b1 0, Q4 b2 0].toArray (wV [x, 0, 0, 0]) R := by
 refine H8 fun w rb r1 => ?_; refine LN O fun r2 => ?_
 refine NQ ?_; refine kL ?_; refine E1 ?_; refine J7 O (fun g => ?_) (fun g => ?_)
 try exact Bool.noConfusion g
 ·try simp only [ZZ] at g
  refine gZ ?_; exact GA
theorem Jdx {x : W4} (eg : Enters Tryz.prog g) (hg : ∀ ρ, Pure Tryz.prog g [Q4 ρ 0].toArray (Q4 ρ o)) (h1 : (b1, Obj.cells #[fV g] e1 (0, 0)) ∈ R) (r : Rec) (hx : (r.cells.drop o).take 4 = x.l.map uV) : PureR Tryz.prog 241 [r.val, Q4 b1 0].toArray (wV x.l) R := by
 refine Jc Tryz.func241 O O fun w => G8 fun rb => ?_; refine LN O fun r1 => Ge ?_; refine LR O (Je O (Or.inr h1) O O) (Jn O O O eg (hg rb) (QN O (LR O (Jz (n := 4) (vs := x.l.map uV) O (kn 1 O) O O hx O) ?_)))
 exact Dh
theorem Jmv (egl : Enters Tryz.prog gl) (egh : Enters Tryz.prog gh) (hgl : ∀ ρ, Pure Tryz.prog gl [Q4 ρ 0].toArray (Q4 ρ ol)) (hgh : ∀ ρ, Pure Tryz.prog gh [Q4 ρ 0].toArray (Q4 ρ oh))
  (h1 : (b1, Obj.cells #[fV gl] e1 (0, 0)) ∈ R) (h2 : (b2, Obj.cells #[fV gh] e2 (0, 0)) ∈ R) (r : Rec) (w4 : W4) (ho : ol < 17) (ho2 : oh < 17) : PureT (α := Unit) Tryz.prog 240 [Q4 ρ 0, wV w4.l, Q4 b1 0, Q4 b2 0].toArray (fun _ => .tuple #[]) [(ρ, .cells r.cells.toArray 29 (0, 0))] (fun _ => [(ρ, .cells ((r.cells.set ol (uV w4.a)).set oh (uV w4.b)).toArray 29 (0, 0))]) R := by
 refine HV fun w r1 => ?_; refine JS (Ff ?_); refine Ko (k := 1) (cs' := (r.cells.set ol (uV w4.a)).toArray) O O O O O O (by rw [List.getElem?_toArray, List.getElem?_eq_getElem (show ol < r.cells.length from ho)]; rfl) rfl ml rfl ?_; refine Ge ?_; refine E1 ?_; refine J7 O (fun g => ?_) (fun g => ?_)
 try simp only [ZZ] at g
 refine JK 5 m6 m6 (Ja O O O (Je O (Or.inr h2) O O) (Nm ?_)); refine KI O O O egh (hgh ρ) ?_
 refine Hf ?_; refine JS (Ff ?_); refine Ko (k := 1) (cs' := ((r.cells.set ol (uV w4.a)).set oh (uV w4.b)).toArray) O O O O O O (by rw [List.getElem?_toArray, List.getElem?_eq_getElem (show oh < (r.cells.set ol (uV w4.a)).length from by rw [List.length_set]; exact ho2)]; rfl) O ml O ?_; refine J1 1 O ?_; exact GW
 ·try exact Bool.noConfusion g
theorem Jmw (egl : Enters Tryz.prog gl) (egh : Enters Tryz.prog gh) (hgl : ∀ ρ, Pure Tryz.prog gl [Q4 ρ 0].toArray (Q4 ρ ol)) (hgh : ∀ ρ, Pure Tryz.prog gh [Q4 ρ 0].toArray (Q4 ρ oh))
  (h1 : (b1, Obj.cells #[fV gl] e1 (0, 0)) ∈ R) (h2 : (b2, Obj.cells #[.nilFunc] e2 (0, 0)) ∈ R) (r : Rec) (w4 : W4) (ho : ol < 17) (ho2 : oh < 17) : PureT (α := Unit) Tryz.prog 240 [Q4 ρ 0, wV w4.l, Q4 b1 0, Q4 b2 0].toArray (fun _ => .tuple #[]) [(ρ, .cells r.cells.toArray 29 (0, 0))] (fun _ => [(ρ, .cells (r.cells.set ol (uV w4.a)).toArray 29 (0, 0))]) R := by
 refine HV fun w r1 => ?_; refine JS (Ff ?_); refine Ko (k := 1) (cs' := (r.cells.set ol (uV w4.a)).toArray) O O O O O O (by rw [List.getElem?_toArray, List.getElem?_eq_getElem (show ol < r.cells.length from ho)]; rfl) rfl ml rfl ?_; refine Ge ?_; refine E1 ?_; refine J7 O (fun g => ?_) (fun g => ?_)
 try exact Bool.noConfusion g
 ·try simp only [ZZ] at g
  refine Kk 1 O ?_; exact GW
theorem Jdy {cs : List Value} (eg : Enters Tryz.prog g) (hg : ∀ ρ, Pure Tryz.prog g [Q4 ρ 0].toArray (Q4 ρ o)) (h1 : (b1, Obj.cells #[fV g] e1 (0, 0)) ∈ R) (r : Rec) (w4 : W4) (ho : o + 4 ≤ 17) (hcs : r.cells.take o ++ w4.l.map uV ++ r.cells.drop (o + 4) = cs) : PureT (α := Unit) Tryz.prog 242 [Q4 ρ 0, wV w4.l, Q4 b1 0].toArray (fun _ => .tuple #[]) [(ρ, .cells r.cells.toArray 29 (0, 0))] (fun _ => [(ρ, .cells cs.toArray 29 (0, 0))]) R := by
 refine J4 Tryz.func242 O O fun w => Nj fun r1 => ?_; refine H9 ?_; refine JK 4 m6 m6 (Ja O O O (Je O (Or.inr h1) O O) (Nm ?_)); refine KI O O O eg (hg ρ) (Ja O O O (Jz (vs := [_, _, _, _]) O (kn 0 O) O O O O) (JS (QN O (Q8 (k := 1) (n := 4) (vs := (w4.l.map uV).toArray) (cs' := cs.toArray) O O O O O O O ho (by rw [← hcs]) rfl (J1 1 rfl ?_))))); exact GW
def frN : Nat → Int
 | 0 => 0
 | 1 => 0
 | 2 => 0
 | 3 => 0
 | 4 => 3
 | 5 => 3
 | _ => 5
def toN : Nat → Int
 | 0 => 5
 | 1 => 5
 | 2 => 2
 | 3 => 2
 | 4 => 5
 | 5 => 5
 | _ => 5
def Jur : Nat → FuncId
 | 0 => 239
 | 1 => 241
 | 2 => 241
 | 3 => 239
 | 4 => 239
 | 5 => 241
 | _ => 239
def Jus : Nat → FuncId
 | 0 => 240
 | 1 => 242
 | 2 => 242
 | 3 => 240
 | 4 => 240
 | 5 => 242
 | _ => 240
def Jmx (p : Nat → Nat) : Nat → List Value
 | 0 => [Q4 (p 1) 0, Q4 (p 2) 0]
 | 1 => [Q4 (p 3) 0]
 | 2 => [Q4 (p 4) 0]
 | 3 => [Q4 (p 5) 0, Q4 (p 6) 0]
 | 4 => [Q4 (p 7) 0, Q4 (p 8) 0]
 | 5 => [Q4 (p 9) 0]
 | _ => [Q4 (p 10) 0, Q4 (p 11) 0]
def jS (p : Nat → Nat) : Nat → Jx
 | 0 => [(p 2, .cells #[fV 182] 214 (0, 0)), (p 1, .cells #[fV 181] 214 (0, 0))]
 | 1 => [(p 3, .cells #[fV 184] 218 (0, 0))]
 | 2 => [(p 4, .cells #[fV 185] 218 (0, 0))]
 | 3 => [(p 6, .cells #[.nilFunc] 214 (0, 0)), (p 5, .cells #[fV 179] 214 (0, 0))]
 | 4 => [(p 8, .cells #[fV 186] 214 (0, 0)), (p 7, .cells #[fV 179] 214 (0, 0))]
 | 5 => [(p 9, .cells #[fV 187] 218 (0, 0))]
 | _ => [(p 11, .cells #[.nilFunc] 214 (0, 0)), (p 10, .cells #[fV 188] 214 (0, 0))]
def xq (p : Nat → Nat) (i : Nat) : List Value := [uV (W0 i), .int .i64 (frN i), .int .i64 (toN i), .func (.func (Jur i)) #[] (Jmx p i).toArray, .func (.func (Jus i)) #[] (Jmx p i).toArray]
theorem Jut (p : Nat → Nat) (i : Nat) : (xq p i).length = 5 := rfl
theorem Jzc (h : i < 7) : tab[i]? = some i := by
 have : i = 0 ∨ i = 1 ∨ i = 2 ∨ i = 3 ∨ i = 4 ∨ i = 5 ∨ i = 6 := by omega
 rcases this with rfl | rfl | rfl | rfl | rfl | rfl | rfl <;> rfl
theorem lt7 (h : i < 7) : i = 0 ∨ i = 1 ∨ i = 2 ∨ i = 3 ∨ i = 4 ∨ i = 5 ∨ i = 6 := by omega
theorem Juu (hf : Q0 f) (hi : i < 7) : ZF f i = (decide (f ≥ frN i) && decide (f ≤ toN i)) := by
 rcases Zg hf with rfl | rfl | rfl | rfl | rfl | rfl <;> rcases lt7 hi with rfl | rfl | rfl | rfl | rfl | rfl | rfl <;> rfl
theorem wE (h : i < 7) : Enters Tryz.prog (Jur i) := by
 rcases lt7 h with rfl | rfl | rfl | rfl | rfl | rfl | rfl
 ·exact Jlp
 ·exact Jr7
 ·exact Jr7
 ·exact Jlp
 ·exact Jlp
 ·exact Jr7
 ·exact Jlp
theorem Jhk (h : i < 7) : Enters Tryz.prog (Jus i) := by
 rcases lt7 h with rfl | rfl | rfl | rfl | rfl | rfl | rfl
 ·exact Jlq
 ·exact Jr8
 ·exact Jr8
 ·exact Jlq
 ·exact Jlq
 ·exact Jr8
 ·exact Jlq
theorem Jmy {p : Nat → Nat} (hi : i < 7) (hR : ∀ q ∈ jS p i, q ∈ R) (r : Rec) : PureR Tryz.prog (Jur i) (r.val :: Jmx p i).toArray (wV (XW r i).l) R := by
 rcases lt7 hi with rfl | rfl | rfl | rfl | rfl | rfl | rfl
 ·exact Jmt (enters_of Tryz.func181 m6 O) (enters_of Tryz.func182 m6 O) Jul Jum (hR _ (List.mem_cons_of_mem _ List.mem_cons_self)) (hR _ List.mem_cons_self) r O O
 ·exact Jdx (enters_of Tryz.func184 m6 O) Jun (hR _ List.mem_cons_self) r O
 ·exact Jdx (enters_of Tryz.func185 m6 O) Juo (hR _ List.mem_cons_self) r O
 ·exact Jmu Jax Jax vQ vQ (hR _ (List.mem_cons_of_mem _ List.mem_cons_self)) (hR _ List.mem_cons_self) r O O
 ·exact Jmt Jax (enters_of Tryz.func186 m6 O) vQ Jup (hR _ (List.mem_cons_of_mem _ List.mem_cons_self)) (hR _ List.mem_cons_self) r O O
 ·exact Jdx (enters_of Tryz.func187 m6 O) Juq (hR _ List.mem_cons_self) r O
 ·exact Jmu Jll Jll Jdw Jdw (hR _ (List.mem_cons_of_mem _ List.mem_cons_self)) (hR _ List.mem_cons_self) r O O
theorem Jzd {p : Nat → Nat} (hi : i < 7) (hR : ∀ q ∈ jS p i, q ∈ R) (r : Rec) (w4 : W4) : PureT (α := Unit) Tryz.prog (Jus i) (Q4 ρ 0 :: wV w4.l :: Jmx p i).toArray (fun _ => .tuple #[]) [(ρ, .cells r.cells.toArray 29 (0, 0))] (fun _ => [(ρ, .cells (zm r w4 i).cells.toArray 29 (0, 0))]) R := by
 rcases lt7 hi with rfl | rfl | rfl | rfl | rfl | rfl | rfl
 ·exact Jmv (enters_of Tryz.func181 m6 O) (enters_of Tryz.func182 m6 O) Jul Jum (hR _ (List.mem_cons_of_mem _ List.mem_cons_self)) (hR _ List.mem_cons_self) r w4 m7 m7
 ·exact Jdy (enters_of Tryz.func184 m6 O) Jun (hR _ List.mem_cons_self) r w4 m7 O
 ·exact Jdy (enters_of Tryz.func185 m6 O) Juo (hR _ List.mem_cons_self) r w4 m7 O
 ·exact Jmw Jax Jax vQ vQ (hR _ (List.mem_cons_of_mem _ List.mem_cons_self)) (hR _ List.mem_cons_self) r w4 m7 m7
 ·exact Jmv Jax (enters_of Tryz.func186 m6 O) vQ Jup (hR _ (List.mem_cons_of_mem _ List.mem_cons_self)) (hR _ List.mem_cons_self) r w4 m7 m7
 ·exact Jdy (enters_of Tryz.func187 m6 O) Juq (hR _ List.mem_cons_self) r w4 m7 O
 ·exact Jmw Jll Jll Jdw Jdw (hR _ (List.mem_cons_of_mem _ List.mem_cons_self)) (hR _ List.mem_cons_self) r w4 m7 m7
theorem Jbg (k : Nat) (a b : Int) (gl gh : FuncId) : PureE (α := Nat × Nat) Tryz.prog 180 [uV k, .int .i64 a, .int .i64 b, fV gl, fV gh].toArray (fun p => .agg #[uV k, .int .i64 a, .int .i64 b, .func (.func 239) #[] #[Q4 p.1 0, Q4 p.2 0], .func (.func 240) #[] #[Q4 p.1 0, Q4 p.2 0]]) (fun p => [(p.2, .cells #[fV gh] 214 (0, 0)), (p.1, .cells #[fV gl] 214 (0, 0))]) := by
 exact D9
theorem Jbh (k : Nat) (a b : Int) (gl gh : FuncId) : PureE (α := Nat × Nat) Tryz.prog 180 [uV k, .int .i64 a, .int .i64 b, fV gl, .nilFunc].toArray (fun p => .agg #[uV k, .int .i64 a, .int .i64 b, .func (.func 239) #[] #[Q4 p.1 0, Q4 p.2 0], .func (.func 240) #[] #[Q4 p.1 0, Q4 p.2 0]]) (fun p => [(p.2, .cells #[.nilFunc] 214 (0, 0)), (p.1, .cells #[fV gl] 214 (0, 0))]) := by
 exact D9
theorem Jdz (k : Nat) (a b : Int) (g : FuncId) : PureE (α := Nat) Tryz.prog 183 [uV k, .int .i64 a, .int .i64 b, fV g].toArray (fun p => .agg #[uV k, .int .i64 a, .int .i64 b, .func (.func 241) #[] #[Q4 p 0], .func (.func 242) #[] #[Q4 p 0]]) (fun p => [(p, .cells #[fV g] 218 (0, 0))]) := by
 refine Kq Tryz.func183 O O fun w => NB fun r1 r2 => ?_; refine gY ?_; refine kJ ?_; refine kJ ?_; refine LR O (Ju (r := [_, _, _, _, _]) O O) ?_
 refine NQ ?_; refine H6 ?_; refine Jf O O (.cons (Js (vs := [_, _, _, _, _]) O (kn 0 O) O O) .nil) (fun w1 hs1 => ?_); exact ⟨r1, rfl, hs1.weakL (List.sublist_cons_self _ _)⟩
def Juv (p : Nat → Nat) : Jx := (p 0, .cells (tab.flatMap (xq p)).toArray 108 (0, 0)) :: (jS p 6 ++ (jS p 5 ++ (jS p 4 ++ (jS p 3 ++ (jS p 2 ++ (jS p 1 ++ jS p 0))))))
theorem Jze : PureE (α := Nat → Nat) Tryz.prog 113 [].toArray (fun p => .slice (some ⟨p 0, 0, none⟩) 7 7) Juv := by
 refine Kq Tryz.func113 O O fun w => JJ (Jt 12 O (Kj O O O Jlk (Jbg 0 0 5 181 182) fun pp => ?_))
 obtain ⟨a1, a2⟩ := pp
 refine Kj O O O Jr3 (Jdz 1 0 5 184) fun a3 => Kj O O O Jr3 (Jdz 5 0 2 185) fun a4 => Q1 O (Kj O O O Jlk (Jbh 6 0 2 179 179) fun pp => ?_)
 obtain ⟨a5, a6⟩ := pp
 refine Q1 O (Kj O O O Jlk (Jbg 3 3 5 179 186) fun pp => ?_)
 obtain ⟨a7, a8⟩ := pp
 refine Kj O O O Jr3 (Jdz 7 3 5 187) fun a9 => Kj O O O Jlk (Jbh 8 5 5 188 188) fun pp => ?_
 obtain ⟨a10, a11⟩ := pp
 refine J0 (n := 7) (sz := 5) (vs := [_, _, _, _, _, _, _]) (zs := [_, _, _, _, _, _, _, _, _, _, _, _, _, _, _, _, _, _, _, _, _, _, _, _, _, _, _, _, _, _, _, _, _, _, _]) (r := tab.flatMap (xq ([0, a1, a2, a3, a4, a5, a6, a7, a8, a9, a10, a11].getD · 0))) O O O O O O O O O mj O fun rt => gM ?_; refine NW fun w1 hs1 => ?_; exact ⟨([rt, a1, a2, a3, a4, a5, a6, a7, a8, a9, a10, a11].getD · 0), rfl, hs1⟩
theorem Juw (f : Int) : PureE (α := Nat) Tryz.prog 57 [.int .i64 f].toArray (fun p => .func (.func 112) #[] #[Q4 p 0]) (fun p => [(p, .cells #[.int .i64 f] 3 (0, 0))]) := by
 refine Kq Tryz.func57 O O fun w => Nj fun r1 => ?_; exact Fy
def nxT (f : Int) : Nat → List Value → Jx → Nat → Prop := fun i v B i' => i < 7 ∧ i' = i + 1 ∧ ∃ p : Nat → Nat, v = [.agg (xq p i).toArray, .bool (ZF f i)] ∧ B = jS p i
theorem Jux {p : Nat → Nat} (hi : i < 7) : ∀ q ∈ jS p i, q ∈ Juv p := by
 intro q hq
 unfold Juv
 rcases lt7 hi with rfl | rfl | rfl | rfl | rfl | rfl | rfl <;> simp only [List.mem_cons, List.mem_append, hq, true_or, or_true]
theorem Jzf (hf : Q0 f) (hi : i < 7) (h : f ≥ frN i) : decide (f ≤ toN i) = ZF f i := by rw [Juu hf hi, decide_eq_true h, Bool.true_and]
theorem J2l (hf : Q0 f) (hi : i < 7) (h : ¬ f ≥ frN i) : false = ZF f i := by rw [Juu hf hi, decide_eq_false h, Bool.false_and]
theorem Juy (hf : Q0 f) (b : Nat) : Jkf Tryz.prog 112 [Q4 b 0] [(b, .cells #[.int .i64 f] 3 (0, 0))] 0 (nxT f) (fun i => i = 7) := by
  refine wo Tryz.func112 O O fun q xids w2 XI XF hY => NH ?_; refine Kj O O O (enters_of Tryz.func113 m6 O) Jze fun p => ?_; change HL _ _ _ (Juv p ++ []) _ _ _ _; rw [List.append_nil]; refine kF ?_; refine Gb ?_; refine Jw (σ := Nat) (fun i => i ≤ 7) (fun i => [(0, .func (.yield q) #[] #[]), (1, Q4 b 0), (5, .slice (some ⟨p 0, 0, none⟩) 7 7), (6, .int .i64 7), (7, .int .i64 (i : Int))]) (fun _ => Juv p) (fun i => XI i) (fun i => 7 - i) 0 (Nat.zero_le _) (lK O) (List.Sublist.refl _) (fun _ _ h => h) ?_; intro i hi1; refine NO ?_; refine cD (fun g => ?_) fun g => ?_
  · refine Gq ?_; refine LR O (JO (j := i) (m := 5) (off' := i * 5) O O O O O m5 m5) (LR O (Jz (n := 5) (vs := xq p i) O (Or.inl List.mem_cons_self) O O (Xf (Jut p) (Jzc m5)) O) (LN O fun r1 => ?_))
    refine NQ ?_; refine XG 6 [0] O O (gF ?_); refine LS 4 [0] O O ?_
    refine Jv 17 O (fun gb => ?_) (fun gb => ?_) <;> (try simp only [ZZ] at gb) <;> first | (refine LR O (Je O (kn 0 O) O O) ?_) | (refine LR O (Je O (kn 1 O) O O) ?_) | (refine LR O (Je O (JF (k := 0) O) O O) ?_) | (refine LK O ?_)
    all_goals refine NS ?_
    all_goals refine LW 3 [0] O O ?_
    all_goals first | (refine Jq (congrArg Value.bool (Jzf hf m5 m9)) ?_) | (refine Jq (congrArg Value.bool (J2l hf (show i < 7 by omega) m5)) ?_)
    all_goals refine vi (B := jS p i) (XT := XI (i + 1)) (XF := XF) O O O O (hY i [.agg (xq p i).toArray, .bool (ZF f i)] (jS p i) (i + 1) ⟨by omega, rfl, p, rfl, rfl⟩) (fun q hq => List.mem_cons_of_mem _ (Jux m5 q hq)) ?_ ?_
    all_goals (
     refine D5 ?_; refine J7 O (fun g => ?_) (fun g => ?_)
     · try exact Bool.noConfusion g
       all_goals try simp only [ZZ] at g
       all_goals (
        exact Nr
        skip)
     · try exact Bool.noConfusion g
       all_goals try simp only [ZZ] at g
       all_goals (
        refine Gz ?_; exact Jo (i + 1) m5 m5 (lK O) (List.sublist_cons_self _ _) (fun _ _ h => h)
        skip)
     skip)
  · refine gs fun w1 hs1 => ?_
    obtain ⟨xs1, hx1⟩ := hs1.now
    exact ⟨⟨_, rfl⟩, hs1.keep, .inl ⟨i, _, (by show i = 7; omega), hx1⟩⟩
theorem vR {f : Int} {g : Nat → W4} {i : Nat} : ∀ (l : List Nat) (out : Rec), Y9 f g (l ++ [i]) out = if ZF f i then zm (Y9 f g l out) (g i) i else Y9 f g l out
 | [], out => rfl
 | j :: l, out => by rw [List.cons_append, Y9, Y9, vR l]
theorem Jhl (h : i < 7) : tab.take (i + 1) = tab.take i ++ [i] := by
 rcases lt7 h with rfl | rfl | rfl | rfl | rfl | rfl | rfl <;> rfl
theorem Jmz : ∀ i v B i', nxT f i v B i' → v.length = 2 := by
 rintro i v B i' ⟨_, _, p, rfl, _⟩; rfl
theorem J2m (hf : Q0 f) (r : Rec) : Pure Tryz.prog 117 [.int .i64 f, r.val].toArray (wk f r).val := by
 refine Jl Tryz.func117 O O fun w => G8 fun rb => ?_; refine LN O fun r1 => Ge ?_; refine LN O fun r2 => Gu ?_; refine Kj O O O (enters_of Tryz.func57 m6 O) (Juw f) fun b => ki ?_; refine Vz [1, 0, 2, 3] m7 O (Y4 (τ := Unit) (fun i (s : Rec) => i ≤ 7 ∧ s = Y9 f (XW r) (tab.take i) rec0) (fun s => [(r2, .cells s.cells.toArray 29 (0, 0))]) (fun _ _ => False) (fun _ => []) [(b, .cells #[.int .i64 f] 3 (0, 0)), (r1, .cells rec0.cells.toArray 29 (0, 0)), (rb, .cells r.cells.toArray 29 (0, 0))] rec0 O O (enters_of Tryz.func112 m6 O) (Juy hf b) Jmz O ml O ⟨by decide, rfl⟩ ?_ ?_ ?_)
 rintro q Xr Xb w3 i _ _ _ s ⟨hi, rfl, p, rfl, rfl⟩ ⟨-, hs⟩ Kr hKr; refine inR ?_
 refine kE ?_; refine LN O fun r3 => ?_
 refine Hw ?_; refine F2 ?_; clear hKr; refine NO ?_; refine cD (fun g => ?_) fun g => ?_
 refine JK 6 m6 m6 ?_
 refine Nx ?_
 refine Nx ?_; refine Ja O O O (Jd (xs := r.cells) (n := 17) O (Or.inr (List.mem_append_left _ (List.mem_append_right _ (List.mem_cons_of_mem _ (List.mem_cons_of_mem _ List.mem_cons_self))))) O O O) (Vt O O O (wE hi) (Jmy hi (fun q hq => hq) r) (fun q hq => Or.inr (List.mem_append_left _ (List.mem_append_left _ hq))) (JS (Jn9 (k := 1) O O O O O (Jhk hi) (Jzd hi (fun q hq => hq) s (XW r i)) (fun q hq => Or.inr (List.mem_append_left _ (List.mem_append_left _ hq))) fun _ => J1 2 O ?_)))
 (refine KU [0] (L' := [_]) m7 O ?_
  exact Qa (zm s (XW r i) i) ⟨by omega, by rw [Jhl hi, vR, ← hs, if_pos m9]⟩ rfl)
 refine Kk 2 O ?_
 (refine KU [1] (L' := [_]) m7 O ?_
  exact Qa s ⟨by omega, by rw [Jhl hi, vR, ← hs, if_neg (by simp_all)]⟩ rfl)
 rintro D i s hfi ⟨-, hs⟩
 obtain rfl : i = 7 := hfi
 refine gqo 4 O (LR O (Jd (xs := s.cells) (n := 17) O (kn 1 O) O O O) (Jj (k := 3) (n := 17) (ys := s.cells) O O O O O O O O O (H6 ?_))); refine HK ?_; refine Jf O O (.cons (Js (vs := s.cells) O (kn 3 O) O O) .nil) (fun w1 hs1 => ?_); exact ⟨by rw [hs]; rfl, hs1.keep⟩
 ·exact Gh
theorem J2n (x y : Rec) : (eqS (uV x.number) (uV y.number) && (eqS (uV x.time) (uV y.time) && (QM [uV x.base.a, uV x.base.b, uV x.base.c, uV x.base.d] [uV y.base.a, uV y.base.b, uV y.base.c, uV y.base.d] && (QM [uV x.blob.a, uV x.blob.b, uV x.blob.c, uV x.blob.d] [uV y.blob.a, uV y.blob.b, uV y.blob.c, uV y.blob.d] && (QM [uV x.overhead.a, uV x.overhead.b, uV x.overhead.c, uV x.overhead.d] [uV y.overhead.a, uV y.overhead.b, uV y.overhead.c, uV y.overhead.d] && (eqS (uV x.scalar) (uV y.scalar) && (eqS (uV x.extra) (uV y.extra) && (eqS (uV x.operator) (uV y.operator) && true)))))))) = decide (x = y) := by
 rw [Bool.eq_iff_iff]; simp only [eqU, eqW, Bool.and_eq_true, decide_eq_true_eq, Bool.and_true]
 obtain ⟨a, b, c, d, e, f, g, h⟩ := x
 obtain ⟨a', b', c', d', e', f', g', h'⟩ := y
 simp only [Rec.mk.injEq]
theorem Jzg (hf : Q0 f) (r : Rec) : (wk f r = r → Wd f r = 0) ∧ (¬ wk f r = r → Wd f r = 2) := by
 unfold Wd
 rw [if_neg (by simpa using hf)]; exact ⟨fun h => if_pos ((zn hf).1 h), fun h => if_neg fun h2 => h ((zn hf).2 h2)⟩
theorem J2o (f : Int) (r : Rec) : Pure Tryz.prog 63 [.int .i64 f, r.val].toArray (.int .i64 (Wd f r)) := by
 by_cases hf : Q0 f
 ·obtain ⟨h1, h2⟩ := Jzg hf r
  refine Jl Tryz.func63 O O fun w => G8 fun rb => ?_; refine JH 8 O (Jn O O O (enters_of Tryz.func55 m6 O) (Jhj f) (Gb ?_)); refine J7 O (fun g => ?_) (fun g => ?_)
  ·try simp only [ZZ] at g
   refine GG ?_; refine NW fun w1 hs1 => ?_
   exfalso; first | contradiction | (simp_all; done)
  try simp only [ZZ] at g
  refine HS ?_; refine JK 6 m6 m6 (Nm ?_); refine Ja O O O (Jd (xs := r.cells) (n := 17) O (kn 0 O) O O O) (KI O O O (enters_of Tryz.func117 m6 O) (J2m hf r) (Ja O O O (Jd (xs := r.cells) (n := 17) O (kn 0 O) O O O) (Ja O O O (Jxm (xs := (wk f r).cells) (ys := r.cells) O O O m6 m6 (.scal m7 O O O O O (.scal m7 O O O O O (.arr m7 O O O O O O O O O O (.arr m7 O O O O O O O O O O (.arr m7 O O O O O O O O O O (.scal m7 O O O O O (.scal m7 O O O O O (.scal m7 O O O O O .nil))))))))) (Ks (congrArg (fun b => Value.bool (!b)) (J2n (wk f r) r)) (NP ?_))))); refine H9 ?_; refine cD (fun g => ?_) fun g => ?_
  refine GG ?_; refine NW fun w1 hs1 => ?_; rw [h2 m9]; exact No
  refine Kk 9 O (NW fun w1 hs1 => ?_); rw [h1 m9]; exact No
 ·have e : Wd f r = 10 := by unfold Wd; rw [if_pos hf]
  rw [e]; refine Jl Tryz.func63 O O fun w => Nj fun r1 => ?_; refine JH 8 O (Jn O O O (enters_of Tryz.func55 m6 O) (Jhj f) (Gb ?_)); refine J7 O (fun g => ?_) (fun g => ?_)
  ·try simp only [ZZ] at g
   refine GG ?_; refine NW fun w1 hs1 => ?_
   first | exact ⟨rfl, hs1.keep⟩ | (exfalso; first | contradiction | (simp_all; done))
  ·try simp only [ZZ] at g
   refine HS ?_; refine JK 6 m6 m6 (Nm ?_); refine Ja O O O (Jz (vs := [_, _, _, _, _, _, _, _, _, _, _, _, _, _, _, _, _]) O (kn 0 O) O O O O) ?_
   exfalso; first | contradiction | (simp_all; done)
theorem J01 (hf : Q0 f) (hi : i < 2) : Pure Tryz.prog 56 [.int .i64 f, .int .i64 (i : Int)].toArray (.tuple #[J5 (Qf f i).1, .bool (Qf f i).2]) := by
 have : i = 0 ∨ i = 1 := by omega
 rcases this with rfl | rfl
 ·exact J4i hf
 ·exact J4j hf
theorem Jm0 (h : ZF f i = true) : bW (XW r i) = (Yi f r i).2 := by unfold Yi; rw [if_pos h]
theorem Jjp (h : ZF f i = false) : Qx = (Yi f r i).2 := by unfold Yi; rw [if_neg (by rw [h]; simp)]
theorem J4k {p : Nat → Nat} {rr : Nat} (hi : i < 7) (hr : r.ok) (hR : (rr, Obj.cells r.cells.toArray e (0, 0)) ∈ R) : PureR Tryz.prog 130 (.agg (xq p i).toArray :: .bool (ZF f i) :: [Q4 rr 0]).toArray (J5 (Yi f r i).2) (jS p i ++ R) := by
 refine Jc Tryz.func130 O O fun w => NH ?_; refine JX (cs := (xq p i).toArray) O O O O fun rb => Ht ?_; refine cD (fun g => ?_) fun g => ?_
 refine kE ?_; refine Jn O O O (enters_of Tryz.func58 m6 O) Jy8 (gy ?_); refine Ni fun w1 hs1 => ?_; rw [← Jjp m9]; rfl
 ·refine Ex ?_; refine LR O (Jd (xs := r.cells) (n := 17) O (Or.inr (List.mem_append_right _ hR)) O O O) (Ji O O O (wE hi) (Jmy hi (fun q hq => hq) r) (fun q hq => Or.inr (List.mem_append_left _ hq)) (Jn O O O Jf6 (Vs (Jfn hr i).wok) (DE fun w1 hs1 => ?_))); rw [← Jm0 m9]; rfl
theorem J2p {a : AcL} (ha : a.In R) (hf : Q0 f) {gv : FuncId} {capsV : List Value} {vals : Nat → BS} (egv : Enters Tryz.prog gv) (hgv : ∀ i, i < 7 → ∀ p, PureR Tryz.prog gv (.agg (xq p i).toArray :: .bool (ZF f i) :: capsV).toArray (J5 (vals i)) (jS p i ++ R)) :
  PureT (α := AcRes R (Q3 a.er (tab.map fun i => (WX (W0 i), vals i)))) Tryz.prog 129 [.int .i64 f, a.val, .func (.func gv) #[] capsV.toArray].toArray (fun x => x.val) [] (fun x => x.L) R := by
 obtain ⟨rows, hrows⟩ : ∃ rows, rows = tab.map fun i => (WX (W0 i), vals i) := ⟨_, rfl⟩
 have hdr : ∀ i, i < 7 → rows.drop i = (WX (W0 i), vals i) :: rows.drop (i + 1) := fun i hi => by rw [hrows]; exact map_drop _ hi
 have hd7 : rows.drop 7 = [] := by rw [hrows]; rfl
 rw [← hrows]; clear hrows; refine J4 Tryz.func129 O O fun w => NH ?_; refine JX (cs := a.cells.toArray) O O O O fun rb => LN O fun rv => LN O fun r1 => LN O fun r2 => Gu ?_; refine Kj O O O (enters_of Tryz.func57 m6 O) (Juw f) fun b => ki ?_; refine Vz [4, 2, 1, 0, 3] (L' := [_, _, _, _, _]) m7 O (Y4 (τ := AcSt R × Int) (fun i (s : AcSt R) => i ≤ 7 ∧ Q3 a.er rows = Q3 s.a.er (rows.drop i)) (fun s => (rb, .cells s.a.cells.toArray 48 (0, 0)) :: (r1, .cells ac0L.cells.toArray 48 (0, 0)) :: (r2, .cells #[.int .i64 0] 37 (0, 0)) :: s.L) (fun j s => j = .ret ∧ Q3 a.er rows = (s.1.a.er, s.2)) (fun s => (rb, .cells s.1.a.cells.toArray 48 (0, 0)) :: (r1, .cells s.1.a.cells.toArray 48 (0, 0)) :: (r2, .cells #[.int .i64 s.2] 37 (0, 0)) :: s.1.L) [(b, .cells #[.int .i64 f] 3 (0, 0)), (rv, _)] ⟨a, [], ha⟩ O O (enters_of Tryz.func112 m6 O) (Juy hf b) Jmz O (fun q hq => .inl mY) O ⟨Nat.zero_le _, rfl⟩ ?_ ?_ ?_)
 ·rintro q Xr Xb w3 i _ _ _ s ⟨hi, rfl, p, rfl, rfl⟩ ⟨hi7, hinv⟩ Kr hKr; refine inR ?_
  rw [hdr i hi, qD] at hinv; refine kE ?_; refine LN O fun r3 => ?_
  refine Hw ?_; refine F2 ?_; clear hKr; refine JC 2 O (JI s.L [(1, .pure), (3, .pure), (6, .pure), (8, .grow (KD (Classical.choice (zu s.ok (WX (W0 i)) (vals i))) AcRes.val AcRes.L)), (9, .pure), (10, .pure), (11, .pure), (12, .grow (Vu vr (.cells #[.string ⟨#[]⟩, .int .u64 0, .int .u64 0, .int .u64 0, .int .u64 0, .int .u64 0, .string ⟨#[]⟩, .slice none 0 0] 48 (0, 0)))), (13, .turn), (14, .pure)] 15 [0, 1, 2, 3, 4, 5, 6, 7, 8, 9, 10, 11, 12, 13, 14] m6 m6 (fun p hp => List.mem_cons_of_mem _ (List.mem_cons_of_mem _ (List.mem_cons_of_mem _ (List.mem_cons_of_mem _ hp)))) (JY (k := 0) O O O O O (Jd (xs := s.a.cells) (n := 8) O (kn 1 O) O O O) ?_))
  refine NJ ?_; refine Qq (k := 3) O O O O O (enters_of Tryz.func61 m6 O) (J2j (zp i)) (JY (k := 4) O O O O O (Je O (Or.inr (List.mem_append_left _ (List.mem_append_right _ (List.mem_cons_of_mem _ List.mem_cons_self)))) O O) (JY (k := 5) O O O O O (Jd (xs := xq p i) (n := 5) O (kn 0 O) O O O) (Fo ?_))); refine JW (k := 7) O O O O O egv (hgv i hi p) (fun q hq => (List.mem_append.1 hq).elim (fun h => Or.inr (List.mem_append_left _ (List.mem_append_left _ h))) (fun h => Or.inr (List.mem_append_right _ h))) (JZ (k := 8) O O O O O (enters_of Tryz.func197 m6 O) (J4g s.ok (WX (W0 i)) (vals i)) (fun q hq => (List.mem_append.1 hq).imp id (fun h => List.mem_append_right _ h)) fun x => Jm (k := 9) O O O O O (fun _ hS => (Jg O)) (Jm (k := 10) O O O O O (fun _ hS => (Kh O O)) (Jm (k := 11) O O O O O (fun _ hS => (Kh O O)) (VZ (k := 12) (cs := #[_, _, _, _, _, _, _, _]) O O O O O O fun r4 => Vk (k := 13) (q := 0) (n := 8) (ys := x.a.cells) O O O O O O O O O O O (fun p hp => List.mem_cons_of_mem _ (List.mem_append_right _ (List.mem_cons_of_mem _ (List.mem_cons_of_mem _ (List.mem_cons_of_mem _ (List.mem_cons_of_mem _ hp)))))) (Hz ?_))))); refine Gb ?_; refine yr (L' := (r4, .cells x.a.cells.toArray 48 (0, 0)) :: (r3, .cells (xq p i).toArray 108 (0, 0)) :: (rb, .cells s.a.cells.toArray 48 (0, 0)) :: (r1, .cells ac0L.cells.toArray 48 (0, 0)) :: (r2, .cells #[.int .i64 0] 37 (0, 0)) :: (x.L ++ s.L)) (List.Perm.cons _ (QX x.L [_, _, _, _] s.L)) ?_
  have hx := x.eq
  have hxe : (VP s.a.er (WX (W0 i)) (vals i)).2 = x.err := (congrArg Prod.snd hx).symm
  have hxa : (VP s.a.er (WX (W0 i)) (vals i)).1 = x.a.er := (congrArg Prod.fst hx).symm
  refine gk ?_; refine cD (fun g => ?_) fun g => ?_
  refine kE ?_; refine LR O (Jd (xs := s.a.cells) (n := 8) O (kn 2 O) O O O) (Q1 O (Jj (k := 3) (n := 8) (ys := s.a.cells) O O O O O O O O O ?_))
  refine LT 4 O O (gy ?_); refine Jkb (L' := (rb, .cells s.a.cells.toArray 48 (0, 0)) :: (r1, .cells s.a.cells.toArray 48 (0, 0)) :: (r2, .cells #[.int .i64 x.err] 37 (0, 0)) :: s.L) (fun _ _ h => h) (.cons _ (.cons _ (.cons_cons _ (.cons_cons _ (.cons_cons _ (List.sublist_append_right _ _)))))) ?_; exact vn (s, x.err) ⟨rfl, by rw [hinv, if_pos Ms]; exact (zv Ms).trans (congrArg (Prod.mk s.a.er) hxe)⟩ O
  ·refine Gy ?_; refine LR O (Jd (xs := x.a.cells) (n := 8) O (kn 0 O) O O O) (Jj (k := 2) (n := 8) (ys := x.a.cells) O O O O O O O O O (J1 2 O (Jkb (L' := (rb, .cells x.a.cells.toArray 48 (0, 0)) :: (r1, .cells ac0L.cells.toArray 48 (0, 0)) :: (r2, .cells #[.int .i64 0] 37 (0, 0)) :: (x.L ++ s.L)) (fun _ _ h => h) (.cons _ (.cons _ (List.Sublist.refl _))) ?_))); exact Qa (s.next x) ⟨by omega, by rw [hinv, if_neg (by rw [hxe]; simpa using ‹x.err = 0›), hxa]; rfl⟩ rfl
 rintro D i s hfi ⟨-, hinv⟩
 obtain rfl : i = 7 := hfi
 rw [hd7] at hinv; refine gqo 4 O (LR O (Jd (xs := s.a.cells) (n := 8) O (kn 1 O) O O O) (Jj (k := 2) (n := 8) (ys := s.a.cells) O O O O O O O O O ?_))
 refine LT 3 O O (H6 ?_); refine HK ?_
 (refine Jf O O (.cons (Js (vs := s.a.cells) O (kn 2 O) O O) (.cons (Qw O (kn 3 O) O O) .nil)) (fun w1 hs1 => ?_)
  exact ⟨⟨s.a, 0, s.L, s.ok, by rw [hinv]; rfl⟩, rfl, hs1.weakL (.cons _ (.cons _ (.cons _ (.cons _ (List.sublist_append_left _ _)))))⟩)
 ·rintro D j s ⟨rfl, hst⟩
  refine Kk 3 O (HK ?_)
  (refine Jf O O (.cons (Js (vs := s.1.a.cells) O (kn 2 O) O O) (.cons (Qw O (kn 3 O) O O) .nil)) (fun w1 hs1 => ?_)
   exact ⟨⟨s.1.a, s.2, s.1.L, s.1.ok, hst.symm⟩, rfl, hs1.weakL (.cons _ (.cons _ (.cons _ (.cons _ (List.sublist_append_left _ _)))))⟩)
theorem Jm1 {a : AcL} (h : a.In R) {c : BS} (hc : c.length ≤ 512) : AcL.In R { a with code := c } := ⟨h.addr, h.nonce, h.bal, N2, h.len, h.seg, h.slots⟩
theorem Jm2 {a : AcL} (h : a.In R) {c : BS} (hc : c.length ≤ 512) : AcL.In R { a with addr := c } := ⟨N2, h.nonce, h.bal, h.code, h.len, h.seg, h.slots⟩
theorem Juz : (tab.map fun i => (WX (W0 i), (Yi f r i).2)) = wm f r := rfl
theorem J4l (hf : Q0 f) (hr : r.ok) {bf br ef er : Nat} (hbf : (bf, Obj.cells #[.int .i64 f] ef (0, 0)) ∈ R) (hbr : (br, Obj.cells r.cells.toArray er (0, 0)) ∈ R) {w : Nat} (hw : w < 2) {a : AcL} (ha : a.In R) :
  PureT (α := AcRes R (V0 f w a.er r)) Tryz.prog 128 (.int .i64 (w : Int) :: a.val :: [Q4 bf 0, Q4 br 0]).toArray (fun x => x.val) [] (fun x => x.L) R := by
 have hin := Jm1 ha (Jfo f w)
 have hset := J2p (gv := 130) (capsV := [Q4 br 0]) (vals := fun i => (Yi f r i).2) hin hf (enters_of Tryz.func130 m6 rfl) (fun i hi p => J4k hi hr hbr)
 rw [Juz] at hset
 have hC : V0 f w a.er r = if (w : Int) = 1 then ({ a.er with code := (Qf f w).1 }, 0) else Q3 { a.er with code := (Qf f w).1 } (wm f r) := by
  unfold V0
  by_cases h : (w : Int) = 1
  rw [if_pos h, if_pos h, h]
  rw [if_neg h, if_neg h]
 rw [hC]; clear hC; refine J4 Tryz.func128 O O fun w => NH ?_; refine JX (cs := a.cells.toArray) O O O O fun rb => LN O fun r1 => kL ?_; refine LR O (Je O (Or.inr hbf) O O) (Q1 O (Jn O O O (enters_of Tryz.func56 m6 O) (J01 hf hw) (LS 4 [] O O ?_)))
 refine LT 1 O O (H2 ?_); refine cD (fun g => ?_) fun g => ?_
 refine kE ?_; refine DU ?_
 refine Hw ?_; refine Nu fun w1 hs1 => ?_
 (rw [if_pos m5]
  exact ⟨⟨{ a with code := (Qf f _).1 }, 0, [], hin, rfl⟩, rfl, hs1.weakL (List.nil_sublist _)⟩)
 ·refine gZ ?_; refine LR O (Je O (Or.inr hbf) O O) (DU ?_); refine kJ ?_; refine Kn O O O (enters_of Tryz.func129 m6 O) hset oR fun x => GL ?_; change HL _ _ ((21, .tuple #[x.a.val, .int .i64 x.err]) :: _) ((r1, _) :: (rb, _) :: x.L) _ _ _ _; refine ko ?_; refine Jj (k := 0) (n := 8) (ys := x.a.cells) O O O O O O O O O (gM ?_); refine Nu fun w1 hs1 => ?_
  (rw [if_neg m5]
   exact ⟨x, rfl, hs1.weakL (List.sublist_append_right [_, _] _)⟩)
theorem Ju0 (hs : s.In R) (hf : Q0 f) {gd : FuncId} {capsd : List Value} {go : Int → AcE → AcE × Int} (egd : Enters Tryz.prog gd)
  (hdo : ∀ w : Nat, w < 2 → ∀ (a : AcL) (R' : Jx), (∀ q ∈ R, q ∈ R') → a.In R' → PureT (α := AcRes R' (go w a.er)) Tryz.prog gd (.int .i64 (w : Int) :: a.val :: capsd).toArray (fun x => x.val) [] (fun x => x.L) R') :
  PureT (α := StRes R (Zh f s.er go)) Tryz.prog 127 [.int .i64 f, s.val, .func (.func gd) #[] capsd.toArray].toArray (fun x => x.val) [] (fun x => x.L) R := by
 obtain ⟨res, hres⟩ : ∃ res, res = Zh f s.er go := ⟨_, rfl⟩
 rw [← hres]; refine J4 Tryz.func127 O O fun w => NH ?_; refine JX (cs := s.cells.toArray) O O O O fun rb => LN O fun r1 => kL ?_; refine LR O (Jz (vs := [_]) O (kn 1 O) O O O O) (LN O fun r2 => ?_)
 refine NQ ?_; refine H2 ?_; refine Jw (σ := Nat × StSt R) (fun q => q.1 ≤ 2 ∧ VK f s.er go (([0, 1] : List Int).drop q.1) q.2.s.er = res) (fun q => [(0, .int .i64 f), (2, .func (.func gd) #[] capsd.toArray), (4, Q4 rb 0), (6, Q4 r1 0), (8, Q4 r2 0), (17, .int .i64 (q.1 : Int))]) (fun q => (r2, .cells q.2.s.cells.toArray 36 (0, 0)) :: (r1, .cells st0L.cells.toArray 36 (0, 0)) :: (rb, .cells s.cells.toArray 36 (0, 0)) :: q.2.L) (fun _ _ _ => True) (fun q => 2 - q.1) (0, ⟨s, [], hs⟩) ⟨Nat.zero_le _, hres.symm⟩ (lK O) (List.Sublist.refl _) (fun _ _ h => h) ?_; rintro ⟨i, t⟩ ⟨hi2, hinv⟩; simp only at hi2 hinv; change HC _ _ [(0, _), (2, _), (4, _), (6, _), (8, _), (17, .int .i64 (i : Int))] ((r2, .cells t.s.cells.toArray _ (0, 0)) :: (r1, _) :: (rb, _) :: t.L) _ _ _; refine NO ?_; refine cD (fun g => ?_) fun g => ?_
 ·refine JC 12 O ?_
  have hi : i < 2 := by omega
  rw [wp hi, qE] at hinv; refine Gy ?_; refine Jn O O O (enters_of Tryz.func56 m6 O) (J01 hf hi) (JN 13 O (cD (fun g => ?_) fun g => ?_))
  refine Hs ?_
  (rw [if_pos (by simp_all)] at hinv
   exact Jo (i + 1, t) ⟨by simp only; omega, hinv⟩ mh (lK rfl) (List.Sublist.refl _) (fun _ _ h => h))
  ·refine GU ?_; rw [if_neg (by simp_all)] at hinv
   refine g9 ?_; refine Qq (k := 2) O O O O O J1t (Juk i) (JW (k := 3) O O O O O (enters_of Tryz.func18 m6 O) (Juh t.ok (QL i)) (fun q hq => (List.mem_append.1 hq).elim (fun h => Or.inl (List.mem_cons_of_mem _ (List.mem_cons_of_mem _ (List.mem_cons_of_mem _ h)))) Or.inr) (Hh fun r3 => ?_)); refine Ka (kL ?_); refine Jn O O O J1t (Juk i) (LS 1 [] O O ?_)
   refine NQ ?_; refine FK ?_; refine Kn O O O egd (hdo i hi { Q5 t.s (QL i) with addr := QL i } (t.L ++ R) (fun q hq => List.mem_append_right _ hq) (Jm2 (jr t.ok (QL i)) (Jf0 i))) (fun q hq => (List.mem_append.1 hq).elim (fun h => Or.inl (List.mem_cons_of_mem _ (List.mem_cons_of_mem _ (List.mem_cons_of_mem _ (List.mem_cons_of_mem _ h))))) Or.inr) fun x => Kv (QX x.L [_, _, _, _] t.L) ?_; change HL _ _ ((42, .tuple #[x.a.val, .int .i64 x.err]) :: _) ((r3, _) :: (r2, _) :: (r1, _) :: (rb, _) :: (x.L ++ t.L)) _ _ _ _
   have hxe : (go i (Vi t.s.er i)).2 = x.err := by rw [← Jc1]; exact (congrArg Prod.snd x.eq).symm
   have hxa : (go i (Vi t.s.er i)).1 = x.a.er := by rw [← Jc1]; exact (congrArg Prod.fst x.eq).symm
   rw [hxe, hxa] at hinv; refine HO ?_; refine LN O fun r4 => Jj (k := 0) (n := 8) (ys := x.a.cells) O O O O O O O O O (Ht ?_); refine cD (fun g => ?_) fun g => ?_
   ·refine HY ?_; refine E5 ?_; refine Kn O O O (enters_of Tryz.func196 m6 O) (J4h (R := x.L ++ (t.L ++ R)) (t.ok.mono fun q hq => List.mem_append_right _ hq) x.ok) (fun q hq => (List.mem_append.1 hq).elim (fun h => Or.inl (List.mem_cons_of_mem _ (List.mem_cons_of_mem _ (List.mem_cons_of_mem _ (List.mem_cons_of_mem _ (List.mem_cons_of_mem _ (List.mem_append_left _ h))))))) fun hq => (List.mem_append.1 hq).elim (fun h => Or.inl (List.mem_cons_of_mem _ (List.mem_cons_of_mem _ (List.mem_cons_of_mem _ (List.mem_cons_of_mem _ (List.mem_cons_of_mem _ (List.mem_append_right _ h))))))) Or.inr) fun y => Kv (QX y.L [_, _, _, _, _] (x.L ++ t.L)) ?_; change HL _ _ ((50, .tuple #[y.s.val, .int .i64 y.err]) :: _) ((r4, _) :: (r3, _) :: (r2, _) :: (r1, _) :: (rb, _) :: (y.L ++ (x.L ++ t.L))) _ _ _ _
    have hye : (ZQ t.s.er x.a.er).2 = y.err := (congrArg Prod.snd y.eq).symm
    have hys : (ZQ t.s.er x.a.er).1 = y.s.er := (congrArg Prod.fst y.eq).symm
    rw [hye, hys] at hinv; refine HO ?_; refine Jj (k := 2) (n := 1) (ys := y.s.cells) O O O O O O O O O (H2 ?_); refine cD (fun g => ?_) fun g => ?_
    refine Fl ?_; refine Gd fun w1 hs1 => ?_
    (rw [if_neg MC, if_pos (show y.err ≠ 0 by omega)] at hinv
     exact ⟨⟨s, y.err, [], hs, hinv⟩, rfl, hs1.weakL (List.nil_sublist _)⟩)
    ·refine Gz ?_
     (rw [if_neg MC, if_neg (show ¬ (y.err ≠ 0) by omega)] at hinv
      exact Jo (i + 1, t.next y) ⟨by simp only; omega, hinv⟩ mh (lK rfl) (.cons _ (.cons _ (List.Sublist.refl _))) (fun _ _ h => h))
   refine JC 8 O (cD (fun g => ?_) fun g => ?_)
   refine Fl ?_; refine Gd fun w1 hs1 => ?_
   (rw [if_pos (show x.err ≠ 0 by omega)] at hinv
    exact ⟨⟨s, x.err, [], hs, hinv⟩, rfl, hs1.weakL (List.nil_sublist _)⟩)
   refine Gz ?_
   exfalso; omega
 ·refine Jt 7 O (LR O (Jd (xs := t.s.cells) (n := 1) O (kn 0 O) O O O) (Jj (k := 1) (n := 1) (ys := t.s.cells) O O O O O O O O O (gM ?_))); refine Jf O O (.cons (Js (vs := [_]) O (kn 1 O) O O) (.cons (Jh O) .nil)) (fun w1 hs1 => ?_)
  (obtain rfl : i = 2 := by omega
   exact ⟨⟨t.s, 0, t.L, t.ok, hinv⟩, rfl, hs1.weakL (.cons _ (.cons _ (.cons _ (List.Sublist.refl _))))⟩)
theorem Jzh (f : Int) (hs : s.In R) (hr : r.ok) : PureT (α := StRes R (QP f s.er r)) Tryz.prog 81 [.int .i64 f, s.val, r.val].toArray (fun x => x.val) [] (fun x => x.L) R := by
 have hc := jz hs
 obtain ⟨res, hres⟩ : ∃ res, res = Zh f s.er fun w a => V0 f w a r := ⟨_, rfl⟩
 have hwr : QP f s.er r = if Wd f r ≠ 0 then (s.er, Wd f r) else if KP s.er ≠ 0 then (s.er, KP s.er) else res := by rw [hres]; rfl
 rw [hwr]; refine J4 Tryz.func81 O O fun w => Nj fun r1 => ?_; refine FH fun rs => ?_; refine JX (cs := r.cells.toArray) O O O O fun rr => LN O fun r2 => Gu ?_; refine LR O (Je O (kn 3 O) O O) (EC ?_); refine Jn O O O (enters_of Tryz.func63 m6 O) (J2o f r) (H2 ?_); refine cD (fun g => ?_) fun g => ?_
 refine F7 ?_
 refine Hw ?_; exact DC
 ·refine gn ?_; refine Fq ?_; refine Ji O O O Jxq hc oR (H2 ?_); refine cD (fun g => ?_) fun g => ?_
  refine F7 ?_
  refine Hw ?_; refine NR fun w1 hs1 => ?_; rw [if_neg m5, if_pos m5]; exact GH
  ·refine GU ?_
   have hf : Q0 f := (Jk5 (show Wd f r = 0 by omega)).1
   have hch := Ju0 (R := (rr, Obj.cells r.cells.toArray 29 (0, 0)) :: (r1, Obj.cells #[.int .i64 f] 3 (0, 0)) :: R) (hs.mono fun q hq => List.mem_cons_of_mem _ (List.mem_cons_of_mem _ hq)) hf (gd := 128) (capsd := [Q4 r1 0, Q4 rr 0]) (go := fun w a => V0 f w a r) (enters_of Tryz.func128 m6 rfl) (fun w hw a R2 hR2 ha => J4l hf hr (hR2 _ (List.mem_cons_of_mem _ List.mem_cons_self)) (hR2 _ List.mem_cons_self) hw ha)
   refine Qy 3 [3, 2] O O (kJ ?_)
   refine Kn (Rl := (rr, Obj.cells r.cells.toArray 29 (0, 0)) :: (r1, Obj.cells #[.int .i64 f] 3 (0, 0)) :: R) O O O (enters_of Tryz.func127 m6 O) hch (fun q hq => by
    rcases List.mem_cons.1 hq with rfl | hq
    exact Or.inl ml
    rcases List.mem_cons.1 hq with rfl | hq
    exact Or.inl ml
    exact Or.inr hq) fun x => ?_
   refine GL ?_; change HL _ _ ((26, .tuple #[x.s.val, .int .i64 x.err]) :: _) ((r2, _) :: (rr, _) :: (rs, _) :: (r1, _) :: x.L) _ _ _ _; refine ko ?_; refine Ha ?_; refine gM ?_; refine NR fun w1 hs1 => ?_
   (rw [if_neg m5, if_neg m5, hres]
    exact ⟨⟨x.s, x.err, x.L ++ [(rr, Obj.cells r.cells.toArray 29 (0, 0)), (r1, Obj.cells #[.int .i64 f] 3 (0, 0))], x.ok.mono fun q hq => by simp only [List.mem_append, List.mem_cons, List.not_mem_nil, or_false] at hq ⊢; rcases hq with h | h | h | h <;> simp [h], x.eq⟩, rfl, (hs1.perm (L' := x.L ++ [_, _, _, _]) (List.perm_append_comm (l₁ := [_, _, _, _]))).weakL ((List.Sublist.refl _).append (.cons _ (.cons_cons _ (.cons _ (List.Sublist.refl _)))))⟩)
def Yz (a : AcE) : Bool := !((decide (100 < a.addr.length) || (decide (60 < a.code.length) && decide (a.code.length ≤ 512))) || decide (20 < a.slots.length)) && a.slots.all fun x => !(decide (100 < x.1.length) || decide (100 < x.2.length))
def jD : Nat → Int → List AcE → Bool × Int
 | _, n, [] => (true, n)
 | i, n, a :: l => if 40 < i then (true, n) else if Yz a = false then (false, n) else jD (i + 1) (n + (a.slots.length : Int)) l
def je (s : List AcE) : Bool := (jD 0 0 s).1 && (decide (s.length ≤ 40) && decide ((jD 0 0 s).2 ≤ 40))
theorem Jzi {a : AcE} {x : BS × BS} (hx : a.slots[i]? = some x) (h : x.1.length > 100 ∨ x.2.length > 100) : Yz a = false := by
 unfold Yz
 have : (a.slots.all fun x => !(decide (100 < x.1.length) || decide (100 < x.2.length))) = false := by
  rw [List.all_eq_false]
  exact ⟨x, List.mem_of_getElem? hx, by rcases h with h | h <;> simp [h]⟩
 rw [this, Bool.and_false]
theorem Jzj {a : AcE} (h : Yz a = true) : a.slots.length ≤ 20 := by
 unfold Yz at h
 simp only [Bool.and_eq_true, Bool.not_eq_true', Bool.or_eq_false_iff, decide_eq_false_iff_not] at h; omega
theorem Ju1 {n : Int} {s : List AcE} {a : AcE} (h : s[i]? = some a) (hi : i ≤ 40) (hf : Yz a = true) : jD i n (s.drop i) = jD (i + 1) (n + (a.slots.length : Int)) (s.drop (i + 1)) := by
 obtain ⟨hlt, e⟩ := List.getElem?_eq_some_iff.1 h
 rw [List.drop_eq_getElem_cons hlt, e]
 unfold jD
 rw [if_neg m5, if_neg (by rw [hf]; simp)]
 cases s.drop (i + 1) <;> rfl
theorem Ju2 {n : Int} {s : List AcE} (h : 40 < i ∨ s.length ≤ i) : jD i n (s.drop i) = (true, n) := by
 rcases h with h | h
 ·cases s.drop i with
  | nil => rfl
  | cons a l => unfold jD; rw [if_pos h]
 ·rw [List.drop_of_length_le h]; rfl
theorem Ju3 {n : Int} {s : List AcE} {a : AcE} (h : s[i]? = some a) (hi : i ≤ 40) (hf : Yz a = false) : (jD i n (s.drop i)).1 = false := by
 obtain ⟨hlt, e⟩ := List.getElem?_eq_some_iff.1 h
 rw [List.drop_eq_getElem_cons hlt, e]
 unfold jD
 rw [if_neg m5, if_pos hf]
theorem Jpf {a : AcL} (ha : a.In R) : PureR Tryz.prog 69 [a.val].toArray (.bool (Yz a.er)) R := by
  have hl := ha.len
  have hseg := ha.seg
  obtain ⟨res, hres⟩ : ∃ b, b = Yz a.er := ⟨_, rfl⟩
  rw [← hres]
  have h1 : (100 < (a.addr.length : Int) ∨ (60 < (a.code.length : Int) ∧ (a.code.length : Int) ≤ 512) ∨ 20 < (a.slots.length : Int)) → res = false := fun h => by
    rw [hres]; unfold Yz
    have : ((decide (100 < a.addr.length) || (decide (60 < a.code.length) && decide (a.code.length ≤ 512))) || decide (20 < a.slots.length)) = true := by
      simp only [Bool.or_eq_true, Bool.and_eq_true, decide_eq_true_eq]; omega
    show (!((decide (100 < a.addr.length) || (decide (60 < a.code.length) && decide (a.code.length ≤ 512))) || decide (20 < a.slots.length)) && _) = false
    rw [this]; rfl
  have h2 : ¬ (100 < (a.addr.length : Int) ∨ (60 < (a.code.length : Int) ∧ (a.code.length : Int) ≤ 512) ∨ 20 < (a.slots.length : Int)) → (∀ (j : Nat) (x : BS × BS), a.slots[j]? = some x → x.1.length ≤ 100 ∧ x.2.length ≤ 100) → res = true := fun h h' => by
    rw [hres]; unfold Yz
    have e : ((decide (100 < a.addr.length) || (decide (60 < a.code.length) && decide (a.code.length ≤ 512))) || decide (20 < a.slots.length)) = false := by
      simp only [Bool.or_eq_false_iff, Bool.and_eq_false_iff, decide_eq_false_iff_not]; omega
    show (!((decide (100 < a.addr.length) || (decide (60 < a.code.length) && decide (a.code.length ≤ 512))) || decide (20 < a.slots.length)) && _) = true
    rw [e]; simp only [Bool.not_false, Bool.true_and, List.all_eq_true]; intro x hx
    obtain ⟨j, hj⟩ := List.getElem?_of_mem hx
    obtain ⟨g1, g2⟩ := h' j x hj
    simp; omega
  refine Jc Tryz.func69 O O fun w => NH ?_; refine JX (cs := a.cells.toArray) O O O O fun r1 => XG 8 [0] O O (F8 ?_)
  refine Jv 8 O (fun gb => ?_) (fun gb => ?_) <;> (try simp only [ZZ] at gb) <;> first | (refine LR O (J6 O O O) ?_) | (refine LK O ?_)
  all_goals refine HP ?_
  all_goals refine gc ?_
  all_goals refine Fs ?_
  all_goals first | refine LK O ?_ | (refine Jv 13 O (fun gb => ?_) (fun gb => ?_) <;> (try simp only [ZZ] at gb) <;> first | (refine LR O (J6 O O O) ?_) | (refine LK O ?_))
  all_goals refine HP ?_
  all_goals refine gc ?_
  all_goals refine LW 4 [] O O ?_
  all_goals first | refine LR O (J6 O O O) ?_ | refine LK O ?_ | (refine Jv 20 O (fun gb => ?_) (fun gb => ?_) <;> (try simp only [ZZ] at gb) <;> first | (refine LR O (J6 O O O) ?_) | (refine LK O ?_))
  all_goals refine HP ?_
  all_goals refine DQ ?_
  all_goals (
   refine kp ?_; refine J7 O (fun g => ?_) (fun g => ?_)
   try simp only [ZZ] at g
   refine Kk 7 O (NW fun w1 hs1 => ?_); rw [h1 m5]; exact No
   · try exact Bool.noConfusion g
     all_goals try simp only [ZZ] at g
     all_goals (
      refine JC 9 O ?_
      have h0 : ¬ (100 < (a.addr.length : Int) ∨ (60 < (a.code.length : Int) ∧ (a.code.length : Int) ≤ 512) ∨ 20 < (a.slots.length : Int)) := by
        simp_all
        all_goals first | done | omega | trace_state
      refine Jw (σ := Nat) (fun i => i ≤ a.slots.length ∧ ∀ (j : Nat) (x : BS × BS), j < i → a.slots[j]? = some x → x.1.length ≤ 100 ∧ x.2.length ≤ 100) (fun i => [(1, .pointer (some ⟨r1, 0, none⟩)), (3, .int .i64 (i : Int))]) (fun _ => [(r1, .cells a.cells.toArray 48 (0, 0))]) (fun _ _ _ => True) (fun i => a.slots.length - i) 0 ⟨Nat.zero_le _, fun _ _ h => absurd h (Nat.not_lt_zero _)⟩ (lK O) (List.Sublist.refl _) (fun _ _ h => h) ?_; rintro i ⟨hi1, hinv⟩; refine Ex ?_; refine F3 ?_; refine cD (fun g => ?_) fun g => ?_
      · refine gk ?_
        obtain ⟨x, hx, hmx⟩ := QD (show i < a.slots.length by omega)
        have hxl := ha.slots x hmx
        refine Da ?_
        refine Jv 41 O (fun gb => ?_) (fun gb => ?_) <;> (try simp only [ZZ] at gb) <;> first | (refine LR O (J6 O O O) ?_) | (refine LK O ?_)
        all_goals refine G0 ?_
        all_goals (
         refine kp ?_; refine J7 O (fun g => ?_) (fun g => ?_)
         try simp only [ZZ] at g
         refine Kk 11 O (NW fun w1 hs1 => ?_); rw [hres, Jzi hx m5]; exact No
         · try exact Bool.noConfusion g
           all_goals try simp only [ZZ] at g
           all_goals (
            refine Hs ?_
            exact Jo (i + 1) ⟨by omega, fun j y hj hy => by
              rcases Nat.lt_succ_iff_lt_or_eq.1 hj with h | rfl
              exact hinv j y h hy
              · obtain rfl := Option.some.inj (hx.symm.trans hy); simp_all; all_goals first | done | omega | trace_state⟩ m5 (lK rfl) (List.Sublist.refl _) (fun _ _ h => h)
            skip)
         skip)
      refine Kk 11 O (NW fun w1 hs1 => ?_); rw [h2 h0 (fun j y hy => hinv j y (by have := (List.getElem?_eq_some_iff.1 hy).1; omega) hy)]; exact No
      skip)
   skip)
theorem Jzk (hs : s.In R) : PureR Tryz.prog 29 [s.val].toArray (.bool (je s.er)) R := by
  have hl := hs.len
  have hseg := hs.seg
  obtain ⟨⟨rb, rn⟩, hres⟩ : ∃ b, b = jD 0 0 s.er := ⟨_, rfl⟩
  have hfs : je s.er = (rb && (decide (s.accts.length ≤ 40) && decide (rn ≤ 40))) := by unfold je; rw [← hres, s.er_len]
  rw [hfs]; refine Jc Tryz.func29 O O fun w => NH ?_; refine JX (cs := s.cells.toArray) O O O O fun r1 => JN 15 O (Jw (σ := Nat × Int) (fun q => q.1 ≤ s.accts.length ∧ 0 ≤ q.2 ∧ q.2 ≤ 20 * q.1 ∧ q.1 ≤ 41 ∧ jD q.1 q.2 (s.er.drop q.1) = (rb, rn)) (fun q => [(1, .pointer (some ⟨r1, 0, none⟩)), (3, .int .i64 q.2), (4, .int .i64 (q.1 : Int))]) (fun _ => [(r1, .cells s.cells.toArray 36 (0, 0))]) (fun _ _ _ => True) (fun q => s.accts.length - q.1) (0, 0) ⟨Nat.zero_le _, by omega, by omega, by omega, hres.symm⟩ (lK rfl) (List.Sublist.refl _) (fun _ _ h => h) ?_); rintro ⟨i, n⟩ ⟨hi1, hn0, hn1, hi41, hinv⟩; simp only at hi1 hn0 hn1 hi41 hinv; change HC _ _ [(1, _), (3, .int .i64 n), (4, .int .i64 (i : Int))] _ _ _ _; refine Ex ?_; refine Gt ?_; refine ko ?_
  refine Jv 11 O (fun gb => ?_) (fun gb => ?_) <;> (try simp only [ZZ] at gb) <;> first | (refine Q1 O ?_) | (refine LK O ?_)
  all_goals (
   refine kp ?_; refine J7 O (fun g => ?_) (fun g => ?_)
   · try exact Bool.noConfusion g
     all_goals try simp only [ZZ] at g
     all_goals (
      refine gk ?_
      obtain ⟨a, ha, hma⟩ := QD Ma
      have ha2 := hs.accts a hma
      have hi40 : i ≤ 40 := by simp_all <;> omega
      refine gp ?_
      refine Gr ?_; refine Ji O O O (enters_of Tryz.func69 m6 O) (Jpf ha2) oR (Ht ?_); refine cD (fun g => ?_) fun g => ?_
      refine Kk 12 O (NW fun w1 hs1 => ?_)
      (have hff : Yz a.er = false := by simp_all
       have h1 := Ju3 (n := n) (vG ha) hi40 hff
       rw [hinv] at h1
       rw [show rb = false from h1]; exact ⟨rfl, hs1.keep⟩)
      refine JC 2 O ?_
      have hft : Yz a.er = true := by simp_all
      have h20 := Jzj hft
      have h20 : a.slots.length ≤ 20 := h20
      rw [Ju1 (vG ha) hi40 hft] at hinv; refine Qy 5 [0] O O ?_
      refine kG ?_; refine LR O (JV (off' := Xe s.p + (i * 8 + 7)) O O (by show Xe s.p + i * 8 + 7 = _; omega)) (LR rfl (Qc AcL.len (k := 7) (v := KA a.slots.length a.p) oR rfl hseg ha rfl rfl) (LR rfl (Jy rfl ha2.seg rfl) (QN rfl (Jb m5 m5 (JH 7 rfl ?_))))); refine Nk ?_; exact Jo (i + 1, n + (a.slots.length : Int)) ⟨by simp only; omega, by simp only; omega, by simp only; omega, by simp only; omega, hinv⟩ mh (lK rfl) (List.Sublist.refl _) (fun _ _ h => h)
      skip)
   · try simp only [ZZ] at g
     refine Qy 9 [0] O O (Gt ?_); refine ko ?_
     refine Jv 38 O (fun gb => ?_) (fun gb => ?_) <;> (try simp only [ZZ] at gb) <;> first | (refine Q1 O ?_) | (refine LK O ?_)
     all_goals (
      refine gK ?_; refine NW fun w1 hs1 => ?_
      first
        | (have hff : Yz a.er = false := by simp_all
           have h1 := Ju3 (n := n) (vG ha) hi40 hff
           rw [hinv] at h1
           rw [show rb = false from h1]; exact ⟨rfl, hs1.keep⟩)
        | (rw [Ju2 Ng] at hinv
           obtain ⟨rfl, rfl⟩ := Prod.mk.inj hinv
           refine ⟨?_, hs1.keep⟩
           simp [JB]
           all_goals first | done | omega | trace_state)
        | trace_state
      skip)
   skip)
def rw1 : Rec := ⟨5, 6, ⟨7, 0, 0, 0⟩, w40, w40, 8, 0, 0⟩
theorem vT {n : Nat} (h : n < 1000) : Wr n := by unfold Wr; omega
theorem Ju4 {a b : Int} (h : a = b) : Value.int .i64 a = .int .i64 b := congrArg _ h
structure Stay (s t : StL) (a key : BS) : Prop where
  there : WD s a = true → WD t a = true
  oth : a ≠ A0 → a ≠ A1 → WD s a = WD t a ∧ (Q5 s a).er = (Q5 t a).er
  nonce : (Q5 s a).nonce = (Q5 t a).nonce
  bal : (Q5 s a).bal = (Q5 t a).bal
  slot : (a = A0 → ¬ Jcu key) → Vo (Q5 s a).er key = Vo (Q5 t a).er key
theorem Ye {a b : Bool} (h : a = b) : Value.bool a = .bool b := congrArg _ h
theorem Jd0 : Pure Tryz.prog 131 [].toArray (J5 Qx) := by
 refine Jl Tryz.func131 O O fun w => E3 ?_; refine V2 (n := 32) (b := 1) O O O O O O O O O m7 m7 fun r1 => LR O (Kw (b := Qx) (row := some (r1, 32, [])) (e := 5) O ⟨rfl, rfl⟩ (fun p hp => .inl mz) O O O) ?_; exact NU
theorem Jd1 (hs : s.In R) (k : BS) : PureR Tryz.prog 38 [s.val, J5 k].toArray (.tuple #[(Q5 s k).val, .bool (WD s k)]) R := by
 have hl : s.accts.length ≤ 9223372036854775807 := hs.len
 have hseg := hs.seg
 unfold Q5 WD
 obtain ⟨res, hres⟩ : ∃ r, r = s.accts.find? fun a => decide (a.addr = k) := ⟨_, rfl⟩
 rw [← hres]; refine Jc Tryz.func38 O O fun w => NH ?_; refine FH fun rs => ?_; refine LN O fun r1 => Ht ?_; refine Jw (σ := Nat) (fun i => i ≤ s.accts.length ∧ res = (s.accts.drop i).find? fun a => decide (a.addr = k)) (fun i => [(1, J5 k), (2, Value.pointer (some ⟨rs, 0, none⟩)), (4, Value.pointer (some ⟨r1, 0, none⟩)), (6, .int .i64 (i : Int))]) (fun _ => [(r1, .cells ac0L.cells.toArray 48 (0, 0)), (rs, .cells s.cells.toArray 36 (0, 0))]) (fun _ _ _ => True) (fun i => s.accts.length - i) 0 ⟨Nat.zero_le _, hres⟩ (lK rfl) (List.Sublist.refl _) (fun _ _ h => h) ?_; rintro i ⟨hi1, hinv⟩; refine Qy 6 [1] O O (F3 ?_); refine cD (fun g => ?_) fun g => ?_
 refine gk ?_
 obtain ⟨a, ha, hma⟩ := QD Ma
 rw [VY ha, List.find?_cons] at hinv; refine Qy 4 [1] O O ?_
 refine DW ?_; refine Q1 O (LR O (W7 O O) (JN 2 O ?_)); refine cD (fun g => ?_) fun g => ?_
 refine Qy 5 [1] O O ?_
 refine Gr ?_; refine Jj (k := 0) (n := 8) (ys := (a).cells) O O O O O O O O O (J1 9 O (Nu fun w1 hs1 => ?_)); refine ⟨?_, hs1.keep⟩; rw [show decide (a.addr = k) = true from decide_eq_true m9] at hinv; rw [hinv]; rfl
 refine Hs ?_; rw [show decide (a.addr = k) = false from decide_eq_false m9] at hinv; exact Jo (i + 1) ⟨by omega, hinv⟩ m5 (lK rfl) (List.Sublist.refl _) (fun _ _ h => h)
 ·refine Jt 7 O (DR ?_); refine Jj (k := 0) (n := 8) (ys := (ac0L).cells) O O O O O O O O O (gM ?_); refine Nu fun w1 hs1 => ?_; refine ⟨?_, hs1.keep⟩; rw [List.drop_of_length_le m5] at hinv; rw [hinv]; rfl
def Ju5 (p : Option BS) (a : AcE) : Bool := p.isNone || Op.bytesLess (p.getD []) a.addr
theorem Jbi (p : Option BS) (a : AcE) : Vn p a = if a.slots.any ZP = true ∨ a.addr.length ≠ 20 then 2 else if (Ju5 p a && QO Prod.fst a.slots) = false then 11 else if a.code.length > 512 ∨ a.slots.length > 16 then 5 else if a.slots.any Xy = true then 8 else 0 := by
 by_cases h : a.slots.any ZP = true ∨ a.addr.length ≠ 20
 ·have e : Wz a = 2 := by unfold Wz; rw [if_pos (h.elim Or.inr Or.inl)]
  rw [if_pos h, Jcx (.inl e), e]
 rw [if_neg h]
 have h' : ¬ (a.addr.length ≠ 20 ∨ a.slots.any ZP = true) := fun hh => h (hh.elim Or.inr Or.inl)
 have e : Wz a = if QO Prod.fst a.slots = false then 11 else if a.code.length > 512 ∨ a.slots.length > 16 then 5 else if a.slots.any Xy = true then 8 else 0 := by unfold Wz; rw [if_neg h']
 cases hr : QO Prod.fst a.slots
 ·rw [hr, if_pos rfl] at e
  rw [Bool.and_false, if_pos rfl]
  unfold Vn
  split
  ·rfl
  ·exact e
 rw [hr, if_neg ml] at e
 have h2 : Wz a ≠ 2 := by
  rw [e]
  split
  ·decide
  ·split <;> decide
 cases p with
 | none =>
  rw [vC, e]
  rfl
 | some b =>
  show Vn (some b) a = if ((false || Op.bytesLess b a.addr) && true) = false then 11 else _
  cases hb : Op.bytesLess b a.addr
  ·rw [Jk9 h2 rfl hb]; rfl
  ·rw [Jcx (.inr (.inr ⟨b, rfl, hb⟩)), e]; rfl
theorem Ju6 {p : α → Bool} {l : List α} {x : α} (h : l[j]? = some x) (hp : p x = true) : l.any p = true := List.any_eq_true.2 ⟨x, List.mem_of_getElem? h, hp⟩
theorem Ju7 {p : α → Bool} {l : List α} (h : ∀ (j : Nat) x, l[j]? = some x → p x = false) : l.any p = false := by
 rw [List.any_eq_false]; intro x hx
 obtain ⟨j, hj⟩ := List.getElem?_of_mem hx
 rw [h j x hj]; simp
structure RackI (a : AcL) (rb : Bool) (i : Nat) (rs sp : Bool) : Prop where
  le : i ≤ a.slots.length
  odd : ∀ (j : Nat) x, j < i → a.slots[j]? = some x → ZP x = false
  rs : rs = true ↔ rb = true ∧ ∀ (j : Nat) x y, j + 1 < i → a.slots[j]? = some x → a.slots[j + 1]? = some y → Op.bytesLess x.1 y.1 = true
  sp : sp = true ↔ ∃ (j : Nat) (x : BS × BS), j < i ∧ a.slots[j]? = some x ∧ x.2 = Qx
theorem RackI.zero (a : AcL) (rb : Bool) : RackI a rb 0 rb false := ⟨Nat.zero_le _, fun _ _ h => absurd h (Nat.not_lt_zero _), by simp, by simp⟩
theorem RackI.next {a : AcL} {rb : Bool} {sp rs' sp' : Bool} {x : BS × BS} (h : RackI a rb i rs sp) (hx : a.slots[i]? = some x) (ho : x.1.length = 32 ∧ x.2.length = 32)
  (hr : rs' = (rs && (decide (i = 0) || Op.bytesLess ((a.slots[i - 1]?.map Prod.fst).getD []) x.1))) (hp : sp' = (sp || decide (x.2 = Qx))) : RackI a rb (i + 1) rs' sp' := by
 have hlt := (List.getElem?_eq_some_iff.1 hx).1
 refine ⟨hlt, fun j y hj hy => ?_, ?_, ?_⟩
 ·rcases Nat.lt_succ_iff_lt_or_eq.1 hj with hj | rfl
  ·exact h.odd j y hj hy
  ·rw [hx] at hy; cases hy
   unfold ZP; simp [ho.1, ho.2]
 ·rw [hr, Bool.and_eq_true, h.rs, Bool.or_eq_true, decide_eq_true_eq]
  constructor
  ·rintro ⟨⟨h1, h2⟩, h3⟩
   refine ⟨h1, fun j u v hj hu hv => ?_⟩
   rcases Nat.lt_succ_iff_lt_or_eq.1 hj with hj | hj
   ·exact h2 j u v hj hu hv
   ·subst hj
    rw [hx] at hv; cases hv; rw [show j + 1 - 1 = j by omega, hu] at h3; exact h3.resolve_left m5
  ·rintro ⟨h1, h2⟩
   refine ⟨⟨h1, fun j u v hj hu hv => h2 j u v m5 hu hv⟩, ?_⟩
   rcases Nat.eq_zero_or_pos i with h0 | h0
   ·exact .inl h0
   ·obtain ⟨j, rfl⟩ : ∃ j, i = j + 1 := ⟨i - 1, by omega⟩
    obtain ⟨u, hu, -⟩ := QD (show j < a.slots.length by omega)
    rw [show j + 1 - 1 = j by omega, hu]; exact .inr (h2 j u x m5 hu hx)
 ·rw [hp, Bool.or_eq_true, h.sp, decide_eq_true_eq]
  constructor
  ·rintro (⟨j, u, hj, hu, e⟩ | e)
   ·exact ⟨j, u, by omega, hu, e⟩
   ·exact ⟨i, x, by omega, hx, e⟩
  ·rintro ⟨j, u, hj, hu, e⟩
   rcases Nat.lt_succ_iff_lt_or_eq.1 hj with hj | rfl
   ·exact .inl ⟨j, u, hj, hu, e⟩
   ·rw [hx] at hu; cases hu; exact .inr e
theorem RackI.done {a : AcL} {rb : Bool} {sp : Bool} (h : RackI a rb a.slots.length rs sp) : a.slots.any ZP = false ∧ rs = (rb && QO Prod.fst a.slots) ∧ sp = a.slots.any Xy := by
 have hlt : ∀ (j : Nat) (x : BS × BS), a.slots[j]? = some x → j < a.slots.length := fun j x hx => (List.getElem?_eq_some_iff.1 hx).1
 refine ⟨Ju7 fun j x hx => h.odd j x (hlt j x hx) hx, ?_, ?_⟩
 ·rw [Bool.eq_iff_iff, h.rs, Bool.and_eq_true]
  refine and_congr_right fun _ => ⟨fun hh => jq fun j x y hx hy => hh j x y (hlt _ _ hy) hx hy, fun hh j x y _ hx hy => ?_⟩
  cases hb : Op.bytesLess x.1 y.1
  ·rw [qC hx hy hb] at hh; cases hh
  ·rfl
 ·rw [Bool.eq_iff_iff, h.sp]
  constructor
  ·rintro ⟨j, x, _, hx, e⟩
   exact Ju6 hx (by unfold Xy; rw [e]; simp)
  ·intro hh
   obtain ⟨x, hx, e⟩ := List.any_eq_true.1 hh
   obtain ⟨j, hj⟩ := List.getElem?_of_mem hx
   exact ⟨j, x, hlt j x hj, hj, by simpa [Xy] using e⟩
theorem Ju8 {a : AcL} {x : BS × BS} (p : Option BS) (hx : a.slots[j]? = some x) (h : ¬ (x.1.length = 32 ∧ x.2.length = 32)) : Vn p a.er = 2 := by
 rw [Jbi, if_pos (.inl (Ju6 (l := a.er.slots) hx (by unfold ZP; rw [Bool.or_eq_true, decide_eq_true_eq, decide_eq_true_eq]; omega)))]
theorem Ju9 {a : AcL} {p : Option BS} {sp : Bool} (h : RackI a (Ju5 p a.er) a.slots.length rs sp) : Vn p a.er = if (a.addr.length : Int) ≠ 20 then 2 else if rs = false then 11 else if (a.code.length : Int) > 512 ∨ (a.slots.length : Int) > 16 then 5 else if sp = true then 8 else 0 := by
 obtain ⟨h1, h2, h3⟩ := h.done
 rw [Jbi, h2, h3, show a.er.slots.any ZP = false from h1]; refine ite_congr (propext ⟨fun hh => ?_, fun hh => ?_⟩) (fun _ => rfl) fun _ => ite_congr O (fun _ => rfl) fun _ => ite_congr (propext ⟨fun hh => ?_, fun hh => ?_⟩) (fun _ => rfl) fun _ => rfl
 ·have hh : a.addr.length ≠ 20 := hh.elim (fun h => by cases h) id
  omega
 ·exact .inr (show a.addr.length ≠ 20 by omega)
 ·have hh : a.code.length > 512 ∨ a.slots.length > 16 := hh
  omega
 ·show a.code.length > 512 ∨ a.slots.length > 16
  omega
set_option maxHeartbeats 1000000 in
theorem Jzl {a : AcL} (ha : a.In R) (p : Option BS) : PureR Tryz.prog 83 [a.val, .bool p.isNone, J5 (p.getD [])].toArray (.int .i64 (Vn p a.er)) R := by
  have hl : a.slots.length ≤ 9223372036854775807 := ha.len
  have hseg := ha.seg
  obtain ⟨rb, hrb⟩ : ∃ b, b = Ju5 p a.er := ⟨_, rfl⟩
  have hrb2 : rb = (p.isNone || Op.bytesLess (p.getD []) a.addr) := hrb
  obtain ⟨first, hfirst⟩ : ∃ b, b = p.isNone := ⟨_, rfl⟩
  obtain ⟨last, hlast⟩ : ∃ b, b = p.getD [] := ⟨_, rfl⟩
  rw [← hfirst, ← hlast] at hrb2; rw [← hfirst, ← hlast]; refine Jc Tryz.func83 O O fun w => NH ?_; refine FG fun ra => ?_; refine gY ?_
  refine Jv 11 O (fun gb => ?_) (fun gb => ?_) <;> (try simp only [ZZ] at gb) <;> first | (refine LR O (J6 O O O) ?_) | (refine LK O ?_)
  all_goals refine LW 2 [0] O O ?_
  all_goals first | refine LR O (Jcv (a := a.addr) (b := last) O O) ?_ | refine LK O ?_
  all_goals refine LW 1 [] O O ?_
  all_goals first | (refine Jq (Ye (show true = rb by rw [hrb2]; simp_all)) ?_) | (refine Jq (Ye (show Op.bytesLess last a.addr = rb by rw [hrb2]; simp_all)) ?_)
  all_goals (
   refine J1 2 O (XC 13 O ?_); refine Jw (σ := Nat × Bool × Bool) (fun q => RackI a rb q.1 q.2.1 q.2.2) (fun q => [(3, Value.pointer (some ⟨ra, 0, none⟩)), (7, .bool q.2.1), (8, .bool q.2.2), (9, .int .i64 (q.1 : Int))]) (fun _ => [(ra, .cells a.cells.toArray 48 (0, 0))]) (fun _ _ _ => True) (fun q => a.slots.length - q.1) (0, rb, false) (RackI.zero a rb) (lK O) (List.Sublist.refl _) (fun _ _ h => h) ?_; rintro ⟨i, rs, sp⟩ hinv; simp only at hinv; change HC _ _ [(3, _), (7, .bool rs), (8, .bool sp), (9, .int .i64 (i : Int))] _ _ _ _; refine Ex ?_; refine F3 ?_; refine cD (fun g => ?_) fun g => ?_
   · refine NO ?_
     obtain ⟨x, hx, hmx⟩ := QD (show i < a.slots.length by omega)
     refine Da ?_
     refine Jv 32 O (fun gb => ?_) (fun gb => ?_) <;> (try simp only [ZZ] at gb) <;> first | (refine LR O (J6 O O O) ?_) | (refine LK O ?_)
     all_goals refine G0 ?_
     all_goals (
      refine kp ?_; refine J7 O (fun g => ?_) (fun g => ?_)
      try simp only [ZZ] at g
      refine Hv fun w1 hs1 => ?_; rw [Ju8 p hx m5]; rfl
      · try exact Bool.noConfusion g
        all_goals try simp only [ZZ] at g
        all_goals (
         refine GU ?_
         have hxo : x.1.length = 32 ∧ x.2.length = 32 := by omega
         obtain ⟨nv, hnv⟩ : ∃ b, b = decide (x.2 = Qx) := ⟨_, rfl⟩
         refine JK 22 m6 m6 (k5 ?_)
         refine Yl 43 O (fun gb => ?_) (fun gb => ?_) <;> (try simp only [ZZ] at gb) <;> first | (refine Ja O O O (Jg O) ?_) | (refine JG O O O ?_)
         all_goals first | (refine Ja O O O (J2 O O O) ?_; refine Ks (Ye (show _ = decide (i = 0) from by rw [Bool.eq_iff_iff]; simp)) ?_) | refine JG O O O ?_
         all_goals refine H1 ?_
         all_goals first | refine JG O O O ?_ | (refine Yl 46 O (fun gb => ?_) (fun gb => ?_) <;> (try simp only [ZZ] at gb) <;> first | (refine Ja O O O (J6 O O O) ?_) | (refine JG O O O ?_))
         all_goals refine GY ?_
         all_goals refine kR ?_
         all_goals first | (refine Ja O O O (JV (off' := Xe a.p + (i * 2 + 0)) O O MM) ?_) | refine JG O O O ?_
         all_goals first | refine Ja O O O (Qc Ki (k := 0) (v := J5 x.1) oR O hseg hx O O) ?_ | refine JG O O O ?_
         all_goals refine GB ?_
         all_goals refine GY ?_
         all_goals refine H1 ?_
         all_goals first | (refine Ja O O O (J2 O O O) ?_; refine QT m5 m5 ?_) | refine JG O O O ?_
         all_goals first | (obtain ⟨y, hy, hmy⟩ := QD (show i - 1 < a.slots.length by omega); refine Ja O O O (Jk (j := (i - 1)) O hseg O O O me m5) ?_) | refine JG O O O ?_
         all_goals first | (refine Ja O O O (JV (off' := Xe a.p + ((i - 1) * 2 + 0)) O O (by show Xe a.p + (i - 1) * 2 + 0 = _; omega)) ?_) | refine JG O O O ?_
         all_goals first | refine Ja O O O (Qc Ki (k := 0) (v := J5 y.1) oR O hseg hy O O) ?_ | refine JG O O O ?_
         all_goals first | (refine Ja O O O (Jcv (a := x.1) (b := y.1) O O) ?_; refine Ks (Ye (show Op.bytesLess y.1 x.1 = Op.bytesLess ((a.slots[i - 1]?.map Prod.fst).getD []) x.1 by rw [hy]; rfl)) ?_) | refine JG O O O ?_
         all_goals first | refine Ja O O O (W3 O O) ?_ | refine Ja O O O (W5 O O) ?_ | refine JG O O O ?_
         all_goals refine gi ?_
         all_goals (
          refine Ja O O O (J8 O) (JS (J1 1 O (XC 1 O ?_))); refine JK 12 m6 m6 (k5 ?_)
          refine Yl 64 O (fun gb => ?_) (fun gb => ?_) <;> (try simp only [ZZ] at gb) <;> first | (refine Ja O O O (J6 O O O) ?_) | (refine JG O O O ?_)
          all_goals refine GY ?_
          all_goals refine kR ?_
          all_goals first | (refine Ja O O O (JV (off' := Xe a.p + (i * 2 + 1)) O O MN) ?_) | refine JG O O O ?_
          all_goals first | refine Ja O O O (Qc Ki (k := 1) (v := J5 x.2) oR O hseg hx O O) ?_ | refine JG O O O ?_
          all_goals first | (refine KI O O O Jr0 Jd0 ?_) | refine JG O O O ?_
          all_goals first | (refine Ja O O O (W7 (a := x.2) (b := Qx) O O) ?_; refine Ks (Ye hnv.symm) ?_) | refine JG O O O ?_
          all_goals refine gi ?_
          all_goals (
           refine Ja O O O (J8 O) (JS (J1 1 O (gqo 5 O ?_))); refine Nk ?_; refine Jo (i + 1, _, _) (RackI.next hinv hx hxo ?_ ?_) mh (lK O) (List.Sublist.refl _) (fun _ _ h => h)
           simp_all
           simp_all
           skip)
          skip)
         skip)
      skip)
   · refine Dk ?_
     obtain rfl : i = a.slots.length := by have := hinv.le; omega
     have hE := Ju9 (p := p) (hrb ▸ hinv)
     refine Qy 3 [0] O O (gt ?_); refine ki ?_; refine cD (fun g => ?_) fun g => ?_
     refine Gv fun w1 hs1 => ?_; rw [hE, if_pos m5]; rfl
     · refine JC 9 O (cD (fun g => ?_) fun g => ?_)
       refine Gv fun w1 hs1 => ?_; rw [hE, if_neg m5, if_pos m9]; rfl
       · refine Qy 7 [0] O O (F8 ?_)
         refine Jv 84 O (fun gb => ?_) (fun gb => ?_) <;> (try simp only [ZZ] at gb) <;> first | (refine LR O (J6 O O O) ?_) | (refine LK O ?_)
         all_goals refine HP ?_
         all_goals refine DQ ?_
         all_goals (
          refine kp ?_; refine J7 O (fun g => ?_) (fun g => ?_)
          try simp only [ZZ] at g
          refine Gv fun w1 hs1 => ?_; rw [hE, if_neg m5, if_neg (by simp_all), if_pos m5]; rfl
          · try exact Bool.noConfusion g
            all_goals try simp only [ZZ] at g
            all_goals (
             refine JC 8 O (cD (fun g => ?_) fun g => ?_)
             refine Gv fun w1 hs1 => ?_; rw [hE, if_neg m5, if_neg (by simp_all), if_neg m5, if_pos m9]; rfl
             refine Ej fun w1 hs1 => ?_; rw [hE, if_neg m5, if_neg (by simp_all), if_neg m5, if_neg (by simp_all)]; rfl
             skip)
          skip)
   skip)
theorem Jpg (hi : i ≤ s.accts.length) : ((i : Int) == 0) = (Xp s.er i).isNone := by
 cases i with
 | zero => rfl
 | succ j =>
  obtain ⟨a, ha, -⟩ := QD (show j < s.accts.length by omega)
  rw [Jcy ha rfl]; exact J5g m5
theorem YO (hs : s.In R) : PureR Tryz.prog 33 [s.val].toArray (.int .i64 (KP s.er)) R := by
 have hl : s.accts.length ≤ 9223372036854775807 := hs.len
 have hseg := hs.seg
 obtain ⟨hc5, hcg⟩ := Jla s
 refine Jc Tryz.func33 O O fun w => NH ?_; refine FH fun rs => ?_; refine XG 8 [0] O O (F3 ?_); refine cD (fun g => ?_) fun g => ?_
 refine Gv fun w1 hs1 => ?_; rw [hc5 m9]; rfl
 ·refine JC 14 O (Jw (σ := Nat) (fun i => i ≤ s.accts.length ∧ goS (Xp s.er i) (s.er.drop i) = goS none s.er) (fun i => [(1, Value.pointer (some ⟨rs, 0, none⟩)), (3, J5 ((Xp s.er i).getD [])), (4, .int .i64 (i : Int))]) (fun _ => [(rs, .cells s.cells.toArray 36 (0, 0))]) (fun _ _ _ => True) (fun i => s.accts.length - i) 0 ⟨Nat.zero_le _, rfl⟩ (lK O) (List.Sublist.refl _) (fun _ _ h => h) ?_); rintro i ⟨hi1, hinv⟩; refine Ex ?_; refine F3 ?_; refine cD (fun g => ?_) fun g => ?_
  refine gk ?_
  obtain ⟨a, ha, hma⟩ := QD Ma
  rw [Jk8 (vG ha)] at hinv; refine gp ?_
  refine Gr ?_; refine ko ?_; refine Jq (Ye (Jpg hi1)) (Q1 O (Ji O O O (enters_of Tryz.func83 m6 O) (Jzl (hs.accts a hma) (Xp s.er i)) oR (JN 10 O ?_))); refine cD (fun g => ?_) fun g => ?_
  refine Kk 13 O (Ni fun w1 hs1 => ?_); rw [hcg m5, ← hinv, if_pos (by simp_all)]; rfl
  refine Ex ?_
  refine DW ?_; refine D8 ?_; exact Jo (i + 1) ⟨by omega, by rw [if_neg (by simp_all)] at hinv; exact hinv⟩ m5 (.cons O (.cons (by rw [Jcy ha rfl]; rfl) (.cons rfl .nil))) (List.Sublist.refl _) (fun _ _ h => h)
  ·exact I5
theorem chk_one (e : AcE) : KP [e] = Wz e := by
 unfold KP goS
 rw [if_neg (by show ¬ 1 > 32; decide), vC]
 split
 ·rfl
 ·rename_i h
  rw [goS]; exact (Decidable.not_not.1 h).symm
structure OutI {α : Type} (f : α → List Value) (sz : Nat) (acc : List α) (n : Nat) (xs : List Value) (row : QC) : Prop where
  num : n = acc.length
  cells : xs = acc.flatMap f
  ok : rowOk sz n xs row
theorem OutI.nil {f : α → List Value} : OutI f sz [] 0 [] none := ⟨rfl, rfl, rfl, rfl⟩
theorem OutI.snoc {f : α → List Value} {n : Nat} {acc : List α} {xs : List Value} {row' : QC} (h : OutI f sz acc n xs row) {x : α} (h' : rowOk sz (n + 1) (xs ++ f x) row') : OutI f sz (acc ++ [x]) (n + 1) (xs ++ f x) row' :=
 ⟨by rw [List.length_append, h.num]; rfl, by rw [List.flatMap_append, h.cells]; simp, h'⟩
theorem jT {x y : α} {p : Bool} : Vm kf x p (y :: ys) = (if !p && !Op.bytesLess (kf y) (kf x) then [x] else []) ++ (if kf y = kf x then [] else [y]) ++ Vm kf x (p || !Op.bytesLess (kf y) (kf x)) ys := rfl
theorem Zv {x : α} {res acc t : List α} {pt b : Bool} (h : res = acc ++ ((if (!pt && !b) = true then [x] else []) ++ t ++ Vm kf x (pt || !b) ys)) :
  (pt = false → b = false → res = (acc ++ [x]) ++ (t ++ Vm kf x true ys)) ∧ (pt = true ∨ b = true → res = acc ++ (t ++ Vm kf x pt ys)) := by
 rw [h]; refine ⟨fun h1 h2 => ?_, fun h1 => ?_⟩
 ·subst h1 h2; simp
 ·rcases h1 with h1 | h1 <;> subst h1 <;> simp
theorem Jzm {l : List (BS × BS)} {p : Pl} (hl : l.length ≤ 1000) (hs : Seg R l.length (l.flatMap Q7) p) (x : BS × BS) :
    PureT (α := { row : QC // rowOk 2 (Vm Prod.fst x (decide (x.2 = Qx)) l).length ((Vm Prod.fst x (decide (x.2 = Qx)) l).flatMap Q7) row }) Tryz.prog 199 [KA l.length p, J5j x].toArray (fun y => J9 (Vm Prod.fst x (decide (x.2 = Qx)) l).length y.1) [] (fun y => JE 97 ((Vm Prod.fst x (decide (x.2 = Qx)) l).flatMap Q7) y.1) R := by
  obtain ⟨p0, hp0⟩ : ∃ b, b = decide (x.2 = Qx) := ⟨_, rfl⟩
  rw [← hp0]
  obtain ⟨res, hres⟩ : ∃ r, r = Vm Prod.fst x p0 l := ⟨_, rfl⟩
  rw [← hres]; refine J4 Tryz.func199 O O fun w => NH ?_; refine JX (cs := (Q7 x).toArray) O O O O fun rx => H2 ?_; refine JK 5 m6 m6 ?_
  refine Nx ?_; refine KI O O O Jr0 Jd0 (Ja O O O (W7 (a := x.2) (b := Qx) O O) (Ks (Ye hp0.symm) (NP ?_))); refine H2 ?_; refine Jw (σ := Nat × Bool × List (BS × BS) × Nat × List Value × QC) (fun q => q.1 ≤ l.length ∧ res = q.2.2.1 ++ Vm Prod.fst x q.2.1 (l.drop q.1) ∧ OutI Q7 2 q.2.2.1 q.2.2.2.1 q.2.2.2.2.1 q.2.2.2.2.2 ∧ q.2.2.2.1 ≤ 2 * q.1) (fun q => [(0, KA l.length p), (3, Value.pointer (some ⟨rx, 0, none⟩)), (5, J9 q.2.2.2.1 q.2.2.2.2.2), (6, .bool q.2.1), (7, .int .i64 (q.1 : Int))]) (fun q => (rx, .cells (Q7 x).toArray 97 (0, 0)) :: JE 97 q.2.2.2.2.1 q.2.2.2.2.2) (fun _ _ _ => True) (fun q => l.length - q.1) (0, p0, [], 0, [], none) ⟨Nat.zero_le _, hres, OutI.nil, Nat.zero_le _⟩ (lK O) (List.Sublist.refl _) (fun _ _ h => h) ?_; rintro ⟨i, pt, acc, n, xs, row⟩ ⟨hi1, hinv, ho, hn2⟩; simp only at hi1 hinv ho hn2; change HC _ _ [(0, _), (3, _), (5, J9 n row), (6, .bool pt), (7, .int .i64 (i : Int))] ((rx, _) :: JE _ xs row) _ _ _; refine gn ?_; refine ND ?_; refine ki ?_; refine cD (fun g => ?_) fun g => ?_
  · refine NO ?_
    obtain ⟨y, hy, hmy⟩ := QD (show i < l.length by omega)
    rw [VY hy, jT] at hinv
    have hno := ho.num
    refine JK 12 m6 m6 (gr ?_); refine Nm ?_
    refine Yl 20 O (fun gb => ?_) (fun gb => ?_) <;> (try simp only [ZZ] at gb) <;> first | (refine Ja O O O (Jg O) ?_) | (refine JG O O O ?_)
    all_goals refine H1 ?_
    all_goals first | (refine Ja O O O (Jk (j := i) O hs O O O me m5) ?_) | refine JG O O O ?_
    all_goals first | (refine Ja O O O (JV (off' := Xe p + (i * 2 + 0)) O O MV) ?_) | refine JG O O O ?_
    all_goals first | refine Ja O O O (Qc Ki (k := 0) (v := J5 y.1) oR O hs hy O O) ?_ | refine JG O O O ?_
    all_goals refine GB ?_
    all_goals refine GY ?_
    all_goals first | refine Ja O O O (ym (a := y.1) (b := x.1) O O) ?_ | refine JG O O O ?_
    all_goals refine gi ?_
    all_goals (
     refine JS (J1 1 O (XC 1 O ?_)); refine J7 O (fun g => ?_) (fun g => ?_)
     · try exact Bool.noConfusion g
       all_goals try simp only [ZZ] at g
       all_goals (
        refine Gy ?_; refine DS fun rv => ?_; refine JA (L0 := [_, _]) (xs := xs) (row := row) (n := n) (sz := 2) (b := 32) (news := Q7 x) (List.perm_append_comm (l₁ := [_, _])) O O O O (kn 0 O) O O O O O m7 O O O m7 ho.ok m5 m5 fun ra cap sp hra => ki ?_; refine Vz [2, 0] (L' := [_, _]) m7 O ?_
        obtain ⟨pt2, hpt2⟩ : ∃ b, b = true := ⟨_, rfl⟩
        refine kE ?_; refine Jq (congrArg Value.bool hpt2.symm) (ki ?_)
        (have ho1 := ho.snoc hra
         have hinv1 := (Zv hinv).1 m9 m9
         have hn1 : n + 1 ≤ 2 * i + 1 := by omega
         change HC _ _ ((6, .bool pt2) :: (5, J9 (n + 1) (some (ra, cap, sp))) :: _) ((rx, _) :: JE 97 (xs ++ Q7 x) (some (ra, cap, sp))) _ _ _; clear hinv ho hno hra hn2
         generalize acc ++ [x] = acc at ho1 hinv1
         generalize n + 1 = n at ho1 hn1 ⊢
         generalize xs ++ Q7 x = xs at ho1 ⊢
         generalize (some (ra, cap, sp) : QC) = row at ho1 ⊢
         rw [← hpt2] at hinv1; clear hpt2
         obtain ⟨pt, rfl⟩ : ∃ b, b = pt2 := ⟨pt2, rfl⟩)
        have ho := ho1
        have hno := ho.num
        refine Gm ?_; refine H9 ?_; refine cD (fun g => ?_) fun g => ?_
        refine gZ ?_
        refine kT ?_; refine LR O (Kl Ki oR O hs hy O O) (HR fun rv => ?_); refine JA (L0 := [_, _]) (xs := xs) (row := row) (n := n) (sz := 2) (b := 32) (news := Q7 y) (List.perm_append_comm (l₁ := [_, _])) O O O O (kn 0 O) O O O O O m7 O O O m7 ho.ok m5 m5 fun ra cap sp hra => D8 ?_
        (refine KU [2, 0] (L' := [_, _]) m7 O ?_
         exact Jo (i + 1, pt, acc ++ [y], n + 1, xs ++ Q7 y, some (ra, cap, sp)) ⟨by simp only; omega, by rw [hinv1, if_neg m9]; simp, ho.snoc hra, by simp only; omega⟩ mh (lK rfl) (List.Sublist.refl _) (fun _ _ h => h))
        exact kd
        skip)
     try simp only [ZZ] at g
     refine GU ?_
     (have ho1 := ho
      have hinv1 := (Zv hinv).2 nO
      have hn1 : n ≤ 2 * i + 1 := by omega
      clear hinv ho hno hn2)
     have ho := ho1
     have hno := ho.num
     refine Gm ?_; refine H9 ?_; refine cD (fun g => ?_) fun g => ?_
     refine gZ ?_
     refine kT ?_; refine LR O (Kl Ki oR O hs hy O O) (HR fun rv => ?_); refine JA (L0 := [_, _]) (xs := xs) (row := row) (n := n) (sz := 2) (b := 32) (news := Q7 y) (List.perm_append_comm (l₁ := [_, _])) O O O O (kn 0 O) O O O O O m7 O O O m7 ho.ok m5 m5 fun ra cap sp hra => D8 ?_
     (refine KU [2, 0] (L' := [_, _]) m7 O ?_
      exact Jo (i + 1, pt, acc ++ [y], n + 1, xs ++ Q7 y, some (ra, cap, sp)) ⟨by simp only; omega, by rw [hinv1, if_neg m9]; simp, ho.snoc hra, by simp only; omega⟩ mh (lK rfl) (List.Sublist.refl _) (fun _ _ h => h))
     exact kd
     skip)
  · refine Dk ?_
    obtain rfl : i = l.length := by omega
    rw [List.drop_length, Vm] at hinv
    have hno := ho.num
    refine gk ?_; refine cD (fun g => ?_) fun g => ?_
    refine kE ?_; refine DS fun rv => ?_; refine JA (L0 := [_, _]) (xs := xs) (row := row) (n := n) (sz := 2) (b := 32) (news := Q7 x) (List.perm_append_comm (l₁ := [_, _])) O O O O (kn 0 O) O O O O O m7 O O O m7 ho.ok m5 m5 fun ra cap sp hra => J1 10 O (NW fun w1 hs1 => ?_)
    (have hr : res = acc ++ [x] := by rw [hinv]; simp_all
     have ho1 := ho.snoc hra
     rw [← hr] at ho1
     obtain ⟨e1, e2, e3⟩ := ho1
     rw [← e1, ← e2]
     exact ⟨⟨some (ra, cap, sp), e3⟩, rfl, hs1.weakL (.cons_cons _ (List.nil_sublist _))⟩)
    · refine Kk 9 O (NW fun w1 hs1 => ?_)
      (have hr : res = acc := by rw [hinv]; simp_all
       rw [← hr] at ho
       obtain ⟨e1, e2, e3⟩ := ho
       rw [← e1, ← e2]
       exact ⟨⟨row, e3⟩, rfl, hs1.weakL (.cons _ (List.Sublist.refl _))⟩)
theorem vU {α : Type} {kf : α → BS} {x z : α} : ∀ {p : Bool} {l : List α}, z ∈ Vm kf x p l → z = x ∨ z ∈ l
 | p, [], h => by
  rw [Vm] at h
  split at h
  ·cases h
  ·exact .inl (List.mem_singleton.1 h)
 | p, y :: ys, h => by
  rw [jT] at h
  rcases List.mem_append.1 h with h | h
  ·rcases List.mem_append.1 h with h | h
   ·split at h
    ·exact .inl (List.mem_singleton.1 h)
    ·cases h
   ·split at h
    ·cases h
    ·rw [List.mem_singleton.1 h]; exact .inr List.mem_cons_self
  ·exact (vU h).imp id (List.mem_cons_of_mem _)
theorem one_seg {a : AcL} {r : Nat} : Seg [(r, .cells a.cells.toArray 48 (0, 0))] [a].length ([a].flatMap AcL.cells) (some (⟨r, 0, none⟩, 1)) := by
 have h := JQ (row := some (r, 1, [])) (sz := 8) (n := 1) (e := 48) (cs := a.cells) ⟨rfl, rfl⟩ m7
 simpa [JE, KY] using h
theorem vV {a : AcL} (ha : a.In R) (r : Nat) : StL.In ((r, .cells a.cells.toArray 48 (0, 0)) :: R) ⟨[a], some (⟨r, 0, none⟩, 1)⟩ :=
 ⟨by show 1 ≤ _; decide, one_seg.mono fun q hq => by rw [List.mem_singleton.1 hq]; exact List.mem_cons_self, fun x hx => by rw [List.mem_singleton.1 hx]; exact ha.mono fun q hq => List.mem_cons_of_mem _ hq⟩
set_option maxHeartbeats 1000000 in
theorem Jva {a : AcL} (hs : s.In R) (ha : a.In R) : PureT (α := StRes R (ZQ s.er a.er)) Tryz.prog 87 [s.val, a.val].toArray (fun x => x.val) [] (fun x => x.L) R := by
  have hl := hs.len
  have hseg := hs.seg
  have hc := YO hs
  have hput : ZQ s.er a.er = if KP s.er ≠ 0 then (s.er, KP s.er) else if Wz a.er ≠ 0 then (s.er, Wz a.er) else if (Qo AcE.addr a.er s.er).length > 32 then (s.er, 5) else (Qo AcE.addr a.er s.er, 0) := rfl
  obtain ⟨res, hres⟩ : ∃ r, r = Vm AcL.addr a false s.accts := ⟨_, rfl⟩
  have hset : KP s.er = 0 → (Qo AcE.addr a.er s.er) = res.map AcL.er ∧ s.accts.length ≤ 32 ∧ (Qo AcE.addr a.er s.er).length = s.accts.length + (if WD s a.addr then 0 else 1) := fun h => by
    have h' := XV.1 h
    have h2 : KN AcL.addr s.accts := (Jas s).2 h'.2.2
    refine ⟨?_, by rw [← s.er_len]; exact h'.1, ?_⟩
    rw [hres, vB h2, Jcz]; rfl
    rw [Jcp h'.2.2, s.er_len, Jrs]
    by_cases hf : (Qn s.er a.addr).isSome = true
    rw [if_pos hf, if_pos (show (Wc AcE.addr a.er.addr s.er).isSome = true from hf)]; rfl
    rw [if_neg hf, if_neg (show ¬ (Wc AcE.addr a.er.addr s.er).isSome = true from hf)]
  refine J4 Tryz.func87 O O fun w => NH ?_; refine FH fun rs => ?_; refine FG fun ra => ?_; refine LN O fun r1 => kL ?_; refine EG ?_; refine Ji O O O Joj hc oR (Ht ?_); refine cD (fun g => ?_) fun g => ?_
  refine gJ ?_; refine NR fun w1 hs1 => ?_; rw [hput, if_pos m5]; exact GH
  · refine gZ ?_; refine kM fun rv => ?_; refine cD (fun g => ?_) fun g => ?_
    refine kE ?_; refine EH ?_; refine Q1 O (Jj (k := 1) (n := 1) (ys := s.cells) O O O O O O O O O (J1 5 O ?_)); refine Jf O O (.cons (Js (vs := [_]) O (kn 1 O) O O) (.cons (Jh O) .nil)) (fun w1 hs1 => ?_); exact E2
    · refine GU ?_
      have hok := hset m5
      refine HY ?_; refine EH ?_
      refine LS 2 [2] O O (Ji O O O J1y (Jd1 hs a.addr) oR (HO ?_)); refine LN O fun r2 => Jj (k := 0) (n := 8) (ys := ((Q5 s a.addr)).cells) O O O O O O O O O (JH 9 O ?_)
      refine Jv 36 O (fun gb => ?_) (fun gb => ?_) <;> (try simp only [ZZ] at gb) <;> first | (refine LR O (J6 O O O) ?_) | (refine LK O ?_)
      all_goals first | refine LR O (Je (v := KA s.accts.length s.p) O (kn 4 O) O O) ?_ | refine LK O ?_
      all_goals refine DQ ?_
      all_goals (
       refine kp ?_; refine J7 O (fun g => ?_) (fun g => ?_)
       · try exact Bool.noConfusion g
         all_goals try simp only [ZZ] at g
         all_goals (
          refine GZ ?_; refine Jj (k := 2) (n := 1) (ys := s.cells) O O O O O O O O O (gy ?_); refine Jf O O (.cons (Js (vs := [_]) O (kn 2 O) O O) (.cons (Jh O) .nil)) (fun w1 hs1 => ?_); rw [hput, if_neg m5, if_neg m5, if_pos (by rw [hok.2.2, if_neg (by simp_all)]; omega)]; exact Fw
          skip)
       · try simp only [ZZ] at g
         refine GU ?_
         have hroom : (Qo AcE.addr a.er s.er).length ≤ 32 := by
           rw [hok.2.2]
           have := hok.2.1
           first
           | (rw [if_pos m9]; omega)
           | (rw [if_neg (by simp_all)]; omega)
         refine HY ?_; refine F5 ?_; refine LN O fun r3 => ?_
         refine NQ ?_; refine JN 14 O (Vz [0, 5, 4, 3] (L' := [_, _, _, _]) m7 O (Jw (σ := Nat × Bool × List AcL × Nat × List Value × QC) (fun q => q.1 ≤ s.accts.length ∧ res = q.2.2.1 ++ Vm AcL.addr a q.2.1 (s.accts.drop q.1) ∧ OutI AcL.cells 8 q.2.2.1 q.2.2.2.1 q.2.2.2.2.1 q.2.2.2.2.2 ∧ q.2.2.2.1 ≤ 2 * q.1) (fun q => [(2, Value.pointer (some ⟨rs, 0, none⟩)), (3, Value.pointer (some ⟨ra, 0, none⟩)), (4, Value.pointer (some ⟨r1, 0, none⟩)), (5, .int .i64 0), (10, Value.pointer (some ⟨r3, 0, none⟩)), (11, .bool q.2.1), (12, .int .i64 (q.1 : Int))]) (fun q => (r3, .cells #[J9 q.2.2.2.1 q.2.2.2.2.2] 36 (0, 0)) :: (rs, .cells s.cells.toArray 36 (0, 0)) :: (ra, .cells a.cells.toArray 48 (0, 0)) :: (r1, .cells st0L.cells.toArray 36 (0, 0)) :: JE 48 q.2.2.2.2.1 q.2.2.2.2.2) (fun _ _ _ => True) (fun q => s.accts.length - q.1) (0, false, [], 0, [], none) ⟨Nat.zero_le _, hres, OutI.nil, Nat.zero_le _⟩ (lK O) (List.Sublist.refl _) (fun _ _ h => h) ?_)); rintro ⟨i, pt, acc, n, xs, row⟩ ⟨hi1, hinv, ho, hn2⟩; simp only at hi1 hinv ho hn2; change HC _ _ [(2, _), (3, _), (4, _), (5, _), (10, _), (11, .bool pt), (12, .int .i64 (i : Int))] ((r3, .cells #[J9 n row] _ _) :: (rs, _) :: (ra, _) :: (r1, _) :: JE _ xs row) _ _ _; refine gn ?_; refine LR O (Je (v := KA s.accts.length s.p) O (kn 1 O) O O) (F3 ?_); refine cD (fun g => ?_) fun g => ?_
         · refine NO ?_
           obtain ⟨y, hy, hmy⟩ := QD Ma
           rw [VY hy, jT] at hinv
           have hno := ho.num
           refine JK 13 m6 m6 (gr ?_); refine Nm ?_
           refine Yl 53 O (fun gb => ?_) (fun gb => ?_) <;> (try simp only [ZZ] at gb) <;> first | (refine Ja O O O (J6 O O O) ?_) | (refine JG O O O ?_)
           all_goals first | refine Ja O O O (Je (v := KA s.accts.length s.p) O (kn 1 O) O O) ?_ | refine JG O O O ?_
           all_goals refine kR ?_
           all_goals first | (refine Ja O O O (JV (off' := Xe s.p + (i * 8 + 0)) O O nT) ?_) | refine JG O O O ?_
           all_goals first | refine Ja O O O (Qc AcL.len (k := 0) (v := J5 y.addr) oR O hseg hy O O) ?_ | refine JG O O O ?_
           all_goals refine GB ?_
           all_goals first | refine Ja O O O (Je O (kn 2 O) O O) ?_ | refine JG O O O ?_
           all_goals first | refine Ja O O O (ym (a := y.addr) (b := a.addr) O O) ?_ | refine JG O O O ?_
           all_goals refine gi ?_
           all_goals (
            refine JS (J1 1 O (XC 1 O ?_)); refine J7 O (fun g => ?_) (fun g => ?_)
            · try exact Bool.noConfusion g
              all_goals try simp only [ZZ] at g
              all_goals (
               refine gp ?_; refine ER fun rv => ?_; refine JA (L0 := [_, _, _, _, _]) (xs := xs) (row := row) (n := n) (sz := 8) (b := 96) (news := a.cells) (List.perm_append_comm (l₁ := [_, _, _, _, _])) O O O O (kn 0 O) O O O O O m7 O O O m7 ho.ok m5 m5 fun rap cap sp hra => ?_
               refine gB ?_; refine H9 ?_; refine Vz [2, 3, 4, 5, 0] (L' := [_, _, _, _, _]) m7 O ?_
               obtain ⟨pt2, hpt2⟩ : ∃ b, b = true := ⟨_, rfl⟩
               refine kE ?_; refine Jq (congrArg Value.bool hpt2.symm) (ki ?_)
               (have ho1 := ho.snoc hra
                have hinv1 := (Zv hinv).1 m9 m9
                have hn1 : n + 1 ≤ 2 * i + 1 := by omega
                change HC _ _ ((11, .bool pt2) :: _) ((r3, .cells #[J9 (n + 1) (some (rap, cap, sp))] _ _) :: (rs, _) :: (ra, _) :: (r1, _) :: JE 48 (xs ++ a.cells) (some (rap, cap, sp))) _ _ _; clear hinv ho hno hra hn2
                generalize acc ++ [a] = acc at ho1 hinv1
                generalize n + 1 = n at ho1 hn1 ⊢
                generalize xs ++ a.cells = xs at ho1 ⊢
                generalize (some (rap, cap, sp) : QC) = row at ho1 ⊢
                rw [← hpt2] at hinv1; clear hpt2
                obtain ⟨pt, rfl⟩ : ∃ b, b = pt2 := ⟨pt2, rfl⟩)
               have ho := ho1
               have hno := ho.num
               refine JK 9 m6 m6 ?_
               refine Hn ?_; refine kS ?_; refine F4 ?_; refine cD (fun g => ?_) fun g => ?_
               refine HG fun rv => ?_; refine JA (L0 := [_, _, _, _, _]) (xs := xs) (row := row) (n := n) (sz := 8) (b := 96) (news := y.cells) (List.perm_append_comm (l₁ := [_, _, _, _, _])) O O O O (kn 0 O) O O O O O m7 O O O m7 ho.ok m5 m5 fun rap cap sp hra => ?_
               refine gB ?_; refine Gu ?_; refine Nk ?_
               (refine KU [2, 3, 4, 5, 0] (L' := [_, _, _, _, _]) m7 O ?_
                exact Jo (i + 1, pt, acc ++ [y], n + 1, xs ++ y.cells, some (rap, cap, sp)) ⟨by simp only; omega, by rw [hinv1, if_neg m9]; simp, ho.snoc hra, by simp only; omega⟩ mh (lK rfl) (List.Sublist.refl _) (fun _ _ h => h))
               exact kd
               skip)
            try simp only [ZZ] at g
            refine GU ?_
            (have ho1 := ho
             have hinv1 := (Zv hinv).2 nO
             have hn1 : n ≤ 2 * i + 1 := by omega
             clear hinv ho hno hn2)
            have ho := ho1
            have hno := ho.num
            refine JK 9 m6 m6 ?_
            refine Hn ?_; refine kS ?_; refine F4 ?_; refine cD (fun g => ?_) fun g => ?_
            refine HG fun rv => ?_; refine JA (L0 := [_, _, _, _, _]) (xs := xs) (row := row) (n := n) (sz := 8) (b := 96) (news := y.cells) (List.perm_append_comm (l₁ := [_, _, _, _, _])) O O O O (kn 0 O) O O O O O m7 O O O m7 ho.ok m5 m5 fun rap cap sp hra => ?_
            refine gB ?_; refine Gu ?_; refine Nk ?_
            (refine KU [2, 3, 4, 5, 0] (L' := [_, _, _, _, _]) m7 O ?_
             exact Jo (i + 1, pt, acc ++ [y], n + 1, xs ++ y.cells, some (rap, cap, sp)) ⟨by simp only; omega, by rw [hinv1, if_neg m9]; simp, ho.snoc hra, by simp only; omega⟩ mh (lK rfl) (List.Sublist.refl _) (fun _ _ h => h))
            exact kd
            skip)
         refine Dk ?_
         obtain rfl : i = s.accts.length := by omega
         rw [List.drop_length, Vm] at hinv
         have hno := ho.num
         refine gk ?_; refine cD (fun g => ?_) fun g => ?_
         refine Qy 3 [0] O O (ER fun rv => ?_); refine JA (L0 := [_, _, _, _, _]) (xs := xs) (row := row) (n := n) (sz := 8) (b := 96) (news := a.cells) (List.perm_append_comm (l₁ := [_, _, _, _, _])) O O O O (kn 0 O) O O O O O m7 O O O m7 ho.ok m5 m5 fun rap cap sp hra => ?_
         refine gB ?_; refine ki ?_
         (refine Vz [2, 3, 4, 5, 0] (L' := [_, _, _, _, _]) m7 O ?_
          have hr : res = acc ++ [a] := by rw [hinv]; simp_all
          have ho1 := ho.snoc hra
          change HC _ _ _ ((r3, .cells #[J9 (n + 1) (some (rap, cap, sp))] _ _) :: (rs, _) :: (ra, _) :: (r1, _) :: JE 48 (xs ++ a.cells) (some (rap, cap, sp))) _ _ _; rw [← hr] at ho1; clear hinv ho hno hra hn2
          generalize n + 1 = n at ho1 ⊢
          generalize xs ++ a.cells = xs at ho1 ⊢
          generalize (some (rap, cap, sp) : QC) = row at ho1 ⊢)
         refine Hr ?_; refine Gd fun w1 hs1 => ?_
         (rw [hput, if_neg m5, if_neg m5, if_neg m5, hok.1]
          obtain ⟨e1, e2, e3⟩ := ho1
          subst e1 e2
          exact ⟨⟨⟨res, KY row⟩, 0, JE 48 (res.flatMap AcL.cells) row, ⟨by show res.length ≤ 9223372036854775807; have := congrArg List.length hok.1; rw [List.length_map] at this; omega, (JQ e3 m7).mono fun q hq => List.mem_append_left _ hq, fun z hz => ((vU (hres ▸ hz)).elim (fun e => by rw [e]; exact ha) (hs.accts z)).mono fun q hq => List.mem_append_right _ hq⟩, rfl⟩, by show Ending.returned _ = Ending.returned (Value.tuple #[Value.agg #[KA res.length (KY row)], .int .i64 0]); rw [QG _ _ e3.zero]; rfl, hs1.weakL (List.sublist_append_right [_, _, _, _] _)⟩)
         refine GU ?_
         (have hr : res = acc := by rw [hinv]; simp_all
          have ho1 := ho
          rw [← hr] at ho1
          clear hinv ho hno hn2)
         refine Hr ?_; refine Gd fun w1 hs1 => ?_
         (rw [hput, if_neg m5, if_neg m5, if_neg m5, hok.1]
          obtain ⟨e1, e2, e3⟩ := ho1
          subst e1 e2
          exact ⟨⟨⟨res, KY row⟩, 0, JE 48 (res.flatMap AcL.cells) row, ⟨by show res.length ≤ 9223372036854775807; have := congrArg List.length hok.1; rw [List.length_map] at this; omega, (JQ e3 m7).mono fun q hq => List.mem_append_left _ hq, fun z hz => ((vU (hres ▸ hz)).elim (fun e => by rw [e]; exact ha) (hs.accts z)).mono fun q hq => List.mem_append_right _ hq⟩, rfl⟩, by show Ending.returned _ = Ending.returned (Value.tuple #[Value.agg #[KA res.length (KY row)], .int .i64 0]); rw [QG _ _ e3.zero]; rfl, hs1.weakL (List.sublist_append_right [_, _, _, _] _)⟩)
       skip)
theorem Jjq {l : List (BS × BS)} (h : KN Prod.fst l) (k v : BS) : Vm Prod.fst (k, v) (decide (v = Qx)) l = KK l k v := by
 unfold KK
 by_cases e : v = Qx
 ·rw [if_pos e, decide_eq_true e, Zf]
 ·rw [if_neg e, decide_eq_false e, vB h]
theorem Jvb {a : AcL} (ha : a.In R) (k v : BS) : PureT (α := AcRes R (VP a.er k v)) Tryz.prog 136 [a.val, J5 k, J5 v].toArray (fun x => x.val) [] (fun x => x.L) R := by
  have hl := ha.len
  have hseg := ha.seg
  have hset : VP a.er k v = if Wz a.er ≠ 0 then (a.er, Wz a.er) else if k.length ≠ 32 ∨ v.length ≠ 32 then (a.er, 2) else if (KK a.slots k v).length > 16 then (a.er, 5) else (⟨a.addr, a.nonce, a.bal, a.code, KK a.slots k v⟩, 0) := rfl
  refine J4 Tryz.func136 O O fun w => NH ?_; refine FG fun ra => ?_; refine LN O fun r1 => kL ?_; refine kM fun rv => ?_; refine cD (fun g => ?_) fun g => ?_
  refine kE ?_; refine GJ ?_; refine Q1 O (Jj (k := 1) (n := 8) (ys := (a).cells) O O O O O O O O O (J1 5 O ?_)); refine Gn fun w1 hs1 => ?_; exact Eo
  · refine Gq ?_; refine F8 ?_
    refine Jv 21 O (fun gb => ?_) (fun gb => ?_) <;> (try simp only [ZZ] at gb) <;> first | (refine Q1 O ?_) | (refine LK O ?_)
    all_goals refine gc ?_
    all_goals (
     refine kp ?_; refine J7 O (fun g => ?_) (fun g => ?_)
     try simp only [ZZ] at g
     refine Fz ?_; refine Gn fun w1 hs1 => ?_; exact Eb
     · try exact Bool.noConfusion g
       all_goals try simp only [ZZ] at g
       all_goals (
        refine GU ?_
        have hok : KN Prod.fst a.slots ∧ a.slots.length ≤ 16 := ⟨(Ve (a := a.er) m5).2.2.1, (Ve (a := a.er) m5).2.2.2.2⟩
        refine Qy 5 [2] O O (Gj ?_); refine Kn O O O (enters_of Tryz.func199 m6 O) (Jzm (by have := hok.2; omega) hseg (k, v)) oR fun x => ?_
        obtain ⟨row, hrow⟩ := x
        refine GL ?_; change HL _ _ ((32, J9 (Vm Prod.fst (k, v) (decide (v = Qx)) a.slots).length row) :: _) ((rv, _) :: (r1, _) :: (ra, _) :: JE _ _ row) _ _ _ _
        have hrow : rowOk 2 (Vm Prod.fst (k, v) (decide (v = Qx)) a.slots).length ((Vm Prod.fst (k, v) (decide (v = Qx)) a.slots).flatMap Q7) row := hrow
        rw [Jjq hok.1 k v] at hrow ⊢; refine gY ?_; refine LR O (VW O hrow.zero O) (ki ?_); refine cD (fun g => ?_) fun g => ?_
        refine Fz ?_; refine Gn fun w1 hs1 => ?_; exact GD
        refine Ic ?_; refine Ge ?_; refine LR O (Jz (vs := [J5 a.addr, uV a.nonce, uV a.bal.a, uV a.bal.b, uV a.bal.c, uV a.bal.d, J5 a.code, J9 (KK a.slots k v).length row]) O (kn 2 O) O O O O) (Q8 (k := 1) (n := 8) (cs' := #[J5 a.addr, uV a.nonce, uV a.bal.a, uV a.bal.b, uV a.bal.c, uV a.bal.d, J5 a.code, J9 (KK a.slots k v).length row]) (vs := #[_, _, _, _, _, _, _, _]) O O O O O O mW mR O O (gM ?_)); refine Gn fun w1 hs1 => ?_
        (rw [hset, if_neg m5, if_neg m5, if_neg m5]
         exact ⟨⟨⟨a.addr, a.nonce, a.bal, a.code, KK a.slots k v, KY row⟩, 0, JE 97 ((KK a.slots k v).flatMap Q7) row, Zk ha m5 m5 m5 (JQ hrow m7), rfl⟩, by show Ending.returned _ = Ending.returned (Value.tuple #[Value.agg #[J5 a.addr, uV a.nonce, uV a.bal.a, uV a.bal.b, uV a.bal.c, uV a.bal.d, J5 a.code, KA (KK a.slots k v).length (KY row)], .int .i64 0]); rw [QG _ _ hrow.zero]; rfl, hs1.weakL (List.sublist_append_right [_, _, _] _)⟩)
        skip)
     skip)
open Go.Proofs (Enters enters_of)
theorem qZ {k n : Int} {p : Pl} {x : Ty} {l : List Vl} (hk : (k = 3 ∧ (l.length : Int) = n) ∨ (k = 4 ∧ (l.length : Int) ≤ n)) (h : ∀ v ∈ l, Qd v x = 0) : Qd (Qv l 0) (.mk k n p [x]) = 0 := by
 have hL : ∀ (l : List Vl) (i : Nat), (∀ v ∈ l, Qd v x = 0) → Vh l k 0 [x] i = 0 := by
  intro l
  induction l with
  | nil => intro i _; rw [Vh]
  | cons v l ih =>
   intro i h
   have e : JT k 0 [x] i = x := by unfold JT W1; rcases hk with ⟨rfl, _⟩ | ⟨rfl, _⟩ <;> rfl
   rw [Vh, e, if_pos (h v ml), ih _ (fun w hw => h w (by simp [hw]))]
 unfold Qv
 rw [vI ?_ ?_, hL l 0 h]
 ·rcases hk with ⟨rfl, h1⟩ | ⟨rfl, h1⟩ <;> simp <;> omega
 ·rw [VQ k n _ 0 0 0 0 [] none l none 0 _ rfl]
  rcases hk with ⟨rfl, h1⟩ | ⟨rfl, h1⟩ <;> simp [VE, h1]
theorem xr {a : Nat} {n : Int} {p : Pl} (h : ((WF [a, b, c, d]).length : Int) ≤ n) : Qd (.mk a b c d [] none [] none 0) (.mk 1 n p []) = 0 := by
 rw [vI ml (by rw [VQ 1 n _ a b c d [] none [] none 0 _ rfl]; simp [VE, h]), Vh]
theorem J2q : ∀ i : Fin 256, (WF [i.val, 0, 0, 0]).length ≤ 1 := by decide +kernel
theorem Jvc (b : UInt8) : Qd (Zt b) byT = 0 := xr (by have := J2q ⟨b.toNat, Xl b⟩; simp only at this; omega)
theorem Jd2 {s : BS} {n : Int} (h : (s.length : Int) = n) : Qd (xK s) (Yk 3 n) = 0 := qZ (.inl ⟨rfl, by rw [List.length_map]; exact h⟩) fun v hv => by obtain ⟨b, _, rfl⟩ := List.mem_map.1 hv; exact Jvc b
theorem Jzn {s : BS} {n : Int} (h : (s.length : Int) ≤ n) : Qd (xK s) (Yk 4 n) = 0 := qZ (.inr ⟨rfl, by rw [List.length_map]; exact h⟩) fun v hv => by obtain ⟨b, _, rfl⟩ := List.mem_map.1 hv; exact Jvc b
theorem Jzo {x : BS × BS} (h1 : x.1.length = 32) (h2 : x.2.length = 32) : Qd (wO x) Jdl = 0 := by
 unfold wO Jdl Qv
 rw [vI ml (by rw [VQ 7 0 _ 0 0 0 0 [] none _ none 0 _ rfl]; simp [VE]), Vh, show JT 7 0 [Yk 3 32, Yk 3 32] 0 = Yk 3 32 from rfl, if_pos (Jd2 m5), Vh, show JT 7 0 [Yk 3 32, Yk 3 32] (0 + 1) = Yk 3 32 from rfl, if_pos (Jd2 m5), Vh]
theorem Jzp {n : Nat} (h : Wr n) : (WF [n, 0, 0, 0]).length ≤ 8 := by
 have h1 := Joo (l := [n, 0, 0, 0]) (Jop h)
 rw [Jss] at h1; exact of_decide_eq_true h1.symm
theorem J2r {a : AcE} (h : Wz a = 0) (hn : Wr a.nonce) : Qd (acV a) acT = 0 := by
 obtain ⟨h1, h2, _, h4, h5⟩ := Ve h
 obtain ⟨I, hI⟩ : ∃ I, I = [Yk 3 20, .mk 1 8 none [], .mk 1 32 none [], Yk 4 512, .mk 4 16 none [Jdl]] := ⟨_, rfl⟩
 have e0 : JT 7 0 I 0 = Yk 3 20 := by rw [hI]; rfl
 have e1 : JT 7 0 I (0 + 1) = .mk 1 8 none [] := by rw [hI]; rfl
 have e2 : JT 7 0 I (0 + 1 + 1) = .mk 1 32 none [] := by rw [hI]; rfl
 have e3 : JT 7 0 I (0 + 1 + 1 + 1) = Yk 4 512 := by rw [hI]; rfl
 have e4 : JT 7 0 I (0 + 1 + 1 + 1 + 1) = .mk 4 16 none [Jdl] := by rw [hI]; rfl
 have hl : I.length = 5 := by rw [hI]; rfl
 have hsl : Qd (Vl.mk 0 0 0 0 [] none (a.slots.map wO) none 0) (.mk 4 16 none [Jdl]) = 0 := qZ (.inr ⟨rfl, by rw [List.length_map]; omega⟩) fun v hv => by
  obtain ⟨x, hx, rfl⟩ := List.mem_map.1 hv
  exact Jzo (h2 x hx).1 (h2 x hx).2.1
 unfold acV acT Qv
 rw [← hI, vI ml (by rw [hl, VQ 7 0 _ 0 0 0 0 [] none _ none 0 _ rfl]; simp [VE]), Vh, e0, if_pos (Jd2 m5), Vh, e1, if_pos (xr (by have := Jzp hn; omega)), Vh, e2, if_pos (xr (by have := Jjb [a.bal.a, a.bal.b, a.bal.c, a.bal.d]; omega)),
  Vh, e3, if_pos (Jzn m5), Vh, e4, if_pos hsl, Vh]
theorem Jd3 {l : List AcE} (h : KP l = 0) (hn : ∀ a ∈ l, Wr a.nonce) : VF ZG (YM l) = 0 := by
 obtain ⟨h1, h2, _⟩ := XV.1 h
 unfold VF
 rw [if_pos yA]
 exact qZ (.inr ⟨rfl, by rw [List.length_map]; omega⟩) fun v hv => by
  obtain ⟨a, ha, rfl⟩ := List.mem_map.1 hv
  exact J2r (h2 a ha) (hn a ha)
theorem Jd4 (h : KP s.er = 0) : s.accts.length ≤ 100000 ∧ ∀ a ∈ s.accts, Ac1 a := by
 obtain ⟨h1, h2, _⟩ := XV.1 h
 rw [s.er_len] at h1; refine ⟨by omega, fun a ha => ?_⟩
 obtain ⟨g1, g2, _, g4, g5⟩ := Ve (h2 a.er (List.mem_map.2 ⟨a, ha, rfl⟩))
 change a.addr.length = 20 at g1; change a.code.length ≤ 512 at g4; change a.slots.length ≤ 16 at g5; exact ⟨by omega, by omega, by omega, fun x hx => by obtain ⟨e1, e2, _⟩ := g2 x hx; omega⟩
theorem Jvd (hs : s.In R) (h : KP s.er = 0) : VF ZG (YM s.er) = 0 := Jd3 h fun a ha => by
 obtain ⟨b, hb, rfl⟩ := List.mem_map.1 ha
 exact (hs.accts b hb).nonce
theorem Jhm : ∀ l : List Vl, (∀ x ∈ l, Nonempty (VR x)) → ∃ (ys : List Vl) (L : Jx), ys.map jy = l ∧ ∀ y ∈ ys, y.In L
 | [], _ => ⟨[], [], rfl, fun y hy => nomatch hy⟩
 | x :: l, h => by
  obtain ⟨ys, L, h1, h2⟩ := Jhm l fun y hy => h y (List.mem_cons_of_mem _ hy)
  obtain ⟨v⟩ := h x List.mem_cons_self
  refine ⟨v.x :: ys, v.L ++ L, by rw [List.map_cons, v.er, h1], fun y hy => ?_⟩
  rcases List.mem_cons.1 hy with rfl | hy
  ·exact v.ok.mono fun q hq => List.mem_append_left _ hq
  ·exact (h2 y hy).mono fun q hq => List.mem_append_right _ hq
theorem j0 {l : List Vl} (h : ∀ x ∈ l, Nonempty (VR x)) (hl : l.length ≤ 100000) : Nonempty (VR (Qv l 0)) := by
 obtain ⟨ys, L, h1, h2⟩ := Jhm l h
 have hy : ys.length = l.length := by rw [← h1, List.length_map]
 exact ⟨⟨.mk 0 0 0 0 [] none ys (some (⟨0, 0, none⟩, ys.length)) 0, (0, .cells (Ql ys).toArray 0 (0, 0)) :: L, .mk u0 u0 u0 u0 m7 O m5 ⟨Nat.le_refl _, fun _ => ⟨rfl, _, 0, (0, 0), List.mem_cons_self, by rw [List.drop_zero, List.toList_toArray, List.take_length]⟩⟩ i0 fun x hx => (h2 x hx).mono fun q hq => List.mem_cons_of_mem _ hq, by rw [Xa, Xi, h1]; rfl⟩⟩
theorem Jm3 {a : Nat} (ha : Wr a) (hb : Wr b) (hc : Wr c) (hd : Wr d) : Nonempty (VR (.mk a b c d [] none [] none 0)) :=
 ⟨⟨.mk a b c d [] none [] none 0, [], .mk ha hb hc hd m7 rfl m7 rfl i0 (fun x hx => nomatch hx), by rw [Xa, yw]⟩⟩
theorem Jd5 {s : BS} (hl : s.length ≤ 100000) : Nonempty (VR (xK s)) := ⟨Jdt hl⟩
theorem J2s {a : AcL} (h : Ac1 a) (hn : Wr a.nonce) (hb : a.bal.ok) : Nonempty (VR (acV a.er)) := by
 obtain ⟨h1, h2, h3, h4⟩ := h
 refine j0 (fun x hx => ?_) (by show 5 ≤ 100000; decide); simp only [List.mem_cons, List.not_mem_nil, or_false] at hx
 rcases hx with rfl | rfl | rfl | rfl | rfl
 ·exact Jd5 h1
 ·exact Jm3 hn u0 u0 u0
 ·exact Jm3 hb.a hb.b hb.c hb.d
 ·exact Jd5 h2
 ·refine j0 (fun x hx => ?_) (by rw [List.length_map]; exact h3)
  obtain ⟨⟨k, v⟩, hy, rfl⟩ := List.mem_map.1 hx
  refine j0 (fun x hx => ?_) (by show 2 ≤ 100000; decide); simp only [List.mem_cons, List.not_mem_nil, or_false] at hx
  rcases hx with rfl | rfl
  ·exact Jd5 (h4 _ hy).1
  ·exact Jd5 (h4 _ hy).2
theorem Jve (hs : s.In R) (h : KP s.er = 0) : Nonempty (VR (YM s.er)) := by
 obtain ⟨hn, hb⟩ := Jd4 h
 refine j0 (fun x hx => ?_) (by rw [List.length_map, s.er_len]; exact hn)
 obtain ⟨a, ha, rfl⟩ := List.mem_map.1 hx
 obtain ⟨b, hb2, rfl⟩ := List.mem_map.1 ha
 exact J2s (hb b hb2) (hs.accts b hb2).nonce (hs.accts b hb2).bal
def J02 : TR ZG := ⟨Jo8 0 0 0 0 0 0 0 0, [(0, Jo6 0), (0, .cells #[.int .i64 3, .int .i64 32, .slice (some ⟨0, 0, none⟩) 1 1, .int .i64 3, .int .i64 32, .slice (some ⟨0, 0, none⟩) 1 1] 0 (0, 0)), (0, .cells #[.int .i64 7, .int .i64 0, .slice (some ⟨0, 0, none⟩) 2 2] 0 (0, 0)),
 (0, .cells #[.int .i64 3, .int .i64 20, .slice (some ⟨0, 0, none⟩) 1 1, .int .i64 1, .int .i64 8, .slice none 0 0, .int .i64 1, .int .i64 32, .slice none 0 0, .int .i64 4, .int .i64 512, .slice (some ⟨0, 0, none⟩) 1 1, .int .i64 4, .int .i64 16, .slice (some ⟨0, 0, none⟩) 1 1] 0 (0, 0)),
 (0, .cells #[.int .i64 7, .int .i64 0, .slice (some ⟨0, 0, none⟩) 5 5] 0 (0, 0))], Jdn (e := 0) (by simp) (by simp) (by simp) (by simp) (by simp) (by simp) (by simp) (by simp), Jdo ..⟩
theorem Jvf (t : Ty) (v : Vl) : YL t (jy v) = YL t v := by unfold YL VF; rw [Jtw, Jme]
theorem Jvg {T : Ty} {V : Vl} (t : TR T) (v : VR V) : YL t.x v.x = YL T V := by obtain ⟨x, L, ok, rfl⟩ := t; obtain ⟨y, M, ok2, rfl⟩ := v; rw [Jpa, Jvf]
theorem Jph {T : Ty} {V : Vl} (t : TR T) (v : VR V) : KZ v.x t.x = KZ V T := by obtain ⟨x, L, ok, rfl⟩ := t; obtain ⟨y, M, ok2, rfl⟩ := v; rw [xj, Jme]
theorem Jzq (t : TR ZG) : chk t.x 0 = 0 := by rw [← yz, t.er]; exact yA
theorem Jzr {V : Vl} (t : TR ZG) (v : VR V) (h : VF ZG V = 0) : Qd v.x t.x = 0 := by
 unfold VF at h
 rw [if_pos yA] at h; rw [← Jds, t.er, ← Jtw, v.er]; exact h
theorem xt {l : List AcE} (h : KP l = 0) (hf : VF ZG (YM l) = 0) : Q6 l = (KZ (YM l) ZG, 0) := by
 unfold Q6 YL
 rw [if_neg m5, if_neg m5]
theorem xu (hs : s.In R) (hw : KP s.er = 0 → Yy (YM s.er) ≤ 20000) : PureR Tryz.prog 20 [s.val].toArray (Wm (Q6 s.er)) R := by
 have hC := jz hs
 have hac := Jd4 (s := s)
 have hlay := Jve hs
 have hfit := Jvd hs
 have hb0 : KP s.er ≠ 0 → Q6 s.er = ([], KP s.er) := fun h => by unfold Q6; rw [if_pos h]
 have hb1 : KP s.er = 0 → Q6 s.er = YL ZG (YM s.er) := fun h => by unfold Q6; rw [if_neg m5]
 obtain ⟨accts, p⟩ := s
 generalize hz0 : KP (StL.er ⟨accts, p⟩) = z at *
 refine Jc Tryz.func20 O O fun w => Nj fun r1 => ?_; refine gY ?_; refine Fp ?_; refine Ji O O O Jxq hC oR (H2 ?_); refine cD (fun g => ?_) fun g => ?_
 refine D4 fun w1 hs1 => ?_; rw [hb0 m9]; rfl
 ·refine GU ?_
  have hz : z = 0 := by assumption
  obtain ⟨hn, hb⟩ := hac hz
  obtain ⟨v0⟩ := hlay hz
  have hww := hw hz
  refine JI [(r1, .cells #[KA accts.length p] 36 (0, 0))] [(0, .grow (KD J02 (fun y => y.x.val) (fun y => y.L))), (1, .pure), (2, .pure), (3, .grow (KD v0 (fun y => y.x.val) (fun y => y.L))), (5, .pure), (6, .pure)] 7 [1, 2, 0, 3, 4, 5, 6] m6 m6 m8 ?_
  refine Jm (k := 1) O O O O O (fun _ hS => (J6 O O O)) (Jm (k := 2) O O O O O (fun _ hS => (Je O (.inl (hS _ (J3 (n := 0) O))) O O)) (JZ (k := 0) O O O O O (enters_of Tryz.func46 m6 O) Jyw oN fun t => JZ (k := 3) O O O O O (enters_of Tryz.func47 m6 O) (Jy1 hs hn hb) oR fun v => ?_))
  refine JW (k := 4) (Rl := v.L ++ t.L) O O O O O (enters_of Tryz.func45 m6 O) (Jyx (t.ok.mono fun q hq => List.mem_append_right _ hq) (v.ok.mono fun q hq => List.mem_append_left _ hq) (by rw [← J0z v.x, v.er]; exact hww)) (fun q hq => .inl MU) (Qt (congrArg Wm (Jvg t v)) (Jm (k := 5) O O O O O (fun _ hS => (Kh O O)) (Jm (k := 6) O O O O O (fun _ hS => (Kh O O)) ?_))); exact I7
theorem vW (hs : s.In R) (hw : KP s.er = 0 → Yy (YM s.er) ≤ 20000) : PureR Tryz.prog 36 [s.val].toArray (Wm (Q6 s.er)) R := by
 have hC := YO hs
 have hac := Jd4 (s := s)
 have hlay := Jve hs
 have hfit := Jvd hs
 have hb0 : KP s.er ≠ 0 → Q6 s.er = ([], KP s.er) := fun h => by unfold Q6; rw [if_pos h]
 have hb1 : KP s.er = 0 → Q6 s.er = (KZ (YM s.er) ZG, 0) := fun h => xt h (hfit h)
 obtain ⟨accts, p⟩ := s
 generalize hz0 : KP (StL.er ⟨accts, p⟩) = z at *
 refine Jc Tryz.func36 O O fun w => Nj fun r1 => ?_; refine Gu ?_; refine Fp ?_; refine Ji O O O Joj hC oR (Ht ?_); refine cD (fun g => ?_) fun g => ?_
 refine D4 fun w1 hs1 => ?_; rw [hb0 m9]; rfl
 ·refine GU ?_
  have hz : z = 0 := by assumption
  obtain ⟨hn, hb⟩ := hac hz
  obtain ⟨v0⟩ := hlay hz
  have hww := hw hz
  have hff := hfit hz
  refine JI [(r1, .cells #[KA accts.length p] 36 (0, 0))] [(0, .grow (KD J02 (fun y => y.x.val) (fun y => y.L))), (1, .pure), (2, .grow (KD v0 (fun y => y.x.val) (fun y => y.L)))] 4 [1, 0, 2, 3] m6 m6 m8 (Jm (k := 1) O O O O O (fun _ hS => (Jz (vs := [_]) O (.inl (hS _ (J3 (n := 0) O))) O O O O)) (JZ (k := 0) O O O O O (enters_of Tryz.func90 m6 O) Jtp oN fun t => JZ (k := 2) O O O O O (enters_of Tryz.func91 m6 O) (Jt8 hs hn hb) oR fun v => ?_))
  refine JW (k := 3) (Rl := v.L ++ t.L) O O O O O Jxs (J4b (v.ok.mono fun q hq => List.mem_append_left _ hq) t.x 0 (t.ok.mono fun q hq => List.mem_append_right _ hq) (Jzq t) (Jzr t v hff) (by rw [← J0z v.x, v.er]; exact hww)) (fun q hq => .inl MU) (Qt (congrArg J5 (Jph t v)) ?_); exact I7
theorem P_rAddr0 : Pure Tryz.prog 39 [.int .i64 0].toArray (J5 A0) := by
 refine Jl Tryz.func39 O O fun w => JJ (JC 16 O (J7 O (fun g => ?_) (fun g => ?_)))
 try exact Bool.noConfusion g
 ·try simp only [ZZ] at g
  refine gZ ?_; refine H4 fun r1 => ?_; refine kL ?_; exact DG
theorem Jvh : Pure Tryz.prog 39 [.int .i64 1].toArray (J5 A1) := by
 refine Jl Tryz.func39 O O fun w => JJ (JC 16 O (J7 O (fun g => ?_) (fun g => ?_)))
 try exact Bool.noConfusion g
 ·try simp only [ZZ] at g
  refine gZ ?_; refine H4 fun r1 => ?_; refine kL ?_; exact Eh
theorem Jvi (h : f < 0 ∨ f > 1) : Pure Tryz.prog 39 [.int .i64 f].toArray (J5 []) := by
  refine Jl Tryz.func39 O O fun w => JJ (Jt 11 O ?_)
  refine Jv 6 O (fun gb => ?_) (fun gb => ?_) <;> (try simp only [ZZ] at gb) <;> first | (refine Q1 O ?_) | (refine LK O ?_)
  all_goals (
   refine kp ?_; refine J7 O (fun g => ?_) (fun g => ?_)
   try simp only [ZZ] at g
   refine Kk 7 O (NW fun w1 hs1 => ?_)
   first | exact ⟨rfl, hs1.keep⟩ | (exfalso; omega)
   · try exact Bool.noConfusion g
     all_goals try simp only [ZZ] at g
     all_goals (
      refine gZ ?_
      exfalso; omega
      skip)
   skip)
theorem Jm4 (f : Int) : Pure Tryz.prog 39 [.int .i64 f].toArray (J5 (QL f)) := by
 by_cases h0 : f = 0
 ·subst h0; exact P_rAddr0
 ·by_cases h1 : f = 1
  ·subst h1; exact Jvh
  ·have h : f < 0 ∨ f > 1 := by omega
   have e : QL f = [] := by unfold QL; rw [if_pos h]
   rw [e]; exact Jvi h
theorem Jpi (f : Int) : Pure Tryz.prog 132 [.int .i64 f].toArray (.bool (decide (Q0 f))) := by
 rw [xl]; refine Jl Tryz.func132 O O fun w => JJ (Jt 10 O ?_)
 refine Jv 5 O (fun gb => ?_) (fun gb => ?_) <;> (try simp only [ZZ] at gb) <;> first | (refine Q1 O ?_) | (refine LK O ?_)
 all_goals (
  refine FQ fun w1 hs1 => ?_
  simp_all [JB]
  all_goals first | done | omega | trace_state
  skip)
theorem Jm5 (f g : Int) : Pure Tryz.prog 85 [.int .i64 f, .int .i64 g].toArray (.tuple #[J5 (Qf f g).1, .bool (Qf f g).2]) := by
 refine Jl Tryz.func85 O O fun w => JJ (JC 13 O (cD (fun h4 => ?_) fun h4 => ?_))
 refine Dk ?_; refine cD (fun h7 => ?_) fun h7 => ?_
 refine D4 fun w1 hs1 => ?_
 unfold Qf
 rw [if_pos m5, if_pos m5]; rfl
 refine Kk 10 O (NA fun w1 hs1 => ?_)
 unfold Qf
 rw [if_pos m5, if_neg m5]; rfl
 ·refine JC 9 O (cD (fun h12 => ?_) fun h12 => ?_)
  refine Dx fun w1 hs1 => ?_
  unfold Qf
  rw [if_neg m5, if_pos m5]; rfl
  ·refine JC 9 O (cD (fun h16 => ?_) fun h16 => ?_)
   refine Dx fun w1 hs1 => ?_
   unfold Qf
   rw [if_neg m5, if_neg m5, if_pos m5]; rfl
   ·refine JC 9 O (cD (fun h20 => ?_) fun h20 => ?_)
    refine Dx fun w1 hs1 => ?_
    unfold Qf
    rw [if_neg m5, if_neg m5, if_neg m5, if_pos m5]; rfl
    ·refine D4 fun w1 hs1 => ?_
     unfold Qf
     rw [if_neg m5, if_neg m5, if_neg m5, if_neg m5]; rfl
set_option maxHeartbeats 1000000 in
theorem Jzs (f : Int) (r : Rec) : Pure Tryz.prog 84 [.int .i64 f, r.val].toArray (.int .i64 (Wd f r)) := by
  refine Jl Tryz.func84 O O fun w => G8 fun rb => ?_; refine gY ?_; refine Jn O O O (enters_of Tryz.func132 m6 O) (Jpi f) (ki ?_); refine cD (fun g => ?_) fun g => ?_
  · refine Gv fun w1 hs1 => ?_
    unfold Wd qA
    rw [if_pos ME]; rfl
  · refine gZ ?_; refine kD ?_; refine LN O fun r1 => ?_
    refine NQ ?_; refine JH 8 O ?_
    refine Jv 12 O (fun gb => ?_) (fun gb => ?_) <;> (try simp only [ZZ] at gb) <;> first | (refine LR O (J6 O O O) ?_) | (refine LK O ?_)
    all_goals refine Fb ?_
    all_goals first | (refine Jq (congrArg (fun b => Value.bool (!b)) (eqW r.overhead w40)) ?_) | skip
    all_goals refine Fs ?_
    all_goals first | refine Q1 O ?_ | (refine Jv 18 O (fun gb => ?_) (fun gb => ?_) <;> (try simp only [ZZ] at gb) <;> first | (refine Q1 O ?_) | (refine LK O ?_))
    all_goals refine Fs ?_
    all_goals first | refine LK O ?_ | (refine Jv 21 O (fun gb => ?_) (fun gb => ?_) <;> (try simp only [ZZ] at gb) <;> first | (refine LR O (J6 O O O) ?_) | (refine LK O ?_))
    all_goals refine LW 2 [1] O O ?_
    all_goals first | (refine Jq (congrArg (fun b => Value.bool (!b)) (eqU r.extra 0)) ?_) | skip
    all_goals refine LW 1 [] O O ?_
    all_goals first | refine LK O ?_ | (refine Jv 25 O (fun gb => ?_) (fun gb => ?_) <;> (try simp only [ZZ] at gb) <;> first | (refine LR O (J6 O O O) ?_) | (refine LK O ?_))
    all_goals refine Fb ?_
    all_goals first | (refine Jq (congrArg (fun b => Value.bool (!b)) (eqW r.blob w40)) ?_) | skip
    all_goals refine LW 4 [] O O ?_
    all_goals first | refine Q1 O ?_ | refine LK O ?_ | (refine Jv 33 O (fun gb => ?_) (fun gb => ?_) <;> (try simp only [ZZ] at gb) <;> first | (refine Q1 O ?_) | (refine LK O ?_))
    all_goals refine Fs ?_
    all_goals first | refine LK O ?_ | (refine Jv 36 O (fun gb => ?_) (fun gb => ?_) <;> (try simp only [ZZ] at gb) <;> first | (refine LR O (J6 O O O) ?_) | (refine LK O ?_))
    all_goals refine LW 2 [1] O O ?_
    all_goals first | (refine Jq (congrArg (fun b => Value.bool (!b)) (eqU r.operator 0)) ?_) | skip
    all_goals (
     refine kp ?_; refine J7 O (fun g => ?_) (fun g => ?_)
     · try exact Bool.noConfusion g
       all_goals try simp only [ZZ] at g
       all_goals (
        refine Gv fun w1 hs1 => ?_
        unfold Wd qA
        first | (exfalso; omega) | (rw [if_neg ME, if_neg (by simp_all; done)]; rfl)
        skip)
     · try exact Bool.noConfusion g
       all_goals try simp only [ZZ] at g
       all_goals (
        refine Ej fun w1 hs1 => ?_
        unfold Wd qA
        first | (exfalso; omega) | (rw [if_neg ME, if_pos (by simp_all; done)]; rfl)
        skip)
     skip)
theorem Jvj {n : Nat} (h : Wr n) : Pure Tryz.prog 137 [uV n].toArray (J5 (WX n)) := by
 refine Jl Tryz.func137 O O fun w => Gi ?_; refine kD ?_; refine Jn O O O wv (Vp (Jcs h).wok) ?_; exact NU
def keysC : List Value := tab.map fun i => uV (W0 i)
theorem Jzt : PureE (α := Nat) Tryz.prog 133 [].toArray (fun p => .slice (some ⟨p, 0, none⟩) 7 7) (fun p => [(p, .cells keysC.toArray 25 (0, 0))]) := by
 refine Kq Tryz.func133 O O fun w => E3 ?_; refine J0 (vs := [_, _, _, _, _, _, _]) (zs := [_, _, _, _, _, _, _]) (r := [_, _, _, _, _, _, _]) O O O O O O O O O mg O fun r1 => gM ?_; refine NW fun w1 hs1 => ?_; exact ⟨r1, rfl, hs1.weakL (List.Sublist.refl _)⟩
theorem J2t (f : Int) (hi : i < 7) : Pure Tryz.prog 134 [.int .i64 f, .int .i64 (i : Int)].toArray (.bool (ZF f i)) := by
 refine Jl Tryz.func134 O O fun w => HI ?_; refine cD (fun g => ?_) fun g => ?_
 ·refine Gv fun w1 hs1 => ?_
  (have h : i = 0 ∨ i = 1 := by omega
   rcases h with rfl | rfl <;> rfl)
 ·refine JC 9 O (cD (fun g => ?_) fun g => ?_)
  ·refine Kk 9 O (Ni fun w1 hs1 => ?_)
   (have h : i = 2 ∨ i = 3 := by omega
    rcases h with rfl | rfl <;> rfl)
  ·refine JC 9 O (cD (fun g => ?_) fun g => ?_)
   ·refine Kk 9 O (Ni fun w1 hs1 => ?_)
    (have h : i = 4 ∨ i = 5 := by omega
     rcases h with rfl | rfl <;> rfl)
   ·refine Kk 10 O (Ni fun w1 hs1 => ?_)
    (obtain rfl : i = 6 := by omega
     rfl)
theorem j3 {x y : Nat} (hx : Wr x) (hy : Wr y) : Pure Tryz.prog 198 [uV x, uV y].toArray (J5 (bW ⟨y, x, 0, 0⟩)) := by
 refine Jl Tryz.func198 O O fun w => kV ?_; refine kD ?_; refine Jn O O O wv (Vp (l := [y, x, 0, 0]) (W4.ok.wok (w := ⟨y, x, 0, 0⟩) ⟨hy, hx, Vb, Vb⟩)) ?_; exact NU
set_option maxHeartbeats 1000000 in
theorem Jvk (hr : r.ok) (hi : i < 7) : Pure Tryz.prog 135 [.int .i64 (i : Int), r.val].toArray (J5 (bW (XW r i))) := by
 refine Jl Tryz.func135 O O fun w => G8 fun rb => ?_; refine JN 16 O (cD (fun g => ?_) fun g => ?_)
 refine Qy 6 [0, 0] O O (Jn O O O Jlm (j3 hr.time hr.number) (H5 fun w1 hs1 => ?_))
 (obtain rfl : i = 0 := by omega
  rfl)
 ·refine NO ?_; refine cD (fun g => ?_) fun g => ?_
  refine gp ?_; refine Jn O O O wv (Vp hr.base.wok) (H5 fun w1 hs1 => ?_)
  (obtain rfl : i = 1 := by omega
   rfl)
  ·refine NO ?_; refine cD (fun g => ?_) fun g => ?_
   refine gp ?_; refine Jn O O O wv (Vp hr.overhead.wok) (H5 fun w1 hs1 => ?_)
   (obtain rfl : i = 2 := by omega
    rfl)
   ·refine NO ?_; refine cD (fun g => ?_) fun g => ?_
    refine gp ?_; refine Jn O O O Jlm (j3 Vb hr.scalar) (H5 fun w1 hs1 => ?_)
    (obtain rfl : i = 3 := by omega
     rfl)
    ·refine NO ?_; refine cD (fun g => ?_) fun g => ?_
     refine Qy 6 [0, 0] O O (Jn O O O Jlm (j3 hr.extra hr.scalar) (H5 fun w1 hs1 => ?_))
     (obtain rfl : i = 4 := by omega
      rfl)
     ·refine NO ?_; refine cD (fun g => ?_) fun g => ?_
      refine gp ?_; refine Jn O O O wv (Vp hr.blob.wok) (H5 fun w1 hs1 => ?_)
      (obtain rfl : i = 5 := by omega
       rfl)
      ·refine Qy 7 [0] O O (Jn O O O Jlm (j3 Vb hr.operator) (DE fun w1 hs1 => ?_))
       (obtain rfl : i = 6 := by omega
        rfl)
structure Num8 (s : BS) (x : Nat) : Prop where
  len : s.length = 8
  u : Wr x
  at_ : ∀ i, i < 8 → (s.getD i 0).toNat = x / 256 ^ (7 - i) % 256
end Go.Proofs.YtfaagelglpgpkaaGreatDoor
