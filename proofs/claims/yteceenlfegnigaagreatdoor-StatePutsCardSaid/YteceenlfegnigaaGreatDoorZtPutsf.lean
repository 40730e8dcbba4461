import Derived.Test.YteceenlfegnigaaGreatDoorZtPutse
set_option maxRecDepth 100000
namespace Go.Proofs.YteceenlfegnigaaGreatDoor
set_option linter.all false
open Go.SL Go.RowKit Go.Shelf
variable {a : AcL} {cs : Array Value} {Y s : BS} {pr : BS × BS → Bool} {rs : Bool} {g : FuncId} {L L' R Rl : Ji} {xs : List (BS × BS)} {accts acs : List AcL} {caps sp vs : List Value} {us yitems : List Vl} {α : Type} {ys : List α} {b c cap d e i j m r rb rv sz : Nat} {pb pi : Pl} {P : Program} {ps : String} {T t x : Ty} {q : Ty × Nat × Nat} {row : Vk} {v y z : Vl} {w : World} {kf : α → BS} {f : α → List Value} {V : α → Value}
theorem Jtn {xs : List AcL} {p : Pl} (hl : xs.length ≤ 1000) (hs : Seg R xs.length (xs.flatMap AcL.cells) p) (hso : Ku AcL.addr xs) (y : AcL) :
  PureT (α := { row : Vk // rowOk 8 (Qf AcL.addr y xs).length ((Qf AcL.addr y xs).flatMap AcL.cells) row }) Tryz.prog 46 [KB xs.length p, vA y, fV 39].toArray (fun x => Jx (Qf AcL.addr y xs).length x.1) [] (fun x => JJ 34 ((Qf AcL.addr y xs).flatMap AcL.cells) x.1) R := by
 have hins := Jmv (x := y) hso
 obtain ⟨j, hj⟩ : ∃ j, j = jm AcL.addr (AcL.addr y) xs := ⟨_, rfl⟩
 have hjl : j ≤ xs.length := hj ▸ Jmt _ _
 have hpl := Jpy (k := AcL.addr y) hl hs hso
 have hlt : VP AcL.addr (AcL.addr y) xs = true → j < xs.length := fun h => hj ▸ Jcv h
 rw [← hj] at hins hpl
 obtain ⟨b, hb⟩ : ∃ b, b = VP AcL.addr (AcL.addr y) xs := ⟨_, rfl⟩
 rw [← hb] at hins hpl hlt; clear hj hb; refine J4 Tryz.func46 rfl rfl fun w => Mw fun r1 => ?_; refine XN 8 [0] rfl rfl (J6 rfl rfl rfl Jr6 (Jbf y) (QV rfl (Jc rfl rfl rfl (enters_of Tryz.func70 m5 rfl) hpl oR (JM 10 rfl ?_)))); refine KA rfl rfl rfl (enters_of Tryz.func71 m5 rfl) (Jp0 hl hs) oR fun x => ?_
 obtain ⟨row, hrow⟩ := x
 change HL _ _ ((20, Jx xs.length row) :: _) (JJ 34 (xs.flatMap AcL.cells) row ++ [(r1, _)]) _ _ _ _; refine He ?_; refine cD (fun g => ?_) fun g => ?_
 refine JS 1 rfl ?_
 have hltb := hlt m8
 obtain ⟨r2, cap2, sp2, rfl⟩ := row_some hrow m0
 change HC _ _ _ [(r2, .cells (xs.flatMap AcL.cells ++ sp2).toArray 34 (0, 0)), (r1, _)] _ _ _; refine G3 ?_; refine LR rfl (Jl (vs := AcL.cells y) rfl (kn 1 rfl) rfl rfl rfl rfl) (LR rfl (Ki (j := j) (m := 8) rfl rfl rfl rfl rfl m0 rfl) (Qs (k := 0) (n := 8) (vs := (AcL.cells y).toArray) (cs' := ((xs.set j y).flatMap AcL.cells ++ sp2).toArray) rfl rfl rfl rfl rfl rfl (AcL.one y) (by have := hrow.1; simp only [List.size_toArray, List.length_append, KU AcL.len]; omega) (by apply Array.toList_inj.1; simp only [List.toList_toArray, Nat.zero_add]; exact Jhc AcL.len hltb y sp2) rfl (Jy 10 rfl (N2 fun w1 hs1 => ?_))))
 (rw [if_pos m8] at hins
  rw [hins, List.length_set]
  exact ⟨⟨some (r2, cap2, sp2), hrow.same (by rw [KU AcL.len, KU AcL.len, List.length_set])⟩, rfl, hs1.weakL (by simp [JJ])⟩)
 ·refine gU ?_; refine LR rfl (Jl (vs := AcL.cells y) rfl (Or.inl (List.mem_append_right _ List.mem_cons_self)) rfl rfl rfl rfl) (JB (n := 1) (sz := 8) (vs := [_]) (zs := [_, _, _, _, _, _, _, _]) (r := AcL.cells y) rfl rfl rfl rfl rfl rfl rfl rfl rfl mi rfl fun rv => Vn (T := JJ 34 (xs.flatMap AcL.cells) row) (L0 := [(rv, _), (r1, _)]) (Rl := [(rv, Obj.cells (AcL.cells y).toArray 34 (0, 0))]) (by exact List.perm_middle.symm) rfl rfl rfl (enters_of Tryz.func72 m5 rfl) (Jkr (i := j) (y := y) hl hrow hjl List.mem_cons_self) (fun q hq => Or.inl mU) fun x => ?_)
  obtain ⟨row2, hrow2⟩ := x
  refine gA ?_; refine N2 fun w1 hs1 => ?_
  (rw [if_neg my] at hins
   have hln : (xs.take j ++ y :: xs.drop j).length = xs.length + 1 := by simp only [List.length_append, List.length_take, List.length_cons, List.length_drop]; omega
   rw [hins, hln]
   exact ⟨⟨row2, hrow2⟩, rfl, hs1.weakL (List.sublist_append_left _ _)⟩)
theorem Jto {p : Pl} (hl : xs.length ≤ 1000) (hs : Seg R xs.length (xs.flatMap Qn) p) (hso : Ku Prod.fst xs) (y : (BS × BS)) :
  PureT (α := { row : Vk // rowOk 2 (Qf Prod.fst y xs).length ((Qf Prod.fst y xs).flatMap Qn) row }) Tryz.prog 47 [KB xs.length p, vS y, fV 48].toArray (fun x => Jx (Qf Prod.fst y xs).length x.1) [] (fun x => JJ 59 ((Qf Prod.fst y xs).flatMap Qn) x.1) R := by
 have hins := Jmv (x := y) hso
 obtain ⟨j, hj⟩ : ∃ j, j = jm Prod.fst (Prod.fst y) xs := ⟨_, rfl⟩
 have hjl : j ≤ xs.length := hj ▸ Jmt _ _
 have hpl := Jpz (k := Prod.fst y) hl hs hso
 have hlt : VP Prod.fst (Prod.fst y) xs = true → j < xs.length := fun h => hj ▸ Jcv h
 rw [← hj] at hins hpl
 obtain ⟨b, hb⟩ : ∃ b, b = VP Prod.fst (Prod.fst y) xs := ⟨_, rfl⟩
 rw [← hb] at hins hpl hlt; clear hj hb; refine J4 Tryz.func47 rfl rfl fun w => Mw fun r1 => ?_; refine XN 8 [0] rfl rfl (J6 rfl rfl rfl Jr7 (Jbg y) (QV rfl (Jc rfl rfl rfl (enters_of Tryz.func73 m5 rfl) hpl oR (JM 10 rfl ?_)))); refine KA rfl rfl rfl (enters_of Tryz.func74 m5 rfl) (Jp1 hl hs) oR fun x => ?_
 obtain ⟨row, hrow⟩ := x
 change HL _ _ ((20, Jx xs.length row) :: _) (JJ 59 (xs.flatMap Qn) row ++ [(r1, _)]) _ _ _ _; refine He ?_; refine cD (fun g => ?_) fun g => ?_
 refine JS 1 rfl ?_
 have hltb := hlt m8
 obtain ⟨r2, cap2, sp2, rfl⟩ := row_some hrow m0
 change HC _ _ _ [(r2, .cells (xs.flatMap Qn ++ sp2).toArray 59 (0, 0)), (r1, _)] _ _ _; refine G3 ?_; refine LR rfl (Jl (vs := Qn y) rfl (kn 1 rfl) rfl rfl rfl rfl) (LR rfl (Ki (j := j) (m := 2) rfl rfl rfl rfl rfl m0 rfl) (Qs (k := 0) (n := 2) (vs := (Qn y).toArray) (cs' := ((xs.set j y).flatMap Qn ++ sp2).toArray) rfl rfl rfl rfl rfl rfl (jD y) (by have := hrow.1; simp only [List.size_toArray, List.length_append, KU JN]; omega) (by apply Array.toList_inj.1; simp only [List.toList_toArray, Nat.zero_add]; exact Jhc JN hltb y sp2) rfl (Jy 10 rfl (N2 fun w1 hs1 => ?_))))
 (rw [if_pos m8] at hins
  rw [hins, List.length_set]
  exact ⟨⟨some (r2, cap2, sp2), hrow.same (by rw [KU JN, KU JN, List.length_set])⟩, rfl, hs1.weakL (by simp [JJ])⟩)
 ·refine gU ?_; refine LR rfl (Jl (vs := Qn y) rfl (Or.inl (List.mem_append_right _ List.mem_cons_self)) rfl rfl rfl rfl) (gs fun rv => ?_); refine Vn (T := JJ 59 (xs.flatMap Qn) row) (L0 := [(rv, _), (r1, _)]) (Rl := [(rv, Obj.cells (Qn y).toArray 59 (0, 0))]) (by exact List.perm_middle.symm) rfl rfl rfl (enters_of Tryz.func75 m5 rfl) (Jks (i := j) (y := y) hl hrow hjl List.mem_cons_self) (fun q hq => Or.inl mU) fun x => ?_
  obtain ⟨row2, hrow2⟩ := x
  refine gA ?_; refine N2 fun w1 hs1 => ?_
  (rw [if_neg my] at hins
   have hln : (xs.take j ++ y :: xs.drop j).length = xs.length + 1 := by simp only [List.length_append, List.length_take, List.length_cons, List.length_drop]; omega
   rw [hins, hln]
   exact ⟨⟨row2, hrow2⟩, rfl, hs1.weakL (List.sublist_append_left _ _)⟩)
theorem Jtp (x : BS × BS) : Zc x = (((x.1.length : Int) != 32) || ((x.2.length : Int) != 32)) := by
 have key : ∀ n : Nat, decide (n ≠ 32) = ((n : Int) != 32) := fun n => by
  by_cases h : n = 32
  ·subst h; rfl
  ·have h2 : ¬ (n : Int) = 32 := by omega
   simp [h, h2]
 unfold Zc
 rw [key, key]
theorem Jyt (x : BS × BS) : Pure Tryz.prog 65 [vS x].toArray (.bool (Zc x)) := by
 refine J5 Tryz.func65 rfl rfl fun w => Mw fun r1 => ?_; refine XN 7 [0] rfl rfl (Np ?_)
 refine J0 7 rfl (fun gb => ?_) (fun gb => ?_) <;> (try simp only [ZZ] at gb) <;> first | (refine LR rfl (J7 rfl rfl rfl) ?_) | (refine LK rfl ?_)
 all_goals refine NU ?_
 all_goals refine MX ?_
 all_goals (
  refine Hk ?_; refine Mv fun w1 hs1 => ?_; rw [Jtp]
  simp_all [JK]
  skip)
theorem Jtq (x : BS × BS) : Pure Tryz.prog 66 [vS x].toArray (.bool (WW x)) := by
 refine J5 Tryz.func66 rfl rfl fun w => Mw fun r1 => ?_; refine kA ?_; refine JI 5 m5 m5 ?_
 refine N4 ?_; refine Qd rfl rfl rfl Jv2 Jga (Jb rfl rfl rfl (Vi rfl rfl) (Nz ?_)); exact H3
theorem vj {p : Pl} (hl : xs.length ≤ 9223372036854775807) (hs : Seg R xs.length (xs.flatMap Qn) p) (eg : Enters Tryz.prog g) (hg : ∀ x ∈ xs, PureR Tryz.prog g (vS x :: caps).toArray (.bool (pr x)) R) :
  PureR Tryz.prog 67 [KB xs.length p, .func (.func g) #[] caps.toArray].toArray (.bool (xs.any pr)) R := by
 have h := yG hl hs eg hg
 refine Ja Tryz.func67 rfl rfl fun w => kd ?_; refine Jc rfl rfl rfl Jv1 h oR (WR rfl (Jn (congrArg Value.bool Jru) (Jy 4 rfl ?_))); exact MK
theorem Jgb (ha : a.In R) : PureR Tryz.prog 37 [a.val].toArray (.int .i64 (WT a.er)) R := by
  have h1 := vj (g := 65) (caps := []) ha.len ha.seg (enters_of Tryz.func65 m5 rfl) (fun x _ => (Jyt x).toR)
  have h2 := vj (g := 66) (caps := []) ha.len ha.seg (enters_of Tryz.func66 m5 rfl) (fun x _ => (Jtq x).toR)
  have h3 := Jpw ha.len ha.seg
  have hl := ha.len
  have hseg := ha.seg
  have hE : WT a.er = if ¬ ((a.addr.length : Int) = 20) ∨ a.slots.any Zc = true then 2 else if QM Prod.fst a.slots = false then 11 else if (512 < (a.code.length : Int)) ∨ (16 < (a.slots.length : Int)) then 5 else if a.slots.any WW = true then 8 else 0 := by
    exact ite_congr (propext (or_congr (by show ¬ a.addr.length = 20 ↔ _; omega) Iff.rfl)) (fun _ => rfl) (fun _ => ite_congr rfl (fun _ => rfl) (fun _ => ite_congr (propext (or_congr (by show a.code.length > 512 ↔ _; omega) (by show a.slots.length > 16 ↔ _; omega))) (fun _ => rfl) (fun _ => rfl)))
  rw [hE]; clear hE
  generalize a.slots.any Zc = oB at h1 ⊢
  generalize a.slots.any WW = sBo at h2 ⊢
  generalize QM Prod.fst a.slots = rB at h3 ⊢
  refine Ja Tryz.func37 rfl rfl fun w => Mw fun r1 => ?_; refine XN 19 [0] rfl rfl (Np ?_)
  refine J0 10 rfl (fun gb => ?_) (fun gb => ?_) <;> (try simp only [ZZ] at gb) <;> first | (refine LR rfl (J7 rfl rfl rfl) ?_) | (refine LK rfl ?_)
  all_goals refine LW 2 [0] rfl rfl ?_
  all_goals first | (refine Jc rfl rfl rfl (enters_of Tryz.func67 m5 rfl) h1 oR ?_) | refine LK rfl ?_
  all_goals (
   refine Ni ?_; refine JA rfl (fun h10 => ?_) (fun h10 => ?_)
   try simp only [ZZ] at h10
   refine G1 fun w1 hs1 => ?_; simp only [JK]
   simp_all
   · try exact Bool.noConfusion h10
     all_goals try simp only [ZZ] at h10
     all_goals (
      refine Hc ?_; refine Jc rfl rfl rfl (enters_of Tryz.func68 m5 rfl) h3 oR (kA ?_); refine cD (fun h13 => ?_) fun h13 => ?_
      refine G1 fun w1 hs1 => ?_; simp only [JK]
      simp_all
      · refine Hc ?_; refine Np ?_
        refine J0 26 rfl (fun gb => ?_) (fun gb => ?_) <;> (try simp only [ZZ] at gb) <;> first | (refine LR rfl (J7 rfl rfl rfl) ?_) | (refine LK rfl ?_)
        all_goals refine NU ?_
        all_goals refine G9 ?_
        all_goals (
         refine LW 3 [] rfl rfl (Jy 1 rfl (Za 1 rfl ?_)); refine JA rfl (fun h20 => ?_) (fun h20 => ?_)
         try simp only [ZZ] at h20
         refine G1 fun w1 hs1 => ?_; simp only [JK]
         simp_all
         · try exact Bool.noConfusion h20
           all_goals try simp only [ZZ] at h20
           all_goals (
            refine Wt 5 [0] rfl rfl (Jc rfl rfl rfl (enters_of Tryz.func67 m5 rfl) h2 oR (Nw ?_)); refine cD (fun h23 => ?_) fun h23 => ?_
            refine G1 fun w1 hs1 => ?_; simp only [JK]
            simp_all
            refine KS 9 rfl (Mv fun w1 hs1 => ?_); simp only [JK]
            simp_all
            skip)
         skip)
      skip)
   skip)
theorem Jtr {k : BS} (hb : (rb, Obj.cells #[Js k] e (0, 0)) ∈ R) (a : AcL) : PureR Tryz.prog 35 [vA a, .pointer (some ⟨rb, 0, none⟩)].toArray (.bool (decide (a.addr = k))) R := by
 refine Ja Tryz.func35 rfl rfl fun w => ?_; exact NP
theorem Jts {k : BS} (hb : (rb, Obj.cells #[Js k] e (0, 0)) ∈ R) (x : BS × BS) : PureR Tryz.prog 41 [vS x, .pointer (some ⟨rb, 0, none⟩)].toArray (.bool (decide (x.1 = k))) R := by
 refine Ja Tryz.func41 rfl rfl fun w => ?_; exact NP
theorem Jw2 {k : BS} (hb : (rb, Obj.cells #[Js k] e (0, 0)) ∈ R) (x : BS × BS) : PureR Tryz.prog 50 [vS x, .pointer (some ⟨rb, 0, none⟩)].toArray (.bool (decide (x.1 = k))) R := by
 refine Ja Tryz.func50 rfl rfl fun w => ?_; exact NP
theorem Jw3 {s : StL} (hs : s.In R) (k : BS) : PureR Tryz.prog 14 [s.val, Js k].toArray (.tuple #[(VD s k).val, .bool (VQ s k)]) R := by
 have hl := hs.len
 have hseg := hs.seg
 refine Ja Tryz.func14 rfl rfl fun w => ML fun r1 r2 => ?_; refine LN rfl fun r3 => XN 7 [2] rfl rfl (g7 ?_); refine Jc (Rl := (r2, Obj.cells #[Js k] 9 (0, 0)) :: R) rfl rfl rfl (enters_of Tryz.func34 m5 rfl) (Jpu (caps := [.pointer (some ⟨r2, 0, none⟩)]) (pr := fun a => decide (a.addr = k)) hl (hseg.mono fun q hq => List.mem_cons_of_mem _ hq) (enters_of Tryz.func35 m5 rfl) (fun a _ => Jtr List.mem_cons_self a)) (fun q hq => (List.mem_cons.1 hq).elim (fun h => Or.inl (by rw [h]; simp)) Or.inr) (JR 10 rfl (cD (fun g => ?_) fun g => ?_))
 refine JS 1 rfl ?_
 have hf := wJ m8
 refine Hf ?_; refine Ga ?_
 refine Gs ?_; refine ME fun w1 hs1 => ?_; refine ⟨?_, hs1.keep⟩; rw [(zv hf).1, (zv hf).2]; rfl
 ·refine Gt ?_
  obtain ⟨i, a, hidx, ha, hf⟩ := Jha m8
  refine Wt 4 [2] rfl rfl ?_
  refine LR rfl (Jf (j := i) rfl hseg rfl rfl rfl mc (by have := (List.getElem?_eq_some_iff.1 ha).1; omega)) ?_; refine LR rfl (Kc AcL.len oR rfl hseg ha rfl rfl) ?_
  refine Ng ?_; refine gA ?_; refine ME fun w1 hs1 => ?_; refine ⟨?_, hs1.keep⟩; rw [(Jcy hf).1, (Jcy hf).2]; rfl
theorem Xs {s : StL} (hs : s.In R) : PureR Tryz.prog 19 [s.val].toArray (.int .i64 (KP s.er)) R := by
  have hl : s.accts.length ≤ 9223372036854775807 := hs.len
  have hseg := hs.seg
  obtain ⟨hc5, hcg⟩ := Jhf s
  refine Ja Tryz.func19 rfl rfl fun w => Mw fun r1 => ?_; refine XN 8 [0] rfl rfl (kL ?_); refine Nw ?_; refine cD (fun g => ?_) fun g => ?_
  refine NW fun w1 hs1 => ?_; rw [hc5 m8]; rfl
  · refine Wt 7 [0] rfl rfl (kL ?_); refine kA ?_; refine Jw (σ := Nat) (fun i => i ≤ s.accts.length ∧ goS (WL s.er i) (s.er.drop i) = goS none s.er) (fun i => [(1, .pointer (some ⟨r1, 0, none⟩)), (11, KB s.accts.length s.p), (12, .int .i64 (s.accts.length : Int)), (13, .int .i64 (i : Int))]) (fun _ => [(r1, .cells s.cells.toArray 24 (0, 0))]) (fun _ _ _ => True) (fun i => s.accts.length - i) 0 ⟨Nat.zero_le _, rfl⟩ (lK rfl) (List.Sublist.refl _) (fun _ _ h => h) ?_; rintro i ⟨hi1, hinv⟩; refine Nd ?_; refine cD (fun g => ?_) fun g => ?_
    · refine kF ?_
      obtain ⟨a, ha, hma⟩ := Qz mT
      rw [Jhd (Wd ha)] at hinv; refine N6 ?_
      refine kN ?_; refine LN rfl fun r2 => QV rfl (Jk (k := 0) (n := 8) (ys := a.cells) rfl rfl rfl rfl rfl a.len rfl a.one rfl (JM 4 rfl ?_)); refine LR rfl (Jg (xs := a.cells) (n := 8) rfl (kn 0 rfl) rfl rfl a.len) (Jc rfl rfl rfl Jv0 (Jgb (hs.accts a hma)) oR (JM 9 rfl ?_))
      refine J0 22 rfl (fun gb => ?_) (fun gb => ?_) <;> (try simp only [ZZ] at gb) <;> first | (refine QV rfl ?_) | (refine LK rfl ?_)
      all_goals refine LW 3 [] rfl rfl ?_
      all_goals first | refine LK rfl ?_ | (refine J0 26 rfl (fun gb => ?_) (fun gb => ?_) <;> (try simp only [ZZ] at gb) <;> first | (refine LR rfl (J7 rfl rfl rfl) ?_) | (refine LK rfl ?_))
      all_goals refine LW 2 [1] rfl rfl ?_
      all_goals first | (refine WR rfl ?_; refine Jh m0 m0 ?_) | refine LK rfl ?_
      all_goals refine LW 1 [] rfl rfl ?_
      all_goals first | (refine WR rfl ?_; refine Jh m0 m0 ?_) | refine LK rfl ?_
      all_goals first | (obtain ⟨x, hx, hmx⟩ := Qz (show i - 1 < s.accts.length by omega); refine LR rfl (Jjo (sz := 8) (a := i - 1) (b := i + 1) (m := 2) rfl hseg rfl rfl m0 m0 rfl rfl m0 m0 m0) ?_; have hlast := Jac hx (show i - 1 + 1 = i by omega)) | refine LK rfl ?_
      all_goals first | (refine Jc rfl rfl rfl (enters_of Tryz.func38 m5 rfl) (Jpv (xs := [x, a]) (show 2 ≤ 9223372036854775807 by decide) (hseg.two AcL.len hx ha m0)) oR ?_; refine Jn (congrArg Value.bool (Jfp x a)) ?_) | refine LK rfl ?_
      all_goals (
       refine Ni ?_; refine JA rfl (fun g => ?_) (fun g => ?_)
       · try exact Bool.noConfusion g
         all_goals try simp only [ZZ] at g
         all_goals (
          refine kF ?_
          have hst : Vb (WL s.er i) a.er = 11 ∨ Vb (WL s.er i) a.er = WT a.er := by unfold Vb; split <;> simp
          have hst : Vb (WL s.er i) a.er = 11 := Jhe m8 hlast m8
          rw [hst] at hinv; refine kF ?_; refine JA rfl (fun g => ?_) (fun g => ?_)
          try simp only [ZZ] at g
          refine KS 12 rfl ?_; exact Gi
          try exact Bool.noConfusion g
          skip)
       · try simp only [ZZ] at g
         refine Gt ?_
         have hst : Vb (WL s.er i) a.er = 11 ∨ Vb (WL s.er i) a.er = WT a.er := by unfold Vb; split <;> simp
         have hst : Vb (WL s.er i) a.er = WT a.er := Jab (by first | exact Or.inl m8 | exact Or.inr (Or.inl (by rw [show i = 0 by omega]; rfl)) | exact Or.inr (Or.inr ⟨_, hlast, by assumption⟩))
         rw [hst] at hinv; refine kF ?_; refine cD (fun g => ?_) fun g => ?_
         refine KS 12 rfl ?_; exact Gi
         refine NT ?_; exact Jo (i + 1) ⟨by omega, by rw [if_neg my] at hinv; exact hinv⟩ m0 (lK rfl) (List.sublist_cons_self _ _) (fun _ _ h => h)
       skip)
    · exact HN
theorem Jp2 (ha : a.In R) (k : BS) : PureR Tryz.prog 20 [a.val, Js k].toArray (Js (Qj a.er k)) R := by
 have hl : a.slots.length ≤ 9223372036854775807 := ha.len
 have hseg := ha.seg
 refine Ja Tryz.func20 rfl rfl fun w => ML fun r1 r2 => ?_; refine XN 7 [1] rfl rfl (g7 ?_); refine Jc (Rl := (r2, Obj.cells #[Js k] 9 (0, 0)) :: R) rfl rfl rfl Jv1 (yG (caps := [.pointer (some ⟨r2, 0, none⟩)]) (pr := fun x => decide (x.1 = k)) hl (hseg.mono fun q hq => List.mem_cons_of_mem _ hq) (enters_of Tryz.func41 m5 rfl) (fun x _ => Jts List.mem_cons_self x)) (fun q hq => (List.mem_cons.1 hq).elim (fun h => Or.inl (by rw [h]; simp)) Or.inr) (JR 10 rfl (cD (fun g => ?_) fun g => ?_))
 refine JS 1 rfl ?_
 have hf := wJ m8
 refine Hf ?_; refine J6 rfl rfl rfl Jv2 Jga (kj ?_); refine Mv fun w1 hs1 => ?_; rw [Jjq (a := a.er) hf]; rfl
 ·refine Gt ?_
  obtain ⟨i, x, hidx, hx, hf⟩ := Jha m8
  refine Wt 4 [1] rfl rfl ?_
  refine LR rfl (Jf (j := i) rfl hseg rfl rfl rfl mc (by have := (List.getElem?_eq_some_iff.1 hx).1; omega)) ?_; refine LR rfl (JD (off' := Xd a.p + (i * 2 + 1)) rfl rfl nG) (LR rfl (Qo JN (k := 1) (v := Js x.2) oR rfl hseg hx rfl rfl) (HO fun w1 hs1 => ?_)); rw [Jmw (a := a.er) hf]; rfl
theorem Jp3 (hl : xs.length ≤ 1000) (hrow : rowOk 2 xs.length (xs.flatMap Qn) row) (eg : Enters Tryz.prog g) (hg : ∀ x ∈ xs, PureR Tryz.prog g (vS x :: caps).toArray (.bool (pr x)) R) :
  PureT (α := { row' : Vk // rowOk 2 (xs.filter fun x => !pr x).length ((xs.filter fun x => !pr x).flatMap Qn) row' }) Tryz.prog 49 [Jx xs.length row, .func (.func g) #[] caps.toArray].toArray (fun x => Jx (xs.filter fun x => !pr x).length x.1) (JJ 59 (xs.flatMap Qn) row) (fun x => JJ 59 ((xs.filter fun x => !pr x).flatMap Qn) x.1) R := by
 have hseg := KC (e := 59) hrow m6
 have hV := V4 xs.length row (fun h => by subst h; exact hrow.1)
 have hidx := yG (R := JJ 59 (xs.flatMap Qn) row ++ R) m0 (hseg.mono fun q hq => List.mem_append_left _ hq) eg (fun x hx => (hg x hx).mono fun q hq => List.mem_append_right _ hq)
 rw [hV] at hidx
 obtain ⟨m, hm⟩ : ∃ m, m = Y7 pr xs := ⟨_, rfl⟩
 rw [← hm] at hidx; refine J4 Tryz.func49 rfl rfl fun w => kd ?_; refine Jc (Rl := JJ 59 (xs.flatMap Qn) row ++ R) rfl rfl rfl Jv1 hidx (fun q hq => (List.mem_append.1 hq).elim Or.inl Or.inr) (JR 10 rfl (cD (fun h5 => ?_) fun h5 => ?_))
 refine KS 8 rfl (N2 fun w1 hs1 => ?_)
 (have hall := Jry (pr := pr) (xs := xs) m0
  rw [hall]
  exact ⟨⟨row, hrow⟩, rfl, hs1⟩)
 ·refine JS 4 rfl ?_
  obtain ⟨i, e0⟩ : ∃ i : Nat, m = (i : Int) := by
   rcases wI (pr := pr) (xs := xs) with ⟨h, _⟩ | ⟨i, _, h, _⟩
   ·unfold Y7 at hm h; split at hm <;> split at h <;> first | omega | simp_all
   exact ⟨i, hm.trans h⟩
  subst e0
  obtain ⟨hil, hif⟩ := Jrx hm.symm
  obtain ⟨r, cap, sp, rfl⟩ := row_some hrow m0
  obtain ⟨hr1, hr2⟩ := hrow
  obtain ⟨x0, hx0, _⟩ := Qz hil
  have hsplit : xs.flatMap Qn ++ sp = ((xs.take (i + 1)).filter fun x => !pr x).flatMap Qn ++ (Qn x0 ++ ((xs.drop (i + 1)).flatMap Qn ++ sp)) := by
   rw [hif, ← List.append_assoc (Qn x0), ← Jcz hx0, ← List.append_assoc, ← List.flatMap_append, List.take_append_drop]
  change HC _ _ _ [(r, .cells (xs.flatMap Qn ++ sp).toArray 59 (0, 0))] _ _ _; rw [hsplit]
  have hcap : xs.length ≤ cap := by omega
  have hi1 : ((xs.take (i + 1)).filter fun x => !pr x).length = i := by rw [hif, List.length_take]; omega
  refine G3 ?_; refine Jh m0 m0 (kA ?_); refine Jw (σ := Nat × List Value) (fun s => s.1 ≤ xs.length ∧ ((xs.take s.1).filter fun x => !pr x).length < s.1 ∧ s.2.length + ((xs.take s.1).filter fun x => !pr x).length * 2 = s.1 * 2) (fun s => [(0, .slice (some ⟨r, 0, none⟩) xs.length cap), (1, .func (.func g) #[] caps.toArray), (5, .int .i64 (((xs.take s.1).filter fun x => !pr x).length : Nat)), (6, .int .i64 (s.1 : Int))]) (fun s => [(r, .cells (((xs.take s.1).filter fun x => !pr x).flatMap Qn ++ (s.2 ++ ((xs.drop s.1).flatMap Qn ++ sp))).toArray 59 (0, 0))]) (fun _ _ _ => True) (fun s => xs.length - s.1) (i + 1, Qn x0) ⟨by simp only; omega, by simp only; omega, by simp only [JN]; omega⟩ (.cons rfl (.cons rfl (.cons (by rw [hi1]; rfl) (.cons rfl .nil)))) (List.Sublist.refl _) (fun _ _ h => h) ?_; rintro ⟨j, G⟩ ⟨hj1, hj2, hG⟩; simp only at hj1 hj2 hG; change HC _ _ [(0, _), (1, _), (5, .int .i64 (((xs.take j).filter fun x => !pr x).length : Nat)), (6, .int .i64 (j : Int))] [(r, .cells (((xs.take j).filter fun x => !pr x).flatMap Qn ++ (G ++ ((xs.drop j).flatMap Qn ++ sp))).toArray 59 (0, 0))] _ _ _; refine G4 ?_; refine NK ?_; refine Nw ?_; refine cD (fun h11 => ?_) fun h11 => ?_
  refine kF ?_
  obtain ⟨x, hx, hmx⟩ := Qz (show j < xs.length by omega)
  rw [Jcz hx, List.append_assoc (Qn x)]; refine G3 ?_; refine LR rfl (Ki (j := j) (m := 2) rfl rfl rfl rfl rfl m0 rfl) (LR rfl (Jl (n := 2) (vs := Qn x) rfl (kn 0 rfl) rfl rfl (by simp only [List.toList_toArray]; rw [← List.append_assoc, List.drop_left' (by rw [List.length_append, KU JN]; omega), List.take_left' (JN x)]) rfl) (LN rfl fun r1 => Jk (k := 0) (n := 2) (ys := Qn x) rfl rfl rfl rfl rfl rfl rfl rfl rfl (N5 ?_))); refine LR rfl (Jg (xs := Qn x) (n := 2) rfl (kn 0 rfl) rfl rfl rfl) (Jc rfl rfl rfl eg (hg x hmx) oR (Nw ?_)); refine cD (fun h15 => ?_) fun h15 => ?_
  refine JS 1 rfl ?_
  obtain ⟨M, G2, hcut, lM⟩ := cut (l := G ++ Qn x) (a := 2) (by rw [List.length_append, JN]; omega)
  have lG2 : G2.length = G.length := by have := congrArg List.length hcut; simp only [List.length_append, JN] at this; omega
  have hkeep := Yr (pr := fun x => !pr x) hx
  rw [if_pos my] at hkeep; refine G3 ?_; refine LR rfl (Jg (xs := Qn x) (n := 2) rfl (kn 0 rfl) rfl rfl rfl) (LR rfl (Ki (j := ((xs.take j).filter fun x => !pr x).length) (m := 2) rfl rfl rfl rfl rfl m0 rfl) (Qs (k := 1) (n := 2) (vs := (Qn x).toArray) (cs' := (((xs.take j).filter fun x => !pr x).flatMap Qn ++ (Qn x ++ (G2 ++ ((xs.drop (j + 1)).flatMap Qn ++ sp)))).toArray) rfl rfl rfl rfl rfl rfl rfl (by simp only [List.size_toArray, List.length_append, KU JN]; omega) (by apply Array.toList_inj.1; simp only [List.toList_toArray, Nat.zero_add]; rw [show G ++ (Qn x ++ ((xs.drop (j + 1)).flatMap Qn ++ sp)) = M ++ (G2 ++ ((xs.drop (j + 1)).flatMap Qn ++ sp)) by rw [← List.append_assoc, hcut, List.append_assoc]]; exact X7 (KU JN _) lM) rfl (N5 ?_))); refine Jh m0 m0 (GT ?_); refine My ?_; exact Jo (j + 1, G2) ⟨by simp only; omega, by simp only; rw [hkeep, List.length_append, List.length_singleton]; omega, by simp only; rw [hkeep, List.length_append, List.length_singleton]; omega⟩ ml (.cons rfl (.cons rfl (.cons (by simp only [Vm]; rw [hkeep, List.length_append, List.length_singleton]; rfl) (.cons rfl .nil)))) (by simp only [hkeep, List.flatMap_append, List.flatMap_singleton, List.append_assoc]; exact List.sublist_cons_self _ _) (fun _ _ h => h)
  refine gU ?_; refine My ?_
  (have hdel := Yr (pr := fun x => !pr x) hx
   rw [if_neg my, List.append_nil] at hdel
   exact Jo (j + 1, G ++ Qn x) ⟨by simp only; omega, by simp only; rw [hdel]; omega, by simp only [List.length_append, JN]; rw [hdel]; omega⟩ ml (.cons rfl (.cons rfl (.cons (by simp only [Vm]; rw [hdel]; try rfl) (.cons rfl .nil)))) (by simp only [hdel, List.append_assoc]; exact List.sublist_cons_self _ _) (fun _ _ h => h))
  ·refine Nd ?_
   have hjn : j = xs.length := by omega
   have hdrop : (xs.drop j).flatMap Qn = [] := by rw [List.drop_of_length_le m0]; rfl
   rw [hdrop, List.nil_append]; refine G3 ?_; refine LR rfl (JO (sz := 2) (m := ((xs.take j).filter fun x => !pr x).length) (kl := some ((xs.take j).filter fun x => !pr x).length) (kh := none) (km := none) (q := xs.length) (z := cap) (off' := ((xs.take j).filter fun x => !pr x).length * 2) rfl rfl rfl ⟨_, rfl⟩ trivial trivial rfl rfl rfl m0 m0 m0 (fun _ => rfl) mn) (Jji (k := 0) (sz := 2) rfl rfl rfl rfl rfl rfl rfl m6 (by simp only [List.size_toArray, List.length_append, KU JN, List.length_drop]; omega) (X7 (P := ((xs.take j).filter fun x => !pr x).flatMap Qn) (M := G) (S := sp) (KU JN _) m0) rfl (gB ?_))
   refine LR rfl (JO (sz := 2) (q := ((xs.take j).filter fun x => !pr x).length) (kl := none) (kh := some ((xs.take j).filter fun x => !pr x).length) (km := none) (m := 0) (z := cap) (off' := 0) rfl rfl rfl trivial ⟨_, rfl⟩ trivial rfl rfl rfl m0 m0 m0 (fun h => by cases h) nR) (gA ?_); refine N2 fun w1 hs1 => ?_
   (have hfull : (xs.take j).filter (fun x => !pr x) = xs.filter fun x => !pr x := by rw [hjn, List.take_length]
    rw [hfull] at hs1 ⊢; refine ⟨⟨some (r, cap, _), KU JN _, ?_⟩, rfl, hs1.weakL (by simp only [JJ]; exact List.Sublist.refl _)⟩
    have hz : ∀ n, (Builtin.zeroCells (Value.agg #[Value.string ⟨#[]⟩, Value.string ⟨#[]⟩]).cells n).toList.length = n * 2 := fun n => by rw [Array.length_toList, size_zeroCells]; rfl
    rw [List.length_append, hz]
    have := List.length_filter_le (fun x => !pr x) xs
    omega)
theorem Jp4 (ha : a.In R) (k v : BS) : PureT (α := AcRes R (jC a.er k v)) Tryz.prog 25 [a.val, Js k, Js v].toArray (fun x => x.val) [] (fun x => x.L) R := by
  have hlk := Jgb ha
  have hl := ha.len
  have hseg := ha.seg
  have hset : jC a.er k v = if WT a.er ≠ 0 then (a.er, WT a.er) else if k.length ≠ 32 ∨ v.length ≠ 32 then (a.er, 2) else if (Kx a.slots k v).length > 16 then (a.er, 5) else (⟨a.addr, a.nonce, a.bal, a.code, Kx a.slots k v⟩, 0) := rfl
  refine J4 Tryz.func25 rfl rfl fun w => ML fun r1 r2 => ?_; refine LN rfl fun r3 => gB ?_; refine Nu ?_; refine Jc rfl rfl rfl Jv0 hlk oR (He ?_); refine cD (fun g => ?_) fun g => ?_
  refine Wt 4 [2] rfl rfl ?_
  refine Gs ?_; refine ME fun w1 hs1 => ?_; exact GG
  · refine G4 ?_; refine LR rfl (Jd rfl (kn 1 rfl) rfl rfl) (Np ?_)
    refine J0 19 rfl (fun gb => ?_) (fun gb => ?_) <;> (try simp only [ZZ] at gb) <;> first | (refine QV rfl ?_) | (refine LK rfl ?_)
    all_goals refine MX ?_
    all_goals (
     refine Ni ?_; refine JA rfl (fun g => ?_) (fun g => ?_)
     try simp only [ZZ] at g
     refine N6 ?_; refine Nu ?_
     refine Gs ?_; refine ME fun w1 hs1 => ?_; exact Gy
     · try exact Bool.noConfusion g
       all_goals try simp only [ZZ] at g
       all_goals (
        refine Gt ?_
        have hok : Ku Prod.fst a.slots ∧ a.slots.length ≤ 16 := ⟨(Wc (a := a.er) m0).2.2.1, (Wc (a := a.er) m0).2.2.2.2⟩
        have hinl : (Qf Prod.fst (k, v) a.slots).length ≤ 17 := by
          have := hok.2
          rw [xU hok.1]
          split <;> omega
        refine Wt 5 [2, 1] rfl rfl (LR rfl (J8 (r := [_, _]) rfl rfl) (KA rfl rfl rfl (enters_of Tryz.func47 m5 rfl) (Jto (by have := hok.2; omega) hseg hok.1 (k, v)) oR fun x => ?_))
        obtain ⟨row, hrow⟩ := x
        refine gx ?_; change HL _ _ ((30, Jx (Qf Prod.fst (k, v) a.slots).length row) :: _) ((r3, _) :: (r2, _) :: (r1, _) :: JJ _ _ row) _ _ _ _; refine GT ?_; refine J6 rfl rfl rfl Jv2 Jga (LR rfl (Vi rfl rfl) (gM ?_)); refine cD (fun g => ?_) fun g => ?_
        have hdC := Jp3 (R := [(r2, Obj.cells #[Js k] 9 (0, 0))]) (caps := [.pointer (some ⟨r2, 0, none⟩)]) (pr := fun x => decide (x.1 = k)) m0 hrow (enters_of Tryz.func50 m5 rfl) (fun x _ => Jw2 List.mem_cons_self x)
        rw [Jfq, show YR Prod.fst k a.slots = Kx a.slots k v from by unfold Kx; rw [if_pos m8]] at hdC; refine N6 ?_; refine g7 ?_; refine Vn (T := JJ _ _ row) (L0 := [(r3, _), (r2, _), (r1, _)]) (Rl := [(r2, Obj.cells #[Js k] 9 (0, 0))]) (List.perm_append_comm (l₁ := [_, _, _])) rfl rfl rfl (enters_of Tryz.func49 m5 rfl) hdC (fun q hq => Or.inl (by rw [List.mem_singleton.1 hq]; exact List.mem_cons_of_mem _ List.mem_cons_self)) fun x => ?_
        obtain ⟨row2, hrow2⟩ := x
        refine gx ?_; change HL _ _ ((36, Jx (Kx a.slots k v).length row2) :: _) ((r3, _) :: (r2, _) :: (r1, _) :: JJ _ _ row2) _ _ _ _; refine JR 5 rfl ?_
        try rw [show Qf Prod.fst (k, v) a.slots = Kx a.slots k v from by unfold Kx; rw [if_neg m8]] at hrow ⊢
        refine N6 ?_; refine LR rfl (WA rfl hrow2.zero rfl) (Nw ?_); refine cD (fun g => ?_) fun g => ?_
        exact Hw
        refine gU ?_; refine Kh (k := 2) (cs' := #[Js a.addr, uV a.nonce, uV a.bal.a, uV a.bal.b, uV a.bal.c, uV a.bal.d, Js a.code, Jx (Kx a.slots k v).length row2]) rfl rfl rfl rfl rfl (We _ _) rfl rfl rfl rfl (GS ?_); refine Nu ?_; refine Qs (k := 0) (n := 8) (cs' := #[Js a.addr, uV a.nonce, uV a.bal.a, uV a.bal.b, uV a.bal.c, uV a.bal.d, Js a.code, Jx (Kx a.slots k v).length row2]) (vs := #[_, _, _, _, _, _, _, _]) rfl rfl rfl rfl rfl rfl mD mo rfl rfl (gA ?_); refine ME fun w1 hs1 => ?_
        (rw [hset, if_neg m0, if_neg m0, if_neg m0]
         exact ⟨⟨⟨a.addr, a.nonce, a.bal, a.code, Kx a.slots k v, QN row2⟩, 0, JJ 59 ((Kx a.slots k v).flatMap Qn) row2, ZU ha m0 m0 m0 (KC hrow2 m6), rfl⟩, by show Ending.returned _ = Ending.returned (Value.tuple #[Value.agg #[Js a.addr, uV a.nonce, uV a.bal.a, uV a.bal.b, uV a.bal.c, uV a.bal.d, Js a.code, KB (Kx a.slots k v).length (QN row2)], .int .i64 0]); rw [V4 _ _ hrow2.zero]; rfl, hs1.weakL (List.sublist_append_right [_, _, _] _)⟩)
        refine JS 4 rfl ?_
        try rw [show Qf Prod.fst (k, v) a.slots = Kx a.slots k v from by unfold Kx; rw [if_neg m8]] at hrow ⊢
        refine N6 ?_; refine LR rfl (WA rfl hrow.zero rfl) (Nw ?_); refine cD (fun g => ?_) fun g => ?_
        exact Hw
        refine kM ?_; refine Nu ?_; refine Qs (k := 0) (n := 8) (cs' := #[Js a.addr, uV a.nonce, uV a.bal.a, uV a.bal.b, uV a.bal.c, uV a.bal.d, Js a.code, Jx (Kx a.slots k v).length row]) (vs := #[_, _, _, _, _, _, _, _]) rfl rfl rfl rfl rfl rfl mD mo rfl rfl (gA ?_); refine ME fun w1 hs1 => ?_
        (rw [hset, if_neg m0, if_neg m0, if_neg m0]
         exact ⟨⟨⟨a.addr, a.nonce, a.bal, a.code, Kx a.slots k v, QN row⟩, 0, JJ 59 ((Kx a.slots k v).flatMap Qn) row, ZU ha m0 m0 m0 (KC hrow m6), rfl⟩, by show Ending.returned _ = Ending.returned (Value.tuple #[Value.agg #[Js a.addr, uV a.nonce, uV a.bal.a, uV a.bal.b, uV a.bal.c, uV a.bal.d, Js a.code, KB (Kx a.slots k v).length (QN row)], .int .i64 0]); rw [V4 _ _ hrow.zero]; rfl, hs1.weakL (List.sublist_append_right [_, _, _] _)⟩)
        skip)
     skip)
theorem Ju7 {s : StL} (hs : s.In R) (ha : a.In R) : PureT (α := StRes R (Jfg s.er a.er)) Tryz.prog 23 [s.val, a.val].toArray (fun x => x.val) [] (fun x => x.L) R := by
 have hc := Xs hs
 have hlk := Jgb ha
 have hl := hs.len
 have hseg := hs.seg
 have hput : Jfg s.er a.er = if KP s.er ≠ 0 then (s.er, KP s.er) else if WT a.er ≠ 0 then (s.er, WT a.er) else if (Qf AcE.addr a.er s.er).length > 32 then (s.er, 5) else (Qf AcE.addr a.er s.er, 0) := rfl
 have hil : (Qf AcE.addr a.er s.er).length = (Qf AcL.addr a s.accts).length := by unfold StL.er; rw [← Jad, List.length_map]
 rw [hil] at hput; refine J4 Tryz.func23 rfl rfl fun w => ML fun r1 r2 => ?_; refine LN rfl fun r3 => gB ?_; refine LR rfl (Jl (vs := [_]) rfl (kn 2 rfl) rfl rfl rfl rfl) (Jc rfl rfl rfl Jj1 hc oR (He ?_)); refine cD (fun g => ?_) fun g => ?_
 refine Wt 4 [2] rfl rfl ?_
 refine Gs ?_; exact gP
 ·refine G4 ?_; refine LR rfl (Jl (vs := [_, _, _, _, _, _, _, _]) rfl (kn 1 rfl) rfl rfl rfl rfl) (Jc rfl rfl rfl Jv0 hlk oR (He ?_)); refine cD (fun g => ?_) fun g => ?_
  refine Wt 4 [2] rfl rfl ?_
  refine Gs ?_; refine NR fun w1 hs1 => ?_; exact Gp
  ·refine Gt ?_
   have hok : s.accts.length ≤ 32 ∧ Ku AcL.addr s.accts := by
    have h := wz.1 (show KP s.er = 0 by omega)
    rw [s.er_len] at h; exact ⟨h.1, (zw s).2 h.2.2⟩
   refine Wt 4 [2, 1] rfl rfl (KA rfl rfl rfl (enters_of Tryz.func46 m5 rfl) (Jtn m0 hseg hok.2 a) oR fun x => ?_)
   obtain ⟨row, hrow⟩ := x
   refine gx ?_; change HL _ _ ((24, Jx (Qf AcL.addr a s.accts).length row) :: _) ((r3, _) :: (r2, _) :: (r1, _) :: JJ _ _ row) _ _ _ _; refine GT ?_; refine LR rfl (WA rfl hrow.zero rfl) (Nw ?_); refine cD (fun g => ?_) fun g => ?_
   refine N6 ?_; refine LR rfl (Jl (vs := [_]) rfl (kn 2 rfl) rfl rfl rfl rfl) ?_
   refine Gs ?_; refine NR fun w1 hs1 => ?_; rw [hput, if_neg m0, if_neg m0, if_pos m0]; exact Hp
   ·refine G4 ?_
    refine LR rfl (J8 (r := [Jx _ row]) rfl (by cases row <;> rfl)) ?_; refine Qs (k := 0) (n := 1) (cs' := #[Jx (Qf AcL.addr a s.accts).length row]) (vs := #[_]) rfl rfl rfl rfl rfl rfl mD mo rfl rfl ?_; refine gA ?_; refine NR fun w1 hs1 => ?_
    (rw [hput, if_neg m0, if_neg m0, if_neg m0]
     exact ⟨⟨⟨Qf AcL.addr a s.accts, QN row⟩, 0, JJ 34 ((Qf AcL.addr a s.accts).flatMap AcL.cells) row, ⟨by show (Qf AcL.addr a s.accts).length ≤ 9223372036854775807; omega, (KC hrow m6).mono fun q hq => List.mem_append_left _ hq, fun x hx => ((vJ hx).elim (fun e => by rw [e]; exact ha) (hs.accts x)).mono fun q hq => List.mem_append_right _ hq⟩, by unfold StL.er; rw [Jad]⟩, by show Ending.returned _ = Ending.returned (Value.tuple #[Value.agg #[KB (Qf AcL.addr a s.accts).length (QN row)], .int .i64 0]); rw [V4 _ _ hrow.zero]; rfl, hs1.weakL (List.sublist_append_right [_, _, _] _)⟩)
theorem Jp5  {ys : List (BS × BS)} {p q : Pl} (hl : xs.length ≤ 9223372036854775807) (hl2 : ys.length ≤ 9223372036854775807) (hs : Seg R xs.length (xs.flatMap Qn) p) (hs' : Seg R ys.length (ys.flatMap Qn) q) :
  PureR Tryz.prog 44 [KB xs.length p, KB ys.length q].toArray (.bool (decide (xs = ys))) R := by
 refine Ja Tryz.func44 rfl rfl fun w => Gu ?_; refine cD (fun g => ?_) fun g => ?_
 refine NW fun w1 hs1 => ?_; rw [decide_eq_false (show ¬ xs = ys from fun e => by have := congrArg List.length e; omega)]; rfl
 ·refine gU ?_; refine gY ?_
  have hll : xs.length = ys.length := by omega
  refine Jw (σ := Nat) (fun i => i ≤ xs.length ∧ ∀ j, j < i → xs[j]? = ys[j]?) (fun i => [(0, KB xs.length p), (1, KB ys.length q), (12, .int .i64 (xs.length : Int)), (13, .int .i64 (i : Int))]) (fun _ => []) (fun _ _ _ => True) (fun i => xs.length - i) 0 ⟨by omega, fun j hj => absurd hj m0⟩ (lK rfl) (List.nil_sublist _) (fun _ _ h => h) ?_; rintro i ⟨hi1, hinv⟩; refine Nd ?_; refine cD (fun g => ?_) fun g => ?_
  refine JS 11 rfl ?_
  obtain ⟨x, hx, hmx⟩ := Qz mZ
  obtain ⟨y, hy, hmy⟩ := Qz (show i < ys.length by omega)
  refine JI 9 m5 m5 (N8 ?_)
  refine gZ ?_; refine Jb rfl rfl rfl (Kc JN oR rfl hs hx rfl rfl) (N8 ?_)
  refine Jb rfl rfl rfl (Jf (j := i) rfl hs' rfl rfl rfl mc m0) (Jb rfl rfl rfl (Kc JN oR rfl hs' hy rfl rfl) (g8 ?_)); refine cD (fun g => ?_) fun g => ?_
  refine Nm fun w1 hs1 => ?_; rw [decide_eq_false (Jmy hx hy my)]; rfl
  refine NT ?_
  exact Jo (i + 1) ⟨by omega, fun j hj => by
   rcases Nat.lt_succ_iff_lt_or_eq.1 hj with hj | rfl
   exact hinv j hj
   rw [hx, hy]; simp_all⟩ m0 (lK rfl) (List.nil_sublist _) (fun _ _ h => h)
  ·refine Nm fun w1 hs1 => ?_; rw [decide_eq_true (Jmx hll m0 hinv)]; rfl
theorem Jtt (a b : AcL) : a.er = b.er ↔ a.addr = b.addr ∧ a.nonce = b.nonce ∧ a.bal = b.bal ∧ a.code = b.code ∧ a.slots = b.slots := by
 unfold AcL.er
 simp
theorem Jtu  {b : AcL} (ha : a.In R) (hb : b.In R) : PureR Tryz.prog 43 [vA a, vA b].toArray (.bool (decide (a.er = b.er))) R := by
 have heq := Jp5 ha.len hb.len ha.seg hb.seg
 have hE : decide (a.er = b.er) = (decide (a.addr = b.addr) && (decide (a.nonce = b.nonce) && (decide (a.bal = b.bal) && (decide (a.code = b.code) && decide (a.slots = b.slots))))) := by
  rw [Bool.eq_iff_iff]; simp only [decide_eq_true_eq, Bool.and_eq_true]; exact Jtt a b
 rw [hE]; refine Ja Tryz.func43 rfl rfl fun w => ML fun r1 r2 => ?_; refine XN 9 [1, 0] rfl rfl (LR rfl (Vi rfl rfl) (QV rfl ?_))
 refine J0 10 rfl (fun gb => ?_) (fun gb => ?_) <;> (try simp only [ZZ] at gb) <;> first | (refine LR rfl (J7 rfl rfl rfl) ?_) | (refine LK rfl ?_)
 all_goals refine ku ?_
 all_goals refine LW 2 [0] rfl rfl ?_
 all_goals first | (refine Jn (congrArg Value.bool (eqU a.nonce b.nonce)) ?_) | skip
 all_goals refine gr ?_
 all_goals first | refine LK rfl ?_ | (refine J0 17 rfl (fun gb => ?_) (fun gb => ?_) <;> (try simp only [ZZ] at gb) <;> first | (refine LR rfl (J7 rfl rfl rfl) ?_) | (refine LK rfl ?_))
 all_goals refine ku ?_
 all_goals refine NU ?_
 all_goals first | (refine LR rfl (xu rfl rfl rfl rfl rfl m5 rfl rfl rfl rfl) ?_) | refine LK rfl ?_
 all_goals first | (refine Jn (congrArg Value.bool (eqW a.bal b.bal)) ?_) | skip
 all_goals refine gr ?_
 all_goals first | refine LK rfl ?_ | (refine J0 24 rfl (fun gb => ?_) (fun gb => ?_) <;> (try simp only [ZZ] at gb) <;> first | (refine LR rfl (J7 rfl rfl rfl) ?_) | (refine LK rfl ?_))
 all_goals refine ku ?_
 all_goals refine NU ?_
 all_goals first | refine LR rfl (Vi rfl rfl) ?_ | refine LK rfl ?_
 all_goals refine gr ?_
 all_goals first | refine LK rfl ?_ | (refine J0 31 rfl (fun gb => ?_) (fun gb => ?_) <;> (try simp only [ZZ] at gb) <;> first | (refine LR rfl (J7 rfl rfl rfl) ?_) | (refine LK rfl ?_))
 all_goals refine ku ?_
 all_goals refine NU ?_
 all_goals first | (refine Jc rfl rfl rfl (enters_of Tryz.func44 m5 rfl) heq oR ?_) | refine LK rfl ?_
 all_goals (
  refine Nb fun w1 hs1 => ?_
  simp_all [JK]
  skip)
theorem qH {s t : StL} : s.er = t.er ↔ s.accts.length = t.accts.length ∧ ∀ (i : Nat) a b, s.accts[i]? = some a → t.accts[i]? = some b → a.er = b.er := by
 constructor
 ·intro h
  refine ⟨by have := congrArg List.length h; rwa [s.er_len, t.er_len] at this, fun i a b ha hb => ?_⟩
  exact H7
 ·rintro ⟨h1, h2⟩
  apply List.ext_getElem?
  intro i
  by_cases hi : i < s.accts.length
  ·obtain ⟨a, ha, _⟩ := Qz hi
   obtain ⟨b, hb, _⟩ := Qz nV
   rw [Wd ha, Wd hb, h2 i a b ha hb]
  ·rw [List.getElem?_eq_none M2, List.getElem?_eq_none (by rw [t.er_len]; omega)]
theorem Jp6 {s t : StL} (hs : s.In R) (ht : t.In R) :
  PureR Tryz.prog 45 [KB s.accts.length s.p, KB t.accts.length t.p, fV 43].toArray (.bool (decide (s.er = t.er))) R := by
 have hl : s.accts.length ≤ 9223372036854775807 := hs.len
 have hl2 : t.accts.length ≤ 9223372036854775807 := ht.len
 have h1 := hs.seg
 have h2 := ht.seg
 refine Ja Tryz.func45 rfl rfl fun w => kd ?_; refine LR rfl (Ju rfl h1 rfl) (QV rfl (LR rfl (Ju rfl h2 rfl) (JR 3 rfl ?_))); refine cD (fun g => ?_) fun g => ?_
 refine NW fun w1 hs1 => ?_; rw [decide_eq_false (show ¬ s.er = t.er from fun e => by have := (qH.1 e).1; omega)]; rfl
 ·refine gU ?_; refine LR rfl (Ju rfl h1 rfl) (kA ?_)
  have hll : s.accts.length = t.accts.length := by omega
  refine Jw (σ := Nat) (fun i => i ≤ s.accts.length ∧ ∀ q, q < i → ∀ a b, s.accts[q]? = some a → t.accts[q]? = some b → a.er = b.er) (fun i => [(1, KB t.accts.length t.p), (2, fV 43), (15, KB s.accts.length s.p), (16, .int .i64 (s.accts.length : Int)), (17, .int .i64 (i : Int))]) (fun _ => []) (fun _ _ _ => True) (fun i => s.accts.length - i) 0 ⟨by omega, fun j hj => absurd hj m0⟩ (lK rfl) (List.nil_sublist _) (fun _ _ h => h) ?_; rintro i ⟨hi1, hinv⟩; refine Nd ?_; refine cD (fun g => ?_) fun g => ?_
  refine kF ?_
  obtain ⟨x, hx, hmx⟩ := Qz mT
  obtain ⟨y, hy, hmy⟩ := Qz nV
  refine N6 ?_
  refine LR rfl (Jf (j := i) rfl h1 rfl rfl rfl mc m0) (LR rfl (Kc AcL.len oR rfl h1 hx rfl rfl) (LN rfl fun r1 => QV rfl (Jk (k := 0) (n := 8) (ys := x.cells) rfl rfl rfl rfl rfl x.len rfl x.one rfl (JM 6 rfl ?_))))
  refine LR rfl (Jf (j := i) rfl h2 rfl rfl rfl mc m0) (LR rfl (Kc AcL.len oR rfl h2 hy rfl rfl) (LN rfl fun r2 => Jk (k := 0) (n := 8) (ys := y.cells) rfl rfl rfl rfl rfl y.len rfl y.one rfl (N5 ?_))); refine LR rfl (Jg (xs := x.cells) (n := 8) rfl (kn 1 rfl) rfl rfl x.len) (LR rfl (Jg (xs := y.cells) (n := 8) rfl (kn 0 rfl) rfl rfl y.len) (Jc rfl rfl rfl (enters_of Tryz.func43 m5 rfl) (Jtu (hs.accts x hmx) (ht.accts y hmy)) oR (Nw ?_))); refine cD (fun g => ?_) fun g => ?_
  refine Nm fun w1 hs1 => ?_; rw [decide_eq_false (show ¬ s.er = t.er from fun e => by have := (qH.1 e).2 i x y hx hy; simp_all)]; rfl
  refine NT ?_
  exact Jo (i + 1) ⟨by omega, fun q hq u v hu hv => by
   rcases Nat.lt_succ_iff_lt_or_eq.1 hq with hq | rfl
   exact hinv q hq u v hu hv
   rw [hx] at hu; rw [hy] at hv; cases hu; cases hv; simp_all⟩ m0 (lK rfl) (List.nil_sublist _) (fun _ _ h => h)
  ·refine Nm fun w1 hs1 => ?_; rw [decide_eq_true (qH.2 ⟨hll, fun q a b ha hb => hinv q (by have := (List.getElem?_eq_some_iff.1 ha).1; omega) a b ha hb⟩)]; rfl
theorem Jp7 {s t : StL} (hs : s.In R) (ht : t.In R) : PureR Tryz.prog 21 [s.val, t.val].toArray (.bool (decide (s.er = t.er))) R := by
 have h := Jp6 hs ht
 refine Ja Tryz.func21 rfl rfl fun w => ML fun r1 r2 => ?_; refine XN 15 [1, 0] rfl rfl (Jc rfl rfl rfl (enters_of Tryz.func45 m5 rfl) h oR ?_); exact MY
def jh (a : AcE) : Bool := !((decide (100 < a.addr.length) || (decide (60 < a.code.length) && decide (a.code.length ≤ 512))) || decide (20 < a.slots.length)) && a.slots.all fun x => !(decide (100 < x.1.length) || decide (100 < x.2.length))
def vr : Nat → Int → List AcE → Bool × Int
 | _, n, [] => (true, n)
 | i, n, a :: l => if 40 < i then (true, n) else if jh a = false then (false, n) else vr (i + 1) (n + (a.slots.length : Int)) l
def Jtv (s : List AcE) : Bool := (vr 0 0 s).1 && (decide (s.length ≤ 40) && decide ((vr 0 0 s).2 ≤ 40))
theorem Jtw {a : AcE} {x : BS × BS} (hx : a.slots[i]? = some x) (h : x.1.length > 100 ∨ x.2.length > 100) : jh a = false := by
 unfold jh
 have : (a.slots.all fun x => !(decide (100 < x.1.length) || decide (100 < x.2.length))) = false := by
  rw [List.all_eq_false]
  exact ⟨x, List.mem_of_getElem? hx, by rcases h with h | h <;> simp [h]⟩
 rw [this, Bool.and_false]
theorem Jtx {a : AcE} (h : jh a = true) : a.slots.length ≤ 20 := by
 unfold jh at h
 simp only [Bool.and_eq_true, Bool.not_eq_true', Bool.or_eq_false_iff, decide_eq_false_iff_not] at h; omega
theorem Jp8 {n : Int} {s : List AcE} {a : AcE} (h : s[i]? = some a) (hi : i ≤ 40) (hf : jh a = true) : vr i n (s.drop i) = vr (i + 1) (n + (a.slots.length : Int)) (s.drop (i + 1)) := by
 obtain ⟨hlt, e⟩ := List.getElem?_eq_some_iff.1 h
 rw [List.drop_eq_getElem_cons hlt, e]
 unfold vr
 rw [if_neg m0, if_neg (by rw [hf]; simp)]
 cases s.drop (i + 1) <;> rfl
theorem Jp9 {n : Int} {s : List AcE} (h : 40 < i ∨ s.length ≤ i) : vr i n (s.drop i) = (true, n) := by
 rcases h with h | h
 ·cases s.drop i with
  | nil => rfl
  | cons a l => unfold vr; rw [if_pos h]
 ·rw [List.drop_of_length_le h]; rfl
theorem Jqa {n : Int} {s : List AcE} {a : AcE} (h : s[i]? = some a) (hi : i ≤ 40) (hf : jh a = false) : (vr i n (s.drop i)).1 = false := by
 obtain ⟨hlt, e⟩ := List.getElem?_eq_some_iff.1 h
 rw [List.drop_eq_getElem_cons hlt, e]
 unfold vr
 rw [if_neg m0, if_pos hf]
theorem zV (ha : a.In R) : PureR Tryz.prog 22 [a.val].toArray (.bool (jh a.er)) R := by
  have hl := ha.len
  have hseg := ha.seg
  obtain ⟨res, hres⟩ : ∃ b, b = jh a.er := ⟨_, rfl⟩
  rw [← hres]
  have h1 : (100 < (a.addr.length : Int) ∨ (60 < (a.code.length : Int) ∧ (a.code.length : Int) ≤ 512) ∨ 20 < (a.slots.length : Int)) → res = false := fun h => by
    rw [hres]; unfold jh
    have : ((decide (100 < a.addr.length) || (decide (60 < a.code.length) && decide (a.code.length ≤ 512))) || decide (20 < a.slots.length)) = true := by
      simp only [Bool.or_eq_true, Bool.and_eq_true, decide_eq_true_eq]; omega
    show (!((decide (100 < a.addr.length) || (decide (60 < a.code.length) && decide (a.code.length ≤ 512))) || decide (20 < a.slots.length)) && _) = false
    rw [this]; rfl
  have h2 : ¬ (100 < (a.addr.length : Int) ∨ (60 < (a.code.length : Int) ∧ (a.code.length : Int) ≤ 512) ∨ 20 < (a.slots.length : Int)) → (∀ (j : Nat) (x : BS × BS), a.slots[j]? = some x → x.1.length ≤ 100 ∧ x.2.length ≤ 100) → res = true := fun h h' => by
    rw [hres]; unfold jh
    have e : ((decide (100 < a.addr.length) || (decide (60 < a.code.length) && decide (a.code.length ≤ 512))) || decide (20 < a.slots.length)) = false := by
      simp only [Bool.or_eq_false_iff, Bool.and_eq_false_iff, decide_eq_false_iff_not]; omega
    show (!((decide (100 < a.addr.length) || (decide (60 < a.code.length) && decide (a.code.length ≤ 512))) || decide (20 < a.slots.length)) && _) = true
    rw [e]; simp only [Bool.not_false, Bool.true_and, List.all_eq_true]; intro x hx
    obtain ⟨j, hj⟩ := List.getElem?_of_mem hx
    obtain ⟨g1, g2⟩ := h' j x hj
    simp; omega
  refine Ja Tryz.func22 rfl rfl fun w => gz ?_; refine KO (cs := a.cells.toArray) rfl rfl rfl rfl fun r1 => XN 8 [0] rfl rfl (Np ?_)
  refine J0 8 rfl (fun gb => ?_) (fun gb => ?_) <;> (try simp only [ZZ] at gb) <;> first | (refine LR rfl (J7 rfl rfl rfl) ?_) | (refine LK rfl ?_)
  all_goals refine NU ?_
  all_goals refine MX ?_
  all_goals refine gr ?_
  all_goals first | refine LK rfl ?_ | (refine J0 13 rfl (fun gb => ?_) (fun gb => ?_) <;> (try simp only [ZZ] at gb) <;> first | (refine LR rfl (J7 rfl rfl rfl) ?_) | (refine LK rfl ?_))
  all_goals refine NU ?_
  all_goals refine MX ?_
  all_goals refine LW 4 [] rfl rfl ?_
  all_goals first | refine LR rfl (J7 rfl rfl rfl) ?_ | refine LK rfl ?_ | (refine J0 20 rfl (fun gb => ?_) (fun gb => ?_) <;> (try simp only [ZZ] at gb) <;> first | (refine LR rfl (J7 rfl rfl rfl) ?_) | (refine LK rfl ?_))
  all_goals refine NU ?_
  all_goals refine G9 ?_
  all_goals (
   refine Ni ?_; refine JA rfl (fun g => ?_) (fun g => ?_)
   try simp only [ZZ] at g
   refine KS 7 rfl (N2 fun w1 hs1 => ?_); rw [h1 m0]; exact MA
   · try exact Bool.noConfusion g
     all_goals try simp only [ZZ] at g
     all_goals (
      refine JS 9 rfl ?_
      have h0 : ¬ (100 < (a.addr.length : Int) ∨ (60 < (a.code.length : Int) ∧ (a.code.length : Int) ≤ 512) ∨ 20 < (a.slots.length : Int)) := by
        simp_all
        all_goals first | done | omega | trace_state
      refine Jw (σ := Nat) (fun i => i ≤ a.slots.length ∧ ∀ (j : Nat) (x : BS × BS), j < i → a.slots[j]? = some x → x.1.length ≤ 100 ∧ x.2.length ≤ 100) (fun i => [(1, .pointer (some ⟨r1, 0, none⟩)), (3, .int .i64 (i : Int))]) (fun _ => [(r1, .cells a.cells.toArray 34 (0, 0))]) (fun _ _ _ => True) (fun i => a.slots.length - i) 0 ⟨Nat.zero_le _, fun _ _ h => absurd h (Nat.not_lt_zero _)⟩ (lK rfl) (List.Sublist.refl _) (fun _ _ h => h) ?_; rintro i ⟨hi1, hinv⟩; refine Wt 6 [0] rfl rfl (kL ?_); refine Nw ?_; refine cD (fun g => ?_) fun g => ?_
      · refine kF ?_
        obtain ⟨x, hx, hmx⟩ := Qz Mi
        have hxl := ha.slots x hmx
        refine gw ?_
        refine J0 41 rfl (fun gb => ?_) (fun gb => ?_) <;> (try simp only [ZZ] at gb) <;> first | (refine LR rfl (J7 rfl rfl rfl) ?_) | (refine LK rfl ?_)
        all_goals refine NJ ?_
        all_goals (
         refine Ni ?_; refine JA rfl (fun g => ?_) (fun g => ?_)
         try simp only [ZZ] at g
         refine KS 11 rfl (N2 fun w1 hs1 => ?_); rw [hres, Jtw hx m0]; exact MA
         · try exact Bool.noConfusion g
           all_goals try simp only [ZZ] at g
           all_goals (
            refine gU ?_; refine My ?_
            exact Jo (i + 1) ⟨by omega, fun j y hj hy => by
              rcases Nat.lt_succ_iff_lt_or_eq.1 hj with h | rfl
              exact hinv j y h hy
              · obtain rfl := Option.some.inj (hx.symm.trans hy); simp_all; all_goals first | done | omega | trace_state⟩ m0 (lK rfl) (List.Sublist.refl _) (fun _ _ h => h)
            skip)
         skip)
      refine KS 11 rfl (N2 fun w1 hs1 => ?_); rw [h2 h0 (fun j y hy => hinv j y (by have := (List.getElem?_eq_some_iff.1 hy).1; omega) hy)]; exact MA
      skip)
   skip)
theorem Jty {s : StL} (hs : s.In R) : PureR Tryz.prog 12 [s.val].toArray (.bool (Jtv s.er)) R := by
  have hl := hs.len
  have hseg := hs.seg
  obtain ⟨⟨rb, rn⟩, hres⟩ : ∃ b, b = vr 0 0 s.er := ⟨_, rfl⟩
  have hfs : Jtv s.er = (rb && (decide (s.accts.length ≤ 40) && decide (rn ≤ 40))) := by unfold Jtv; rw [← hres, s.er_len]
  rw [hfs]; refine Ja Tryz.func12 rfl rfl fun w => gz ?_; refine KO (cs := s.cells.toArray) rfl rfl rfl rfl fun r1 => JR 15 rfl (Jw (σ := Nat × Int) (fun q => q.1 ≤ s.accts.length ∧ 0 ≤ q.2 ∧ q.2 ≤ 20 * q.1 ∧ q.1 ≤ 41 ∧ vr q.1 q.2 (s.er.drop q.1) = (rb, rn)) (fun q => [(1, .pointer (some ⟨r1, 0, none⟩)), (3, .int .i64 q.2), (4, .int .i64 (q.1 : Int))]) (fun _ => [(r1, .cells s.cells.toArray 24 (0, 0))]) (fun _ _ _ => True) (fun q => s.accts.length - q.1) (0, 0) ⟨Nat.zero_le _, by omega, by omega, by omega, hres.symm⟩ (lK rfl) (List.Sublist.refl _) (fun _ _ h => h) ?_); rintro ⟨i, n⟩ ⟨hi1, hn0, hn1, hi41, hinv⟩; simp only at hi1 hn0 hn1 hi41 hinv; change HC _ _ [(1, _), (3, .int .i64 n), (4, .int .i64 (i : Int))] _ _ _ _; refine Wt 6 [0] rfl rfl (kL ?_); refine ko ?_
  refine J0 11 rfl (fun gb => ?_) (fun gb => ?_) <;> (try simp only [ZZ] at gb) <;> first | (refine QV rfl ?_) | (refine LK rfl ?_)
  all_goals (
   refine Ni ?_; refine JA rfl (fun g => ?_) (fun g => ?_)
   · try exact Bool.noConfusion g
     all_goals try simp only [ZZ] at g
     all_goals (
      refine kF ?_
      obtain ⟨a, ha, hma⟩ := Qz mT
      have ha2 := hs.accts a hma
      have hi40 : i ≤ 40 := by simp_all <;> omega
      refine Hc ?_
      refine kN ?_; refine Jc rfl rfl rfl (enters_of Tryz.func22 m5 rfl) (zV ha2) oR (JR 10 rfl (cD (fun g => ?_) fun g => ?_))
      refine KS 12 rfl (N2 fun w1 hs1 => ?_)
      (have hff : jh a.er = false := by simp_all
       have h1 := Jqa (n := n) (Wd ha) hi40 hff
       rw [hinv] at h1
       rw [show rb = false from h1]; exact ⟨rfl, hs1.keep⟩)
      refine JS 2 rfl ?_
      have hft : jh a.er = true := by simp_all
      have h20 := Jtx hft
      have h20 : a.slots.length ≤ 20 := h20
      rw [Jp8 (Wd ha) hi40 hft] at hinv; refine Wt 5 [0] rfl rfl ?_
      refine No ?_; refine LR rfl (JD (off' := Xd s.p + (i * 8 + 7)) rfl rfl (by show Xd s.p + i * 8 + 7 = _; omega)) (LR rfl (Qo AcL.len (k := 7) (v := KB a.slots.length a.p) oR rfl hseg ha rfl rfl) (LR rfl (Ju rfl ha2.seg rfl) (WR rfl (Jh m0 m0 (JM 7 rfl ?_))))); refine My ?_; exact Jo (i + 1, n + (a.slots.length : Int)) ⟨by simp only; omega, by simp only; omega, by simp only; omega, by simp only; omega, hinv⟩ ml (lK rfl) (List.Sublist.refl _) (fun _ _ h => h)
      skip)
   · try simp only [ZZ] at g
     refine Wt 9 [0] rfl rfl (kL ?_); refine ko ?_
     refine J0 38 rfl (fun gb => ?_) (fun gb => ?_) <;> (try simp only [ZZ] at gb) <;> first | (refine QV rfl ?_) | (refine LK rfl ?_)
     all_goals (
      refine Hk ?_; refine N2 fun w1 hs1 => ?_
      first
        | (have hff : jh a.er = false := by simp_all
           have h1 := Jqa (n := n) (Wd ha) hi40 hff
           rw [hinv] at h1
           rw [show rb = false from h1]; exact ⟨rfl, hs1.keep⟩)
        | (rw [Jp9 M2] at hinv
           obtain ⟨rfl, rfl⟩ := Prod.mk.inj hinv
           refine ⟨?_, hs1.keep⟩
           simp [JK]
           all_goals first | done | omega | trace_state)
        | trace_state
      skip)
   skip)
theorem yH (a b : AcL) : a.er = b.er ↔ a.addr = b.addr ∧ a.nonce = b.nonce ∧ a.bal = b.bal ∧ a.code = b.code ∧ a.slots = b.slots := by
 unfold AcL.er
 simp
theorem qd {b : AcL} (h : ¬ a.addr = b.addr ∨ ¬ a.nonce = b.nonce ∨ ¬ a.bal = b.bal ∨ ¬ a.code = b.code ∨ ¬ a.slots.length = b.slots.length) : ¬ a.er = b.er := fun e => by
 obtain ⟨h1, h2, h3, h4, h5⟩ := (yH a b).1 e
 rcases h with h | h | h | h | h
 ·exact h h1
 ·exact h h2
 ·exact h h3
 ·exact h h4
 ·exact h (by rw [h5])
theorem YI  {b : AcL} (ha : a.In R) (hb : b.In R) : PureR Tryz.prog 16 [a.val, b.val].toArray (.bool (decide (a.er = b.er))) R := by
  have hl : a.slots.length ≤ 9223372036854775807 := ha.len
  have hl2 : b.slots.length ≤ 9223372036854775807 := hb.len
  have h1 := ha.seg
  have h2 := hb.seg
  refine Ja Tryz.func16 rfl rfl fun w => gz ?_; refine Hz fun ra => ?_; refine KO (cs := b.cells.toArray) rfl rfl rfl rfl fun rb => XN 10 [1, 0] rfl rfl (LR rfl (W3 rfl rfl) (QV rfl ?_))
  refine J0 11 rfl (fun gb => ?_) (fun gb => ?_) <;> (try simp only [ZZ] at gb) <;> first | (refine LR rfl (J7 rfl rfl rfl) ?_) | (refine LK rfl ?_)
  all_goals refine ku ?_
  all_goals refine LW 2 [0] rfl rfl ?_
  all_goals first | (refine Jn (congrArg (fun b => Value.bool (!b)) (eqU a.nonce b.nonce)) ?_) | skip
  all_goals refine gr ?_
  all_goals first | refine LK rfl ?_ | (refine J0 18 rfl (fun gb => ?_) (fun gb => ?_) <;> (try simp only [ZZ] at gb) <;> first | (refine LR rfl (J7 rfl rfl rfl) ?_) | (refine LK rfl ?_))
  all_goals refine ku ?_
  all_goals refine NU ?_
  all_goals first | (refine LR rfl (Jgl rfl rfl rfl rfl rfl m5 rfl rfl rfl rfl) ?_) | refine LK rfl ?_
  all_goals first | (refine Jn (congrArg (fun b => Value.bool (!b)) (eqW a.bal b.bal)) ?_) | skip
  all_goals refine gr ?_
  all_goals first | refine LK rfl ?_ | (refine J0 25 rfl (fun gb => ?_) (fun gb => ?_) <;> (try simp only [ZZ] at gb) <;> first | (refine LR rfl (J7 rfl rfl rfl) ?_) | (refine LK rfl ?_))
  all_goals refine ku ?_
  all_goals refine NU ?_
  all_goals first | refine LR rfl (W3 rfl rfl) ?_ | refine LK rfl ?_
  all_goals refine gr ?_
  all_goals first | refine LK rfl ?_ | (refine J0 32 rfl (fun gb => ?_) (fun gb => ?_) <;> (try simp only [ZZ] at gb) <;> first | (refine LR rfl (J7 rfl rfl rfl) ?_) | (refine LK rfl ?_))
  all_goals refine LW 1 [1] rfl rfl ?_
  all_goals first | refine LR rfl (Ju rfl h1 rfl) ?_ | refine LK rfl ?_
  all_goals refine MH ?_
  all_goals refine NU ?_
  all_goals first | refine LR rfl (Ju rfl h2 rfl) ?_ | refine LK rfl ?_
  all_goals (
   refine Ni ?_; refine JA rfl (fun g => ?_) (fun g => ?_)
   try simp only [ZZ] at g
   refine NW fun w1 hs1 => ?_
   first | (rw [decide_eq_false (qd (.inl m8))]; rfl) | (rw [decide_eq_false (qd (.inr (.inl m8)))]; rfl) | (rw [decide_eq_false (qd (.inr (.inr (.inl m8))))]; rfl) | (rw [decide_eq_false (qd (.inr (.inr (.inr (.inl m8)))))]; rfl) | (rw [decide_eq_false (qd (.inr (.inr (.inr (.inr m0)))))]; rfl)
   · try exact Bool.noConfusion g
     all_goals try simp only [ZZ] at g
     all_goals (
      refine JS 9 rfl ?_
      have hll : a.slots.length = b.slots.length := by omega
      have hflat : a.addr = b.addr ∧ a.nonce = b.nonce ∧ a.bal = b.bal ∧ a.code = b.code := by simp_all
      refine Jw (σ := Nat) (fun i => i ≤ a.slots.length ∧ ∀ j, j < i → a.slots[j]? = b.slots[j]?) (fun i => [(2, Value.pointer (some ⟨ra, 0, none⟩)), (3, Value.pointer (some ⟨rb, 0, none⟩)), (5, .int .i64 (i : Int))]) (fun _ => [(rb, .cells b.cells.toArray 34 (0, 0)), (ra, .cells a.cells.toArray 34 (0, 0))]) (fun _ _ _ => True) (fun i => a.slots.length - i) 0 ⟨by omega, fun j hj => absurd hj m0⟩ (lK rfl) (List.Sublist.refl _) (fun _ _ h => h) ?_; rintro i ⟨hi1, hinv⟩; refine Wt 6 [1] rfl rfl (LR rfl (Ju rfl h1 rfl) (Nw ?_)); refine cD (fun g => ?_) fun g => ?_
      refine kF ?_
      obtain ⟨x, hx, hmx⟩ := Qz Mi
      obtain ⟨y, hy, hmy⟩ := Qz (show i < b.slots.length by omega)
      refine JI 11 m5 m5 ?_
      refine GA ?_; refine Jb rfl rfl rfl (Kc JN oR rfl h1 hx rfl rfl) ?_
      refine N4 ?_; refine Mx ?_
      refine Jb rfl rfl rfl (Jf (j := i) rfl h2 rfl rfl rfl mc m0) (Jb rfl rfl rfl (Kc JN oR rfl h2 hy rfl rfl) (g8 ?_)); refine cD (fun g => ?_) fun g => ?_
      refine Nm fun w1 hs1 => ?_; rw [decide_eq_false (show ¬ a.er = b.er from fun e => Jmy hx hy my ((yH a b).1 e).2.2.2.2)]; rfl
      refine gU ?_; refine My ?_
      exact Jo (i + 1) ⟨by omega, fun j hj => by
        rcases Nat.lt_succ_iff_lt_or_eq.1 hj with hj | rfl
        exact hinv j hj
        rw [hx, hy]; simp_all⟩ m0 (lK rfl) (List.Sublist.refl _) (fun _ _ h => h)
      refine Nm fun w1 hs1 => ?_; rw [decide_eq_true ((yH a b).2 ⟨hflat.1, hflat.2.1, hflat.2.2.1, hflat.2.2.2, Jmx hll m0 hinv⟩)]; rfl
      skip)
   skip)
structure Stay (s t : StL) (a key : BS) : Prop where
  there : VQ s a = true → VQ t a = true
  oth : a ≠ A0 → a ≠ A1 → VQ s a = VQ t a ∧ (VD s a).er = (VD t a).er
  nonce : (VD s a).nonce = (VD t a).nonce
  bal : (VD s a).bal = (VD t a).bal
  slot : (a = A0 → ¬ Jfm key) → Qj (VD s a).er key = Qj (VD t a).er key
theorem XH {a b : Bool} (h : a = b) : Value.bool a = .bool b := congrArg _ h
theorem Jiy : Pure Tryz.prog 36 [].toArray (Js Qm) := by
 refine J5 Tryz.func36 rfl rfl fun w => JT (Jr 7 rfl (W1 (n := 32) (b := 1) rfl rfl rfl rfl rfl rfl rfl rfl rfl m6 m6 fun r1 => LR rfl (QG (b := Qm) (row := some (r1, 32, [])) (e := 5) rfl ⟨rfl, rfl⟩ (fun p hp => .inl nn) rfl rfl rfl) ?_)); exact MY
theorem Jtz {s : StL} (hs : s.In R) (k : BS) : PureR Tryz.prog 15 [s.val, Js k].toArray (.tuple #[(VD s k).val, .bool (VQ s k)]) R := by
 have hl : s.accts.length ≤ 9223372036854775807 := hs.len
 have hseg := hs.seg
 unfold VD VQ
 obtain ⟨res, hres⟩ : ∃ r, r = s.accts.find? fun a => decide (a.addr = k) := ⟨_, rfl⟩
 rw [← hres]; refine Ja Tryz.func15 rfl rfl fun w => Gn fun rs => ?_; refine LN rfl fun r1 => JR 10 rfl (Jw (σ := Nat) (fun i => i ≤ s.accts.length ∧ res = (s.accts.drop i).find? fun a => decide (a.addr = k)) (fun i => [(1, Js k), (2, Value.pointer (some ⟨rs, 0, none⟩)), (4, Value.pointer (some ⟨r1, 0, none⟩)), (6, .int .i64 (i : Int))]) (fun _ => [(r1, .cells ac0L.cells.toArray 34 (0, 0)), (rs, .cells s.cells.toArray 24 (0, 0))]) (fun _ _ _ => True) (fun i => s.accts.length - i) 0 ⟨Nat.zero_le _, hres⟩ (lK rfl) (List.Sublist.refl _) (fun _ _ h => h) ?_); rintro i ⟨hi1, hinv⟩; refine Wt 6 [1] rfl rfl (kL ?_); refine Nw ?_; refine cD (fun g => ?_) fun g => ?_
 refine kF ?_
 obtain ⟨a, ha, hma⟩ := Qz mT
 rw [Yn ha, List.find?_cons] at hinv; refine Wt 4 [1] rfl rfl ?_
 refine Ge ?_; refine QV rfl (LR rfl (Vi rfl rfl) (JR 2 rfl ?_)); refine cD (fun g => ?_) fun g => ?_
 refine Wt 5 [1] rfl rfl ?_
 refine kN ?_; refine Jk (k := 0) (n := 8) (ys := (a).cells) rfl rfl rfl rfl rfl rfl rfl rfl rfl (Jy 9 rfl (ME fun w1 hs1 => ?_)); refine ⟨?_, hs1.keep⟩; rw [show decide (a.addr = k) = true from decide_eq_true m8] at hinv; rw [hinv]; rfl
 refine gU ?_; refine My ?_; rw [show decide (a.addr = k) = false from decide_eq_false m8] at hinv; exact Jo (i + 1) ⟨by omega, hinv⟩ m0 (lK rfl) (List.Sublist.refl _) (fun _ _ h => h)
 ·refine Jr 7 rfl (Ga ?_); refine Jk (k := 0) (n := 8) (ys := (ac0L).cells) rfl rfl rfl rfl rfl rfl rfl rfl rfl (gA ?_); refine ME fun w1 hs1 => ?_; refine ⟨?_, hs1.keep⟩; rw [List.drop_of_length_le m0] at hinv; rw [hinv]; rfl
def Jqb (p : Option BS) (a : AcE) : Bool := p.isNone || Op.bytesLess (p.getD []) a.addr
theorem zX (p : Option BS) (a : AcE) : Vb p a = if a.slots.any Zc = true ∨ a.addr.length ≠ 20 then 2 else if (Jqb p a && QM Prod.fst a.slots) = false then 11 else if a.code.length > 512 ∨ a.slots.length > 16 then 5 else if a.slots.any WW = true then 8 else 0 := by
 by_cases h : a.slots.any Zc = true ∨ a.addr.length ≠ 20
 ·have e : WT a = 2 := by unfold WT; rw [if_pos (h.elim Or.inr Or.inl)]
  rw [if_pos h, Jab (.inl e), e]
 rw [if_neg h]
 have h' : ¬ (a.addr.length ≠ 20 ∨ a.slots.any Zc = true) := fun hh => h (hh.elim Or.inr Or.inl)
 have e : WT a = if QM Prod.fst a.slots = false then 11 else if a.code.length > 512 ∨ a.slots.length > 16 then 5 else if a.slots.any WW = true then 8 else 0 := by unfold WT; rw [if_neg h']
 cases hr : QM Prod.fst a.slots
 ·rw [hr, if_pos rfl] at e
  rw [Bool.and_false, if_pos rfl]
  unfold Vb
  split
  ·rfl
  ·exact e
 rw [hr, if_neg me] at e
 have h2 : WT a ≠ 2 := by
  rw [e]
  split
  ·decide
  ·split <;> decide
 cases p with
 | none =>
  rw [qw, e]
  rfl
 | some b =>
  show Vb (some b) a = if ((false || Op.bytesLess b a.addr) && true) = false then 11 else _
  cases hb : Op.bytesLess b a.addr
  ·rw [Jhe h2 rfl hb]; rfl
  ·rw [Jab (.inr (.inr ⟨b, rfl, hb⟩)), e]; rfl
theorem Jqc {p : α → Bool} {l : List α} {x : α} (h : l[j]? = some x) (hp : p x = true) : l.any p = true := List.any_eq_true.2 ⟨x, List.mem_of_getElem? h, hp⟩
theorem Jqd {p : α → Bool} {l : List α} (h : ∀ (j : Nat) x, l[j]? = some x → p x = false) : l.any p = false := by
 rw [List.any_eq_false]; intro x hx
 obtain ⟨j, hj⟩ := List.getElem?_of_mem hx
 rw [h j x hj]; simp
structure RackI (a : AcL) (rb : Bool) (i : Nat) (rs sp : Bool) : Prop where
  le : i ≤ a.slots.length
  odd : ∀ (j : Nat) x, j < i → a.slots[j]? = some x → Zc x = false
  rs : rs = true ↔ rb = true ∧ ∀ (j : Nat) x y, j + 1 < i → a.slots[j]? = some x → a.slots[j + 1]? = some y → Op.bytesLess x.1 y.1 = true
  sp : sp = true ↔ ∃ (j : Nat) (x : BS × BS), j < i ∧ a.slots[j]? = some x ∧ x.2 = Qm
theorem RackI.zero (a : AcL) (rb : Bool) : RackI a rb 0 rb false := ⟨Nat.zero_le _, fun _ _ h => absurd h (Nat.not_lt_zero _), by simp, by simp⟩
theorem RackI.next {rb : Bool} {sp rs' sp' : Bool} {x : BS × BS} (h : RackI a rb i rs sp) (hx : a.slots[i]? = some x) (ho : x.1.length = 32 ∧ x.2.length = 32)
  (hr : rs' = (rs && (decide (i = 0) || Op.bytesLess ((a.slots[i - 1]?.map Prod.fst).getD []) x.1))) (hp : sp' = (sp || decide (x.2 = Qm))) : RackI a rb (i + 1) rs' sp' := by
 have hlt := (List.getElem?_eq_some_iff.1 hx).1
 refine ⟨hlt, fun j y hj hy => ?_, ?_, ?_⟩
 ·rcases Nat.lt_succ_iff_lt_or_eq.1 hj with hj | rfl
  ·exact h.odd j y hj hy
  ·rw [hx] at hy; cases hy
   unfold Zc; simp [ho.1, ho.2]
 ·rw [hr, Bool.and_eq_true, h.rs, Bool.or_eq_true, decide_eq_true_eq]
  constructor
  ·rintro ⟨⟨h1, h2⟩, h3⟩
   refine ⟨h1, fun j u v hj hu hv => ?_⟩
   rcases Nat.lt_succ_iff_lt_or_eq.1 hj with hj | hj
   ·exact h2 j u v hj hu hv
   ·subst hj
    rw [hx] at hv; cases hv; rw [show j + 1 - 1 = j by omega, hu] at h3; exact h3.resolve_left m0
  ·rintro ⟨h1, h2⟩
   refine ⟨⟨h1, fun j u v hj hu hv => h2 j u v m0 hu hv⟩, ?_⟩
   rcases Nat.eq_zero_or_pos i with h0 | h0
   ·exact .inl h0
   ·obtain ⟨j, rfl⟩ : ∃ j, i = j + 1 := ⟨i - 1, by omega⟩
    obtain ⟨u, hu, -⟩ := Qz (show j < a.slots.length by omega)
    rw [show j + 1 - 1 = j by omega, hu]; exact .inr (h2 j u x m0 hu hx)
 ·rw [hp, Bool.or_eq_true, h.sp, decide_eq_true_eq]
  constructor
  ·rintro (⟨j, u, hj, hu, e⟩ | e)
   ·exact ⟨j, u, by omega, hu, e⟩
   ·exact ⟨i, x, by omega, hx, e⟩
  ·rintro ⟨j, u, hj, hu, e⟩
   rcases Nat.lt_succ_iff_lt_or_eq.1 hj with hj | rfl
   ·exact .inl ⟨j, u, hj, hu, e⟩
   ·rw [hx] at hu; cases hu; exact .inr e
theorem RackI.done {rb : Bool} {sp : Bool} (h : RackI a rb a.slots.length rs sp) : a.slots.any Zc = false ∧ rs = (rb && QM Prod.fst a.slots) ∧ sp = a.slots.any WW := by
 have hlt : ∀ (j : Nat) (x : BS × BS), a.slots[j]? = some x → j < a.slots.length := fun j x hx => (List.getElem?_eq_some_iff.1 hx).1
 refine ⟨Jqd fun j x hx => h.odd j x (hlt j x hx) hx, ?_, ?_⟩
 ·rw [Bool.eq_iff_iff, h.rs, Bool.and_eq_true]
  refine and_congr_right fun _ => ⟨fun hh => ZD fun j x y hx hy => hh j x y (hlt _ _ hy) hx hy, fun hh j x y _ hx hy => ?_⟩
  cases hb : Op.bytesLess x.1 y.1
  ·rw [jG hx hy hb] at hh; cases hh
  ·rfl
 ·rw [Bool.eq_iff_iff, h.sp]
  constructor
  ·rintro ⟨j, x, _, hx, e⟩
   exact Jqc hx (by unfold WW; rw [e]; simp)
  ·intro hh
   obtain ⟨x, hx, e⟩ := List.any_eq_true.1 hh
   obtain ⟨j, hj⟩ := List.getElem?_of_mem hx
   exact ⟨j, x, hlt j x hj, hj, by simpa [WW] using e⟩
theorem Jqe {x : BS × BS} (p : Option BS) (hx : a.slots[j]? = some x) (h : ¬ (x.1.length = 32 ∧ x.2.length = 32)) : Vb p a.er = 2 := by
 rw [zX, if_pos (.inl (Jqc (l := a.er.slots) hx (by unfold Zc; rw [Bool.or_eq_true, decide_eq_true_eq, decide_eq_true_eq]; omega)))]
theorem Jqf {p : Option BS} {sp : Bool} (h : RackI a (Jqb p a.er) a.slots.length rs sp) : Vb p a.er = if (a.addr.length : Int) ≠ 20 then 2 else if rs = false then 11 else if (a.code.length : Int) > 512 ∨ (a.slots.length : Int) > 16 then 5 else if sp = true then 8 else 0 := by
 obtain ⟨h1, h2, h3⟩ := h.done
 rw [zX, h2, h3, show a.er.slots.any Zc = false from h1]; refine ite_congr (propext ⟨fun hh => ?_, fun hh => ?_⟩) (fun _ => rfl) fun _ => ite_congr rfl (fun _ => rfl) fun _ => ite_congr (propext ⟨fun hh => ?_, fun hh => ?_⟩) (fun _ => rfl) fun _ => rfl
 ·have hh : a.addr.length ≠ 20 := hh.elim (fun h => by cases h) id
  omega
 ·exact .inr (show a.addr.length ≠ 20 by omega)
 ·have hh : a.code.length > 512 ∨ a.slots.length > 16 := hh
  omega
 ·show a.code.length > 512 ∨ a.slots.length > 16
  omega
set_option maxHeartbeats 1000000 in
theorem Jt0 (ha : a.In R) (p : Option BS) : PureR Tryz.prog 33 [a.val, .bool p.isNone, Js (p.getD [])].toArray (.int .i64 (Vb p a.er)) R := by
  have hl : a.slots.length ≤ 9223372036854775807 := ha.len
  have hseg := ha.seg
  obtain ⟨rb, hrb⟩ : ∃ b, b = Jqb p a.er := ⟨_, rfl⟩
  have hrb2 : rb = (p.isNone || Op.bytesLess (p.getD []) a.addr) := hrb
  obtain ⟨first, hfirst⟩ : ∃ b, b = p.isNone := ⟨_, rfl⟩
  obtain ⟨last, hlast⟩ : ∃ b, b = p.getD [] := ⟨_, rfl⟩
  rw [← hfirst, ← hlast] at hrb2; rw [← hfirst, ← hlast]; refine Ja Tryz.func33 rfl rfl fun w => gz ?_; refine Hz fun ra => ?_; refine GT ?_
  refine J0 11 rfl (fun gb => ?_) (fun gb => ?_) <;> (try simp only [ZZ] at gb) <;> first | (refine LR rfl (J7 rfl rfl rfl) ?_) | (refine LK rfl ?_)
  all_goals refine LW 2 [0] rfl rfl ?_
  all_goals first | refine LR rfl (Jaa (a := a.addr) (b := last) rfl rfl) ?_ | refine LK rfl ?_
  all_goals refine LW 1 [] rfl rfl ?_
  all_goals first | (refine Jn (XH (show true = rb by rw [hrb2]; simp_all)) ?_) | (refine Jn (XH (show Op.bytesLess last a.addr = rb by rw [hrb2]; simp_all)) ?_)
  all_goals (
   refine Jy 2 rfl (Za 13 rfl ?_); refine Jw (σ := Nat × Bool × Bool) (fun q => RackI a rb q.1 q.2.1 q.2.2) (fun q => [(3, Value.pointer (some ⟨ra, 0, none⟩)), (7, .bool q.2.1), (8, .bool q.2.2), (9, .int .i64 (q.1 : Int))]) (fun _ => [(ra, .cells a.cells.toArray 34 (0, 0))]) (fun _ _ _ => True) (fun q => a.slots.length - q.1) (0, rb, false) (RackI.zero a rb) (lK rfl) (List.Sublist.refl _) (fun _ _ h => h) ?_; rintro ⟨i, rs, sp⟩ hinv; simp only at hinv; change HC _ _ [(3, _), (7, .bool rs), (8, .bool sp), (9, .int .i64 (i : Int))] _ _ _ _; refine Wt 6 [0] rfl rfl (kL ?_); refine Nw ?_; refine cD (fun g => ?_) fun g => ?_
   · refine Nd ?_
     obtain ⟨x, hx, hmx⟩ := Qz Mi
     refine gw ?_
     refine J0 32 rfl (fun gb => ?_) (fun gb => ?_) <;> (try simp only [ZZ] at gb) <;> first | (refine LR rfl (J7 rfl rfl rfl) ?_) | (refine LK rfl ?_)
     all_goals refine NJ ?_
     all_goals (
      refine Ni ?_; refine JA rfl (fun g => ?_) (fun g => ?_)
      try simp only [ZZ] at g
      refine HG fun w1 hs1 => ?_; rw [Jqe p hx m0]; rfl
      · try exact Bool.noConfusion g
        all_goals try simp only [ZZ] at g
        all_goals (
         refine Gt ?_
         have hxo : x.1.length = 32 ∧ x.2.length = 32 := by omega
         obtain ⟨nv, hnv⟩ : ∃ b, b = decide (x.2 = Qm) := ⟨_, rfl⟩
         refine JI 22 m5 m5 (N8 ?_)
         refine Y2 43 rfl (fun gb => ?_) (fun gb => ?_) <;> (try simp only [ZZ] at gb) <;> first | (refine Jb rfl rfl rfl (Je rfl) ?_) | (refine J9 rfl rfl rfl ?_)
         all_goals first | (refine Jb rfl rfl rfl (J1 rfl rfl rfl) ?_; refine Qe (XH (show _ = decide (i = 0) from by rw [Bool.eq_iff_iff]; simp)) ?_) | refine J9 rfl rfl rfl ?_
         all_goals refine Ha ?_
         all_goals first | refine J9 rfl rfl rfl ?_ | (refine Y2 46 rfl (fun gb => ?_) (fun gb => ?_) <;> (try simp only [ZZ] at gb) <;> first | (refine Jb rfl rfl rfl (J7 rfl rfl rfl) ?_) | (refine J9 rfl rfl rfl ?_))
         all_goals refine kJ ?_
         all_goals refine ND ?_
         all_goals first | (refine Jb rfl rfl rfl (JD (off' := Xd a.p + (i * 2 + 0)) rfl rfl M6) ?_) | refine J9 rfl rfl rfl ?_
         all_goals first | refine Jb rfl rfl rfl (Qo JN (k := 0) (v := Js x.1) oR rfl hseg hx rfl rfl) ?_ | refine J9 rfl rfl rfl ?_
         all_goals refine kp ?_
         all_goals refine kJ ?_
         all_goals refine Ha ?_
         all_goals first | (refine Jb rfl rfl rfl (J1 rfl rfl rfl) ?_; refine VS m0 m0 ?_) | refine J9 rfl rfl rfl ?_
         all_goals first | (obtain ⟨y, hy, hmy⟩ := Qz (show i - 1 < a.slots.length by omega); refine Jb rfl rfl rfl (Jf (j := (i - 1)) rfl hseg rfl rfl rfl mc m0) ?_) | refine J9 rfl rfl rfl ?_
         all_goals first | (refine Jb rfl rfl rfl (JD (off' := Xd a.p + ((i - 1) * 2 + 0)) rfl rfl (by show Xd a.p + (i - 1) * 2 + 0 = _; omega)) ?_) | refine J9 rfl rfl rfl ?_
         all_goals first | refine Jb rfl rfl rfl (Qo JN (k := 0) (v := Js y.1) oR rfl hseg hy rfl rfl) ?_ | refine J9 rfl rfl rfl ?_
         all_goals first | (refine Jb rfl rfl rfl (Jaa (a := x.1) (b := y.1) rfl rfl) ?_; refine Qe (XH (show Op.bytesLess y.1 x.1 = Op.bytesLess ((a.slots[i - 1]?.map Prod.fst).getD []) x.1 by rw [hy]; rfl)) ?_) | refine J9 rfl rfl rfl ?_
         all_goals first | refine Jb rfl rfl rfl (Xe rfl rfl) ?_ | refine Jb rfl rfl rfl (Xf rfl rfl) ?_ | refine J9 rfl rfl rfl ?_
         all_goals refine Nt ?_
         all_goals (
          refine Jb rfl rfl rfl (JH rfl) (JY (Jy 1 rfl (Za 1 rfl ?_))); refine JI 12 m5 m5 (N8 ?_)
          refine Y2 64 rfl (fun gb => ?_) (fun gb => ?_) <;> (try simp only [ZZ] at gb) <;> first | (refine Jb rfl rfl rfl (J7 rfl rfl rfl) ?_) | (refine J9 rfl rfl rfl ?_)
          all_goals refine kJ ?_
          all_goals refine ND ?_
          all_goals first | (refine Jb rfl rfl rfl (JD (off' := Xd a.p + (i * 2 + 1)) rfl rfl nG) ?_) | refine J9 rfl rfl rfl ?_
          all_goals first | refine Jb rfl rfl rfl (Qo JN (k := 1) (v := Js x.2) oR rfl hseg hx rfl rfl) ?_ | refine J9 rfl rfl rfl ?_
          all_goals first | (refine Qd rfl rfl rfl (enters_of Tryz.func36 m5 rfl) Jiy ?_) | refine J9 rfl rfl rfl ?_
          all_goals first | (refine Jb rfl rfl rfl (Vi (a := x.2) (b := Qm) rfl rfl) ?_; refine Qe (XH hnv.symm) ?_) | refine J9 rfl rfl rfl ?_
          all_goals refine Nt ?_
          all_goals (
           refine Jb rfl rfl rfl (JH rfl) (JY (Jy 1 rfl (gqo 5 rfl ?_))); refine My ?_; refine Jo (i + 1, _, _) (RackI.next hinv hx hxo ?_ ?_) ml (lK rfl) (List.Sublist.refl _) (fun _ _ h => h)
           simp_all
           simp_all
           skip)
          skip)
         skip)
      skip)
   · refine JS 7 rfl ?_
     obtain rfl : i = a.slots.length := by have := hinv.le; omega
     have hE := Jqf (p := p) (hrb ▸ hinv)
     refine Wt 3 [0] rfl rfl (g6 ?_); refine Nw ?_; refine cD (fun g => ?_) fun g => ?_
     refine NW fun w1 hs1 => ?_; rw [hE, if_pos m0]; rfl
     · refine JS 9 rfl (cD (fun g => ?_) fun g => ?_)
       refine NW fun w1 hs1 => ?_; rw [hE, if_neg m0, if_pos m8]; rfl
       · refine Wt 7 [0] rfl rfl (Np ?_)
         refine J0 84 rfl (fun gb => ?_) (fun gb => ?_) <;> (try simp only [ZZ] at gb) <;> first | (refine LR rfl (J7 rfl rfl rfl) ?_) | (refine LK rfl ?_)
         all_goals refine NU ?_
         all_goals refine G9 ?_
         all_goals (
          refine Ni ?_; refine JA rfl (fun g => ?_) (fun g => ?_)
          try simp only [ZZ] at g
          refine NW fun w1 hs1 => ?_; rw [hE, if_neg m0, if_neg my, if_pos m0]; rfl
          · try exact Bool.noConfusion g
            all_goals try simp only [ZZ] at g
            all_goals (
             refine JS 8 rfl (cD (fun g => ?_) fun g => ?_)
             refine NW fun w1 hs1 => ?_; rw [hE, if_neg m0, if_neg my, if_neg m0, if_pos m8]; rfl
             refine G1 fun w1 hs1 => ?_; rw [hE, if_neg m0, if_neg my, if_neg m0, if_neg my]; rfl
             skip)
          skip)
   skip)
theorem Jkt {s : StL} (hi : i ≤ s.accts.length) : ((i : Int) == 0) = (WL s.er i).isNone := by
 cases i with
 | zero => rfl
 | succ j =>
  obtain ⟨a, ha, -⟩ := Qz (show j < s.accts.length by omega)
  rw [Jac ha rfl]; exact Jzc m0
theorem yI {s : StL} (hs : s.In R) : PureR Tryz.prog 13 [s.val].toArray (.int .i64 (KP s.er)) R := by
 have hl : s.accts.length ≤ 9223372036854775807 := hs.len
 have hseg := hs.seg
 obtain ⟨hc5, hcg⟩ := Jhf s
 refine Ja Tryz.func13 rfl rfl fun w => Gn fun rs => ?_; refine XN 8 [0] rfl rfl (kL ?_); refine Nw ?_; refine cD (fun g => ?_) fun g => ?_
 refine NW fun w1 hs1 => ?_; rw [hc5 m8]; rfl
 ·refine JS 14 rfl (Jw (σ := Nat) (fun i => i ≤ s.accts.length ∧ goS (WL s.er i) (s.er.drop i) = goS none s.er) (fun i => [(1, Value.pointer (some ⟨rs, 0, none⟩)), (3, Js ((WL s.er i).getD [])), (4, .int .i64 (i : Int))]) (fun _ => [(rs, .cells s.cells.toArray 24 (0, 0))]) (fun _ _ _ => True) (fun i => s.accts.length - i) 0 ⟨Nat.zero_le _, rfl⟩ (lK rfl) (List.Sublist.refl _) (fun _ _ h => h) ?_); rintro i ⟨hi1, hinv⟩; refine Wt 6 [0] rfl rfl (kL ?_); refine Nw ?_; refine cD (fun g => ?_) fun g => ?_
  refine kF ?_
  obtain ⟨a, ha, hma⟩ := Qz mT
  rw [Jhd (Wd ha)] at hinv; refine Hc ?_
  refine kN ?_; refine ko ?_; refine Jn (XH (Jkt hi1)) (QV rfl (Jc rfl rfl rfl (enters_of Tryz.func33 m5 rfl) (Jt0 (hs.accts a hma) (WL s.er i)) oR (JR 10 rfl ?_))); refine cD (fun g => ?_) fun g => ?_
  refine KS 13 rfl ?_; exact Gi
  refine Wt 6 [0] rfl rfl ?_
  refine Ge ?_; refine GT ?_; refine My ?_; exact Jo (i + 1) ⟨by omega, by rw [if_neg my] at hinv; exact hinv⟩ m0 (.cons rfl (.cons (by rw [Jac ha rfl]; rfl) (.cons rfl .nil))) (List.Sublist.refl _) (fun _ _ h => h)
  ·exact HN
theorem yJ {s t : StL} : s.er = t.er ↔ s.accts.length = t.accts.length ∧ ∀ (i : Nat) a b, s.accts[i]? = some a → t.accts[i]? = some b → a.er = b.er := by
 constructor
 ·intro h
  refine ⟨by have := congrArg List.length h; rwa [s.er_len, t.er_len] at this, fun i a b ha hb => ?_⟩
  exact H7
 ·rintro ⟨h1, h2⟩
  apply List.ext_getElem?
  intro i
  by_cases hi : i < s.accts.length
  ·obtain ⟨a, ha, _⟩ := Qz hi
   obtain ⟨b, hb, _⟩ := Qz nV
   rw [Wd ha, Wd hb, h2 i a b ha hb]
  ·rw [List.getElem?_eq_none M2, List.getElem?_eq_none (by rw [t.er_len]; omega)]
theorem Jt1 {s t : StL} (hs : s.In R) (ht : t.In R) : PureR Tryz.prog 18 [s.val, t.val].toArray (.bool (decide (s.er = t.er))) R := by
 have hl : s.accts.length ≤ 9223372036854775807 := hs.len
 have hl2 : t.accts.length ≤ 9223372036854775807 := ht.len
 have h1 := hs.seg
 have h2 := ht.seg
 refine Ja Tryz.func18 rfl rfl fun w => Gn fun rs => ?_; refine KO (cs := t.cells.toArray) rfl rfl rfl rfl fun rt => XN 8 [1] rfl rfl (LR rfl (Ju rfl h1 rfl) ?_)
 refine LS 2 [0] rfl rfl (LR rfl (Ju rfl h2 rfl) (Nw ?_)); refine cD (fun g => ?_) fun g => ?_
 refine NW fun w1 hs1 => ?_; rw [decide_eq_false (show ¬ s.er = t.er from fun e => by have := (yJ.1 e).1; omega)]; rfl
 ·refine JS 9 rfl ?_
  have hll : s.accts.length = t.accts.length := by omega
  refine Jw (σ := Nat) (fun i => i ≤ s.accts.length ∧ ∀ q, q < i → ∀ a b, s.accts[q]? = some a → t.accts[q]? = some b → a.er = b.er) (fun i => [(2, Value.pointer (some ⟨rs, 0, none⟩)), (3, Value.pointer (some ⟨rt, 0, none⟩)), (5, .int .i64 (i : Int))]) (fun _ => [(rt, .cells t.cells.toArray 24 (0, 0)), (rs, .cells s.cells.toArray 24 (0, 0))]) (fun _ _ _ => True) (fun i => s.accts.length - i) 0 ⟨by omega, fun j hj => absurd hj m0⟩ (lK rfl) (List.Sublist.refl _) (fun _ _ h => h) ?_; rintro i ⟨hi1, hinv⟩; refine Wt 6 [1] rfl rfl (LR rfl (Ju rfl h1 rfl) (Nw ?_)); refine cD (fun g => ?_) fun g => ?_
  refine kF ?_
  obtain ⟨x, hx, hmx⟩ := Qz mT
  obtain ⟨y, hy, hmy⟩ := Qz nV
  refine JI 12 m5 m5 ?_
  refine GA ?_; refine Jb rfl rfl rfl (Kc AcL.len oR rfl h1 hx rfl rfl) ?_
  refine N4 ?_; refine Mx ?_
  refine Jb rfl rfl rfl (Jf (j := i) rfl h2 rfl rfl rfl mc m0) (Jb rfl rfl rfl (Kc AcL.len oR rfl h2 hy rfl rfl) (Xy rfl rfl rfl Jr5 (YI (hs.accts x hmx) (ht.accts y hmy)) oR (Mz ?_))); refine D4 ?_; refine cD (fun g => ?_) fun g => ?_
  refine Nm fun w1 hs1 => ?_; rw [decide_eq_false (show ¬ s.er = t.er from fun e => by have := (yJ.1 e).2 i x y hx hy; simp_all)]; rfl
  refine gU ?_; refine My ?_
  exact Jo (i + 1) ⟨by omega, fun q hq u v hu hv => by
   rcases Nat.lt_succ_iff_lt_or_eq.1 hq with hq | rfl
   exact hinv q hq u v hu hv
   rw [hx] at hu; rw [hy] at hv; cases hu; cases hv; simp_all⟩ m0 (lK rfl) (List.Sublist.refl _) (fun _ _ h => h)
  ·refine Nm fun w1 hs1 => ?_; rw [decide_eq_true (yJ.2 ⟨hll, fun q a b ha hb => hinv q (by have := (List.getElem?_eq_some_iff.1 ha).1; omega) a b ha hb⟩)]; rfl
theorem chk_one (e : AcE) : KP [e] = WT e := by
 unfold KP goS
 rw [if_neg (by show ¬ 1 > 32; decide), qw]
 split
 ·rfl
 ·rename_i h
  rw [goS]; exact (Decidable.not_not.1 h).symm
structure OutI {α : Type} (f : α → List Value) (sz : Nat) (acc : List α) (n : Nat) (xs : List Value) (row : Vk) : Prop where
  num : n = acc.length
  cells : xs = acc.flatMap f
  ok : rowOk sz n xs row
theorem OutI.nil : OutI f sz [] 0 [] none := ⟨rfl, rfl, rfl, rfl⟩
theorem OutI.snoc  {n : Nat} {acc : List α} {xs : List Value} {row' : Vk} (h : OutI f sz acc n xs row) {x : α} (h' : rowOk sz (n + 1) (xs ++ f x) row') : OutI f sz (acc ++ [x]) (n + 1) (xs ++ f x) row' :=
 ⟨by rw [List.length_append, h.num]; rfl, by rw [List.flatMap_append, h.cells]; simp, h'⟩
theorem ji {x y : α} {p : Bool} : Va kf x p (y :: ys) = (if !p && !Op.bytesLess (kf y) (kf x) then [x] else []) ++ (if kf y = kf x then [] else [y]) ++ Va kf x (p || !Op.bytesLess (kf y) (kf x)) ys := rfl
theorem YJ {x : α} {res acc t : List α} {pt b : Bool} (h : res = acc ++ ((if (!pt && !b) = true then [x] else []) ++ t ++ Va kf x (pt || !b) ys)) :
  (pt = false → b = false → res = (acc ++ [x]) ++ (t ++ Va kf x true ys)) ∧ (pt = true ∨ b = true → res = acc ++ (t ++ Va kf x pt ys)) := by
 rw [h]; refine ⟨fun h1 h2 => ?_, fun h1 => ?_⟩
 ·subst h1 h2; simp
 ·rcases h1 with h1 | h1 <;> subst h1 <;> simp
theorem Jt2 {l : List (BS × BS)} {p : Pl} (hl : l.length ≤ 1000) (hs : Seg R l.length (l.flatMap Qn) p) (x : BS × BS) :
    PureT (α := { row : Vk // rowOk 2 (Va Prod.fst x (decide (x.2 = Qm)) l).length ((Va Prod.fst x (decide (x.2 = Qm)) l).flatMap Qn) row }) Tryz.prog 51 [KB l.length p, Jze x].toArray (fun y => Jx (Va Prod.fst x (decide (x.2 = Qm)) l).length y.1) [] (fun y => JJ 59 ((Va Prod.fst x (decide (x.2 = Qm)) l).flatMap Qn) y.1) R := by
  obtain ⟨p0, hp0⟩ : ∃ b, b = decide (x.2 = Qm) := ⟨_, rfl⟩
  rw [← hp0]
  obtain ⟨res, hres⟩ : ∃ r, r = Va Prod.fst x p0 l := ⟨_, rfl⟩
  rw [← hres]; refine J4 Tryz.func51 rfl rfl fun w => gz ?_; refine KO (cs := (Qn x).toArray) rfl rfl rfl rfl fun rx => He ?_; refine JI 5 m5 m5 ?_
  refine N4 ?_; refine Qd rfl rfl rfl (enters_of Tryz.func36 m5 rfl) Jiy (Jb rfl rfl rfl (Vi (a := x.2) (b := Qm) rfl rfl) (Qe (XH hp0.symm) (Nz ?_))); refine He ?_; refine Jw (σ := Nat × Bool × List (BS × BS) × Nat × List Value × Vk) (fun q => q.1 ≤ l.length ∧ res = q.2.2.1 ++ Va Prod.fst x q.2.1 (l.drop q.1) ∧ OutI Qn 2 q.2.2.1 q.2.2.2.1 q.2.2.2.2.1 q.2.2.2.2.2 ∧ q.2.2.2.1 ≤ 2 * q.1) (fun q => [(0, KB l.length p), (3, Value.pointer (some ⟨rx, 0, none⟩)), (5, Jx q.2.2.2.1 q.2.2.2.2.2), (6, .bool q.2.1), (7, .int .i64 (q.1 : Int))]) (fun q => (rx, .cells (Qn x).toArray 59 (0, 0)) :: JJ 59 q.2.2.2.2.1 q.2.2.2.2.2) (fun _ _ _ => True) (fun q => l.length - q.1) (0, p0, [], 0, [], none) ⟨Nat.zero_le _, hres, OutI.nil, Nat.zero_le _⟩ (lK rfl) (List.Sublist.refl _) (fun _ _ h => h) ?_; rintro ⟨i, pt, acc, n, xs, row⟩ ⟨hi1, hinv, ho, hn2⟩; simp only at hi1 hinv ho hn2; change HC _ _ [(0, _), (3, _), (5, Jx n row), (6, .bool pt), (7, .int .i64 (i : Int))] ((rx, _) :: JJ _ xs row) _ _ _; refine G4 ?_; refine MV ?_; refine Nw ?_; refine cD (fun g => ?_) fun g => ?_
  · refine Nd ?_
    obtain ⟨y, hy, hmy⟩ := Qz (show i < l.length by omega)
    rw [Yn hy, ji] at hinv
    have hno := ho.num
    refine JI 12 m5 m5 (NZ ?_); refine Mx ?_
    refine Y2 20 rfl (fun gb => ?_) (fun gb => ?_) <;> (try simp only [ZZ] at gb) <;> first | (refine Jb rfl rfl rfl (Je rfl) ?_) | (refine J9 rfl rfl rfl ?_)
    all_goals refine Ha ?_
    all_goals first | (refine Jb rfl rfl rfl (Jf (j := i) rfl hs rfl rfl rfl mc m0) ?_) | refine J9 rfl rfl rfl ?_
    all_goals first | (refine Jb rfl rfl rfl (JD (off' := Xd p + (i * 2 + 0)) rfl rfl Md) ?_) | refine J9 rfl rfl rfl ?_
    all_goals first | refine Jb rfl rfl rfl (Qo JN (k := 0) (v := Js y.1) oR rfl hs hy rfl rfl) ?_ | refine J9 rfl rfl rfl ?_
    all_goals refine kp ?_
    all_goals refine kJ ?_
    all_goals first | refine Jb rfl rfl rfl (vK (a := y.1) (b := x.1) rfl rfl) ?_ | refine J9 rfl rfl rfl ?_
    all_goals refine Nt ?_
    all_goals (
     refine JY (Jy 1 rfl (Za 1 rfl ?_)); refine JA rfl (fun g => ?_) (fun g => ?_)
     · try exact Bool.noConfusion g
       all_goals try simp only [ZZ] at g
       all_goals (
        refine G3 ?_; refine Gb fun rv => ?_; refine JF (L0 := [_, _]) (xs := xs) (row := row) (n := n) (sz := 2) (b := 32) (news := Qn x) (List.perm_append_comm (l₁ := [_, _])) rfl rfl rfl rfl (kn 0 rfl) rfl rfl rfl rfl rfl m6 rfl rfl rfl m6 ho.ok m0 m0 fun ra cap sp hra => Nw ?_; refine Wp [2, 0] (L' := [_, _]) m6 rfl ?_
        obtain ⟨pt2, hpt2⟩ : ∃ b, b = true := ⟨_, rfl⟩
        refine N6 ?_; refine Jn (congrArg Value.bool hpt2.symm) (Nw ?_)
        (have ho1 := ho.snoc hra
         have hinv1 := (YJ hinv).1 m8 m8
         have hn1 : n + 1 ≤ 2 * i + 1 := by omega
         change HC _ _ ((6, .bool pt2) :: (5, Jx (n + 1) (some (ra, cap, sp))) :: _) ((rx, _) :: JJ 59 (xs ++ Qn x) (some (ra, cap, sp))) _ _ _; clear hinv ho hno hra hn2
         generalize acc ++ [x] = acc at ho1 hinv1
         generalize n + 1 = n at ho1 hn1 ⊢
         generalize xs ++ Qn x = xs at ho1 ⊢
         generalize (some (ra, cap, sp) : Vk) = row at ho1 ⊢
         rw [← hpt2] at hinv1; clear hpt2
         obtain ⟨pt, rfl⟩ : ∃ b, b = pt2 := ⟨pt2, rfl⟩)
        have ho := ho1
        have hno := ho.num
        refine HX ?_; refine D4 ?_; refine cD (fun g => ?_) fun g => ?_
        refine gD ?_
        refine NM ?_; refine LR rfl (Kc JN oR rfl hs hy rfl rfl) (gs fun rv => ?_); refine JF (L0 := [_, _]) (xs := xs) (row := row) (n := n) (sz := 2) (b := 32) (news := Qn y) (List.perm_append_comm (l₁ := [_, _])) rfl rfl rfl rfl (kn 0 rfl) rfl rfl rfl rfl rfl m6 rfl rfl rfl m6 ho.ok m0 m0 fun ra cap sp hra => GT ?_; refine My ?_
        (refine QE [2, 0] (L' := [_, _]) m6 rfl ?_
         exact Jo (i + 1, pt, acc ++ [y], n + 1, xs ++ Qn y, some (ra, cap, sp)) ⟨by simp only; omega, by rw [hinv1, if_neg m8]; simp, ho.snoc hra, by simp only; omega⟩ ml (lK rfl) (List.Sublist.refl _) (fun _ _ h => h))
        exact MS
        skip)
     try simp only [ZZ] at g
     refine Gt ?_
     (have ho1 := ho
      have hinv1 := (YJ hinv).2 nW
      have hn1 : n ≤ 2 * i + 1 := by omega
      clear hinv ho hno hn2)
     have ho := ho1
     have hno := ho.num
     refine HX ?_; refine D4 ?_; refine cD (fun g => ?_) fun g => ?_
     refine gD ?_
     refine NM ?_; refine LR rfl (Kc JN oR rfl hs hy rfl rfl) (gs fun rv => ?_); refine JF (L0 := [_, _]) (xs := xs) (row := row) (n := n) (sz := 2) (b := 32) (news := Qn y) (List.perm_append_comm (l₁ := [_, _])) rfl rfl rfl rfl (kn 0 rfl) rfl rfl rfl rfl rfl m6 rfl rfl rfl m6 ho.ok m0 m0 fun ra cap sp hra => GT ?_; refine My ?_
     (refine QE [2, 0] (L' := [_, _]) m6 rfl ?_
      exact Jo (i + 1, pt, acc ++ [y], n + 1, xs ++ Qn y, some (ra, cap, sp)) ⟨by simp only; omega, by rw [hinv1, if_neg m8]; simp, ho.snoc hra, by simp only; omega⟩ ml (lK rfl) (List.Sublist.refl _) (fun _ _ h => h))
     exact MS
     skip)
  · refine JS 7 rfl ?_
    obtain rfl : i = l.length := by omega
    rw [List.drop_length, Va] at hinv
    have hno := ho.num
    refine kF ?_; refine cD (fun g => ?_) fun g => ?_
    refine N6 ?_; refine Gb fun rv => ?_; refine JF (L0 := [_, _]) (xs := xs) (row := row) (n := n) (sz := 2) (b := 32) (news := Qn x) (List.perm_append_comm (l₁ := [_, _])) rfl rfl rfl rfl (kn 0 rfl) rfl rfl rfl rfl rfl m6 rfl rfl rfl m6 ho.ok m0 m0 fun ra cap sp hra => Jy 10 rfl (N2 fun w1 hs1 => ?_)
    (have hr : res = acc ++ [x] := by rw [hinv]; simp_all
     have ho1 := ho.snoc hra
     rw [← hr] at ho1
     obtain ⟨e1, e2, e3⟩ := ho1
     rw [← e1, ← e2]
     exact ⟨⟨some (ra, cap, sp), e3⟩, rfl, hs1.weakL (.cons_cons _ (List.nil_sublist _))⟩)
    · refine KS 9 rfl (N2 fun w1 hs1 => ?_)
      (have hr : res = acc := by rw [hinv]; simp_all
       rw [← hr] at ho
       obtain ⟨e1, e2, e3⟩ := ho
       rw [← e1, ← e2]
       exact ⟨⟨row, e3⟩, rfl, hs1.weakL (.cons _ (List.Sublist.refl _))⟩)
theorem qI {α : Type} {kf : α → BS} {x z : α} : ∀ {p : Bool} {l : List α}, z ∈ Va kf x p l → z = x ∨ z ∈ l
 | p, [], h => by
  rw [Va] at h
  split at h
  ·cases h
  ·exact .inl (List.mem_singleton.1 h)
 | p, y :: ys, h => by
  rw [ji] at h
  rcases List.mem_append.1 h with h | h
  ·rcases List.mem_append.1 h with h | h
   ·split at h
    ·exact .inl (List.mem_singleton.1 h)
    ·cases h
   ·split at h
    ·cases h
    ·rw [List.mem_singleton.1 h]; exact .inr List.mem_cons_self
  ·exact (qI h).imp id (List.mem_cons_of_mem _)
theorem one_seg : Seg [(r, .cells a.cells.toArray 34 (0, 0))] [a].length ([a].flatMap AcL.cells) (some (⟨r, 0, none⟩, 1)) := by
 have h := KC (row := some (r, 1, [])) (sz := 8) (n := 1) (e := 34) (cs := a.cells) ⟨rfl, rfl⟩ m6
 simpa [JJ, QN] using h
theorem Jqg (ha : a.In R) (r : Nat) : StL.In ((r, .cells a.cells.toArray 34 (0, 0)) :: R) ⟨[a], some (⟨r, 0, none⟩, 1)⟩ :=
 ⟨by show 1 ≤ _; decide, one_seg.mono fun q hq => by rw [List.mem_singleton.1 hq]; exact List.mem_cons_self, fun x hx => by rw [List.mem_singleton.1 hx]; exact ha.mono fun q hq => List.mem_cons_of_mem _ hq⟩
set_option maxHeartbeats 1000000 in
theorem Jqh {s : StL} (hs : s.In R) (ha : a.In R) : PureT (α := StRes R (Jfg s.er a.er)) Tryz.prog 24 [s.val, a.val].toArray (fun x => x.val) [] (fun x => x.L) R := by
  have hl := hs.len
  have hseg := hs.seg
  have hc := yI hs
  have hput : Jfg s.er a.er = if KP s.er ≠ 0 then (s.er, KP s.er) else if WT a.er ≠ 0 then (s.er, WT a.er) else if (Qf AcE.addr a.er s.er).length > 32 then (s.er, 5) else (Qf AcE.addr a.er s.er, 0) := rfl
  obtain ⟨res, hres⟩ : ∃ r, r = Va AcL.addr a false s.accts := ⟨_, rfl⟩
  have hset : KP s.er = 0 → (Qf AcE.addr a.er s.er) = res.map AcL.er ∧ s.accts.length ≤ 32 ∧ (Qf AcE.addr a.er s.er).length = s.accts.length + (if VQ s a.addr then 0 else 1) := fun h => by
    have h' := wz.1 h
    have h2 : Ku AcL.addr s.accts := (zw s).2 h'.2.2
    refine ⟨?_, by rw [← s.er_len]; exact h'.1, ?_⟩
    rw [hres, qv h2, Jad]; rfl
    rw [xU h'.2.2, s.er_len, Jcx]
    by_cases hf : (V2 s.er a.addr).isSome = true
    rw [if_pos hf, if_pos (show (V1 AcE.addr a.er.addr s.er).isSome = true from hf)]; rfl
    rw [if_neg hf, if_neg (show ¬ (V1 AcE.addr a.er.addr s.er).isSome = true from hf)]
  refine J4 Tryz.func24 rfl rfl fun w => Gn fun rs => ?_; refine Hz fun ra => ?_; refine LN rfl fun r1 => N5 ?_; refine LR rfl (Jg (xs := s.cells) (n := 1) rfl (kn 2 rfl) rfl rfl rfl) (Jc rfl rfl rfl Jvy hc oR (JR 10 rfl (cD (fun g => ?_) fun g => ?_)))
  refine N6 ?_; refine LR rfl (Jg (xs := s.cells) (n := 1) rfl (kn 2 rfl) rfl rfl rfl) (QV rfl (Jk (k := 0) (n := 1) (ys := s.cells) rfl rfl rfl rfl rfl rfl rfl rfl rfl (Jy 5 rfl ?_))); exact gP
  · refine gD ?_; refine N3 fun rv => ?_; refine cD (fun g => ?_) fun g => ?_
    refine N6 ?_; refine LR rfl (Jg (xs := s.cells) (n := 1) rfl (kn 3 rfl) rfl rfl rfl) (QV rfl (Jk (k := 1) (n := 1) (ys := s.cells) rfl rfl rfl rfl rfl rfl rfl rfl rfl (Jy 5 rfl ?_))); refine Jj rfl rfl (.cons (Jt (vs := [_]) rfl (kn 1 rfl) rfl rfl) (.cons (Jp rfl) .nil)) (fun w1 hs1 => ?_); exact Gp
    · refine Gt ?_
      have hok := hset m0
      refine Hf ?_; refine LR rfl (Jg (xs := s.cells) (n := 1) rfl (kn 3 rfl) rfl rfl rfl) ?_
      refine LS 2 [2] rfl rfl (Jc rfl rfl rfl (enters_of Tryz.func15 m5 rfl) (Jtz hs a.addr) oR (kz ?_)); refine LN rfl fun r2 => Jk (k := 0) (n := 8) (ys := ((VD s a.addr)).cells) rfl rfl rfl rfl rfl rfl rfl rfl rfl (JM 9 rfl ?_)
      refine J0 36 rfl (fun gb => ?_) (fun gb => ?_) <;> (try simp only [ZZ] at gb) <;> first | (refine LR rfl (J7 rfl rfl rfl) ?_) | (refine LK rfl ?_)
      all_goals first | refine LR rfl (Jd (v := KB s.accts.length s.p) rfl (kn 4 rfl) rfl rfl) ?_ | refine LK rfl ?_
      all_goals refine G9 ?_
      all_goals (
       refine Ni ?_; refine JA rfl (fun g => ?_) (fun g => ?_)
       · try exact Bool.noConfusion g
         all_goals try simp only [ZZ] at g
         all_goals (
          refine N6 ?_; refine LR rfl (Jg (xs := s.cells) (n := 1) rfl (kn 4 rfl) rfl rfl rfl) (Jk (k := 2) (n := 1) (ys := s.cells) rfl rfl rfl rfl rfl rfl rfl rfl rfl (kj ?_)); refine GD fun w1 hs1 => ?_; rw [hput, if_neg m0, if_neg m0, if_pos (by rw [hok.2.2, if_neg my]; omega)]; exact Hp
          skip)
       · try simp only [ZZ] at g
         refine Gt ?_
         have hroom : (Qf AcE.addr a.er s.er).length ≤ 32 := by
           rw [hok.2.2]
           have := hok.2.1
           first
           | (rw [if_pos m8]; omega)
           | (rw [if_neg my]; omega)
         refine Hf ?_; refine gg ?_; refine LN rfl fun r3 => ?_
         refine Ng ?_; refine JR 14 rfl (Wp [0, 5, 4, 3] (L' := [_, _, _, _]) m6 rfl (Jw (σ := Nat × Bool × List AcL × Nat × List Value × Vk) (fun q => q.1 ≤ s.accts.length ∧ res = q.2.2.1 ++ Va AcL.addr a q.2.1 (s.accts.drop q.1) ∧ OutI AcL.cells 8 q.2.2.1 q.2.2.2.1 q.2.2.2.2.1 q.2.2.2.2.2 ∧ q.2.2.2.1 ≤ 2 * q.1) (fun q => [(2, Value.pointer (some ⟨rs, 0, none⟩)), (3, Value.pointer (some ⟨ra, 0, none⟩)), (4, Value.pointer (some ⟨r1, 0, none⟩)), (5, .int .i64 0), (10, Value.pointer (some ⟨r3, 0, none⟩)), (11, .bool q.2.1), (12, .int .i64 (q.1 : Int))]) (fun q => (r3, .cells #[Jx q.2.2.2.1 q.2.2.2.2.2] 24 (0, 0)) :: (rs, .cells s.cells.toArray 24 (0, 0)) :: (ra, .cells a.cells.toArray 34 (0, 0)) :: (r1, .cells st0L.cells.toArray 24 (0, 0)) :: JJ 34 q.2.2.2.2.1 q.2.2.2.2.2) (fun _ _ _ => True) (fun q => s.accts.length - q.1) (0, false, [], 0, [], none) ⟨Nat.zero_le _, hres, OutI.nil, Nat.zero_le _⟩ (lK rfl) (List.Sublist.refl _) (fun _ _ h => h) ?_)); rintro ⟨i, pt, acc, n, xs, row⟩ ⟨hi1, hinv, ho, hn2⟩; simp only at hi1 hinv ho hn2; change HC _ _ [(2, _), (3, _), (4, _), (5, _), (10, _), (11, .bool pt), (12, .int .i64 (i : Int))] ((r3, .cells #[Jx n row] _ _) :: (rs, _) :: (ra, _) :: (r1, _) :: JJ _ xs row) _ _ _; refine G4 ?_; refine LR rfl (Jd (v := KB s.accts.length s.p) rfl (kn 1 rfl) rfl rfl) (kL ?_); refine Nw ?_; refine cD (fun g => ?_) fun g => ?_
         · refine Nd ?_
           obtain ⟨y, hy, hmy⟩ := Qz mT
           rw [Yn hy, ji] at hinv
           have hno := ho.num
           refine JI 13 m5 m5 (NZ ?_); refine Mx ?_
           refine Y2 53 rfl (fun gb => ?_) (fun gb => ?_) <;> (try simp only [ZZ] at gb) <;> first | (refine Jb rfl rfl rfl (J7 rfl rfl rfl) ?_) | (refine J9 rfl rfl rfl ?_)
           all_goals first | refine Jb rfl rfl rfl (Jd (v := KB s.accts.length s.p) rfl (kn 1 rfl) rfl rfl) ?_ | refine J9 rfl rfl rfl ?_
           all_goals refine ND ?_
           all_goals first | (refine Jb rfl rfl rfl (JD (off' := Xd s.p + (i * 8 + 0)) rfl rfl nh) ?_) | refine J9 rfl rfl rfl ?_
           all_goals first | refine Jb rfl rfl rfl (Qo AcL.len (k := 0) (v := Js y.addr) oR rfl hseg hy rfl rfl) ?_ | refine J9 rfl rfl rfl ?_
           all_goals refine kp ?_
           all_goals first | refine Jb rfl rfl rfl (Jd rfl (kn 2 rfl) rfl rfl) ?_ | refine J9 rfl rfl rfl ?_
           all_goals first | refine Jb rfl rfl rfl (vK (a := y.addr) (b := a.addr) rfl rfl) ?_ | refine J9 rfl rfl rfl ?_
           all_goals refine Nt ?_
           all_goals (
            refine JY (Jy 1 rfl (Za 1 rfl ?_)); refine JA rfl (fun g => ?_) (fun g => ?_)
            · try exact Bool.noConfusion g
              all_goals try simp only [ZZ] at g
              all_goals (
               refine Hc ?_; refine H9 fun rv => ?_; refine JF (L0 := [_, _, _, _, _]) (xs := xs) (row := row) (n := n) (sz := 8) (b := 96) (news := a.cells) (List.perm_append_comm (l₁ := [_, _, _, _, _])) rfl rfl rfl rfl (kn 0 rfl) rfl rfl rfl rfl rfl m6 rfl rfl rfl m6 ho.ok m0 m0 fun rap cap sp hra => ?_
               refine Nv ?_; refine gM ?_; refine Wp [2, 3, 4, 5, 0] (L' := [_, _, _, _, _]) m6 rfl ?_
               obtain ⟨pt2, hpt2⟩ : ∃ b, b = true := ⟨_, rfl⟩
               refine N6 ?_; refine Jn (congrArg Value.bool hpt2.symm) (Nw ?_)
               (have ho1 := ho.snoc hra
                have hinv1 := (YJ hinv).1 m8 m8
                have hn1 : n + 1 ≤ 2 * i + 1 := by omega
                change HC _ _ ((11, .bool pt2) :: _) ((r3, .cells #[Jx (n + 1) (some (rap, cap, sp))] _ _) :: (rs, _) :: (ra, _) :: (r1, _) :: JJ 34 (xs ++ a.cells) (some (rap, cap, sp))) _ _ _; clear hinv ho hno hra hn2
                generalize acc ++ [a] = acc at ho1 hinv1
                generalize n + 1 = n at ho1 hn1 ⊢
                generalize xs ++ a.cells = xs at ho1 ⊢
                generalize (some (rap, cap, sp) : Vk) = row at ho1 ⊢
                rw [← hpt2] at hinv1; clear hpt2
                obtain ⟨pt, rfl⟩ : ∃ b, b = pt2 := ⟨pt2, rfl⟩)
               have ho := ho1
               have hno := ho.num
               refine JI 9 m5 m5 ?_
               refine gC ?_; refine Nk ?_; refine D4 ?_; refine cD (fun g => ?_) fun g => ?_
               refine gl fun rv => ?_; refine JF (L0 := [_, _, _, _, _]) (xs := xs) (row := row) (n := n) (sz := 8) (b := 96) (news := y.cells) (List.perm_append_comm (l₁ := [_, _, _, _, _])) rfl rfl rfl rfl (kn 0 rfl) rfl rfl rfl rfl rfl m6 rfl rfl rfl m6 ho.ok m0 m0 fun rap cap sp hra => ?_
               refine Nv ?_; refine gB ?_; refine My ?_
               (refine QE [2, 3, 4, 5, 0] (L' := [_, _, _, _, _]) m6 rfl ?_
                exact Jo (i + 1, pt, acc ++ [y], n + 1, xs ++ y.cells, some (rap, cap, sp)) ⟨by simp only; omega, by rw [hinv1, if_neg m8]; simp, ho.snoc hra, by simp only; omega⟩ ml (lK rfl) (List.Sublist.refl _) (fun _ _ h => h))
               exact MS
               skip)
            try simp only [ZZ] at g
            refine Gt ?_
            (have ho1 := ho
             have hinv1 := (YJ hinv).2 nW
             have hn1 : n ≤ 2 * i + 1 := by omega
             clear hinv ho hno hn2)
            have ho := ho1
            have hno := ho.num
            refine JI 9 m5 m5 ?_
            refine gC ?_; refine Nk ?_; refine D4 ?_; refine cD (fun g => ?_) fun g => ?_
            refine gl fun rv => ?_; refine JF (L0 := [_, _, _, _, _]) (xs := xs) (row := row) (n := n) (sz := 8) (b := 96) (news := y.cells) (List.perm_append_comm (l₁ := [_, _, _, _, _])) rfl rfl rfl rfl (kn 0 rfl) rfl rfl rfl rfl rfl m6 rfl rfl rfl m6 ho.ok m0 m0 fun rap cap sp hra => ?_
            refine Nv ?_; refine gB ?_; refine My ?_
            (refine QE [2, 3, 4, 5, 0] (L' := [_, _, _, _, _]) m6 rfl ?_
             exact Jo (i + 1, pt, acc ++ [y], n + 1, xs ++ y.cells, some (rap, cap, sp)) ⟨by simp only; omega, by rw [hinv1, if_neg m8]; simp, ho.snoc hra, by simp only; omega⟩ ml (lK rfl) (List.Sublist.refl _) (fun _ _ h => h))
            exact MS
            skip)
         refine JS 7 rfl ?_
         obtain rfl : i = s.accts.length := by omega
         rw [List.drop_length, Va] at hinv
         have hno := ho.num
         refine kF ?_; refine cD (fun g => ?_) fun g => ?_
         refine Wt 3 [0] rfl rfl (H9 fun rv => ?_); refine JF (L0 := [_, _, _, _, _]) (xs := xs) (row := row) (n := n) (sz := 8) (b := 96) (news := a.cells) (List.perm_append_comm (l₁ := [_, _, _, _, _])) rfl rfl rfl rfl (kn 0 rfl) rfl rfl rfl rfl rfl m6 rfl rfl rfl m6 ho.ok m0 m0 fun rap cap sp hra => ?_
         refine Nv ?_; refine Nw ?_
         (refine Wp [2, 3, 4, 5, 0] (L' := [_, _, _, _, _]) m6 rfl ?_
          have hr : res = acc ++ [a] := by rw [hinv]; simp_all
          have ho1 := ho.snoc hra
          change HC _ _ _ ((r3, .cells #[Jx (n + 1) (some (rap, cap, sp))] _ _) :: (rs, _) :: (ra, _) :: (r1, _) :: JJ 34 (xs ++ a.cells) (some (rap, cap, sp))) _ _ _; rw [← hr] at ho1; clear hinv ho hno hra hn2
          generalize n + 1 = n at ho1 ⊢
          generalize xs ++ a.cells = xs at ho1 ⊢
          generalize (some (rap, cap, sp) : Vk) = row at ho1 ⊢)
         refine kU fun w1 hs1 => ?_
         (rw [hput, if_neg m0, if_neg m0, if_neg m0, hok.1]
          obtain ⟨e1, e2, e3⟩ := ho1
          subst e1 e2
          exact ⟨⟨⟨res, QN row⟩, 0, JJ 34 (res.flatMap AcL.cells) row, ⟨by show res.length ≤ 9223372036854775807; have := congrArg List.length hok.1; rw [List.length_map] at this; omega, (KC e3 m6).mono fun q hq => List.mem_append_left _ hq, fun z hz => ((qI (hres ▸ hz)).elim (fun e => by rw [e]; exact ha) (hs.accts z)).mono fun q hq => List.mem_append_right _ hq⟩, rfl⟩, by show Ending.returned _ = Ending.returned (Value.tuple #[Value.agg #[KB res.length (QN row)], .int .i64 0]); rw [V4 _ _ e3.zero]; rfl, hs1.weakL (List.sublist_append_right [_, _, _, _] _)⟩)
         refine Gt ?_
         (have hr : res = acc := by rw [hinv]; simp_all
          have ho1 := ho
          rw [← hr] at ho1
          clear hinv ho hno hn2)
         refine kU fun w1 hs1 => ?_
         (rw [hput, if_neg m0, if_neg m0, if_neg m0, hok.1]
          obtain ⟨e1, e2, e3⟩ := ho1
          subst e1 e2
          exact ⟨⟨⟨res, QN row⟩, 0, JJ 34 (res.flatMap AcL.cells) row, ⟨by show res.length ≤ 9223372036854775807; have := congrArg List.length hok.1; rw [List.length_map] at this; omega, (KC e3 m6).mono fun q hq => List.mem_append_left _ hq, fun z hz => ((qI (hres ▸ hz)).elim (fun e => by rw [e]; exact ha) (hs.accts z)).mono fun q hq => List.mem_append_right _ hq⟩, rfl⟩, by show Ending.returned _ = Ending.returned (Value.tuple #[Value.agg #[KB res.length (QN row)], .int .i64 0]); rw [V4 _ _ e3.zero]; rfl, hs1.weakL (List.sublist_append_right [_, _, _, _] _)⟩)
       skip)
theorem Jgc {l : List (BS × BS)} (h : Ku Prod.fst l) (k v : BS) : Va Prod.fst (k, v) (decide (v = Qm)) l = Kx l k v := by
 unfold Kx
 by_cases e : v = Qm
 ·rw [if_pos e, decide_eq_true e, Y6]
 ·rw [if_neg e, decide_eq_false e, qv h]
theorem Jw4 (ha : a.In R) (k v : BS) : PureT (α := AcRes R (jC a.er k v)) Tryz.prog 26 [a.val, Js k, Js v].toArray (fun x => x.val) [] (fun x => x.L) R := by
  have hl := ha.len
  have hseg := ha.seg
  have hset : jC a.er k v = if WT a.er ≠ 0 then (a.er, WT a.er) else if k.length ≠ 32 ∨ v.length ≠ 32 then (a.er, 2) else if (Kx a.slots k v).length > 16 then (a.er, 5) else (⟨a.addr, a.nonce, a.bal, a.code, Kx a.slots k v⟩, 0) := rfl
  refine J4 Tryz.func26 rfl rfl fun w => gz ?_; refine Hz fun ra => ?_; refine LN rfl fun r1 => N5 ?_; refine N3 fun rv => ?_; refine cD (fun g => ?_) fun g => ?_
  refine N6 ?_; refine kB ?_; refine QV rfl (Jk (k := 1) (n := 8) (ys := (a).cells) rfl rfl rfl rfl rfl rfl rfl rfl rfl (Jy 5 rfl ?_)); refine NV fun w1 hs1 => ?_; exact GG
  · refine gU ?_; refine Np ?_
    refine J0 21 rfl (fun gb => ?_) (fun gb => ?_) <;> (try simp only [ZZ] at gb) <;> first | (refine QV rfl ?_) | (refine LK rfl ?_)
    all_goals refine MX ?_
    all_goals (
     refine Ni ?_; refine JA rfl (fun g => ?_) (fun g => ?_)
     try simp only [ZZ] at g
     refine HM ?_; refine NV fun w1 hs1 => ?_; exact Gy
     · try exact Bool.noConfusion g
       all_goals try simp only [ZZ] at g
       all_goals (
        refine Gt ?_
        have hok : Ku Prod.fst a.slots ∧ a.slots.length ≤ 16 := ⟨(Wc (a := a.er) m0).2.2.1, (Wc (a := a.er) m0).2.2.2.2⟩
        refine Wt 5 [2] rfl rfl (LR rfl (J8 (r := [_, _]) rfl rfl) (KA rfl rfl rfl (enters_of Tryz.func51 m5 rfl) (Jt2 (by have := hok.2; omega) hseg (k, v)) oR fun x => ?_))
        obtain ⟨row, hrow⟩ := x
        refine gx ?_; change HL _ _ ((32, Jx (Va Prod.fst (k, v) (decide (v = Qm)) a.slots).length row) :: _) ((rv, _) :: (r1, _) :: (ra, _) :: JJ _ _ row) _ _ _ _
        have hrow : rowOk 2 (Va Prod.fst (k, v) (decide (v = Qm)) a.slots).length ((Va Prod.fst (k, v) (decide (v = Qm)) a.slots).flatMap Qn) row := hrow
        rw [Jgc hok.1 k v] at hrow ⊢; refine GT ?_; refine LR rfl (WA rfl hrow.zero rfl) (Nw ?_); refine cD (fun g => ?_) fun g => ?_
        refine HM ?_; refine NV fun w1 hs1 => ?_; exact kq
        refine kM ?_; refine LR rfl (Jl (vs := [Js a.addr, uV a.nonce, uV a.bal.a, uV a.bal.b, uV a.bal.c, uV a.bal.d, Js a.code, Jx (Kx a.slots k v).length row]) rfl (kn 2 rfl) rfl rfl rfl rfl) (Qs (k := 1) (n := 8) (cs' := #[Js a.addr, uV a.nonce, uV a.bal.a, uV a.bal.b, uV a.bal.c, uV a.bal.d, Js a.code, Jx (Kx a.slots k v).length row]) (vs := #[_, _, _, _, _, _, _, _]) rfl rfl rfl rfl rfl rfl mD mo rfl rfl (gA ?_)); refine NV fun w1 hs1 => ?_
        (rw [hset, if_neg m0, if_neg m0, if_neg m0]
         exact ⟨⟨⟨a.addr, a.nonce, a.bal, a.code, Kx a.slots k v, QN row⟩, 0, JJ 59 ((Kx a.slots k v).flatMap Qn) row, ZU ha m0 m0 m0 (KC hrow m6), rfl⟩, by show Ending.returned _ = Ending.returned (Value.tuple #[Value.agg #[Js a.addr, uV a.nonce, uV a.bal.a, uV a.bal.b, uV a.bal.c, uV a.bal.d, Js a.code, KB (Kx a.slots k v).length (QN row)], .int .i64 0]); rw [V4 _ _ hrow.zero]; rfl, hs1.weakL (List.sublist_append_right [_, _, _] _)⟩)
        skip)
     skip)
open Go.Proofs (Enters enters_of)
theorem qe {k n : Int} {p : Pl} {l : List Vl} (hk : (k = 3 ∧ (l.length : Int) = n) ∨ (k = 4 ∧ (l.length : Int) ≤ n)) (h : ∀ v ∈ l, Ko v x = 0) : Ko (KI l 0) (.mk k n p [x]) = 0 := by
 have hL : ∀ (l : List Vl) (i : Nat), (∀ v ∈ l, Ko v x = 0) → Qr l k 0 [x] i = 0 := by
  intro l
  induction l with
  | nil => intro i _; rw [Qr]
  | cons v l ih =>
   intro i h
   have e : JE k 0 [x] i = x := by unfold JE VX; rcases hk with ⟨rfl, _⟩ | ⟨rfl, _⟩ <;> rfl
   rw [Qr, e, if_pos (h v me), ih _ (fun w hw => h w (by simp [hw]))]
 unfold KI
 rw [Wx ?_ ?_, hL l 0 h]
 ·rcases hk with ⟨rfl, h1⟩ | ⟨rfl, h1⟩ <;> simp <;> omega
 ·rw [Qq k n _ 0 0 0 0 [] none l none 0 _ rfl]
  rcases hk with ⟨rfl, h1⟩ | ⟨rfl, h1⟩ <;> simp [Qg, h1]
theorem yK {a : Nat} {n : Int} {p : Pl} (h : ((Ww [a, b, c, d]).length : Int) ≤ n) : Ko (.mk a b c d [] none [] none 0) (.mk 1 n p []) = 0 := by
 rw [Wx me (by rw [Qq 1 n _ a b c d [] none [] none 0 _ rfl]; simp [Qg, h]), Qr]
theorem Jw5 : ∀ i : Fin 256, (Ww [i.val, 0, 0, 0]).length ≤ 1 := by decide +kernel
theorem Jqi (b : UInt8) : Ko (jY b) byT = 0 := yK (by have := Jw5 ⟨b.toNat, Vs b⟩; simp only at this; omega)
theorem Jbh {n : Int} (h : (s.length : Int) = n) : Ko (yA s) (WQ 3 n) = 0 := qe (.inl ⟨rfl, by rw [List.length_map]; exact h⟩) fun v hv => by obtain ⟨b, _, rfl⟩ := List.mem_map.1 hv; exact Jqi b
theorem Jt3 {n : Int} (h : (s.length : Int) ≤ n) : Ko (yA s) (WQ 4 n) = 0 := qe (.inr ⟨rfl, by rw [List.length_map]; exact h⟩) fun v hv => by obtain ⟨b, _, rfl⟩ := List.mem_map.1 hv; exact Jqi b
theorem Jt4 {x : BS × BS} (h1 : x.1.length = 32) (h2 : x.2.length = 32) : Ko (qa x) qE = 0 := by
 unfold qa qE KI
 rw [Wx me (by rw [Qq 7 0 _ 0 0 0 0 [] none _ none 0 _ rfl]; simp [Qg]), Qr, show JE 7 0 [WQ 3 32, WQ 3 32] 0 = WQ 3 32 from rfl, if_pos (Jbh m0), Qr, show JE 7 0 [WQ 3 32, WQ 3 32] (0 + 1) = WQ 3 32 from rfl, if_pos (Jbh m0), Qr]
theorem Jt5 {n : Nat} (h : XJ n) : (Ww [n, 0, 0, 0]).length ≤ 8 := by
 have h1 := zF (l := [n, 0, 0, 0]) (Jwd h)
 rw [Jdj] at h1; exact of_decide_eq_true h1.symm
theorem Jw6 {a : AcE} (h : WT a = 0) (hn : XJ a.nonce) : Ko (acV a) acT = 0 := by
 obtain ⟨h1, h2, _, h4, h5⟩ := Wc h
 obtain ⟨I, hI⟩ : ∃ I, I = [WQ 3 20, .mk 1 8 none [], .mk 1 32 none [], WQ 4 512, .mk 4 16 none [qE]] := ⟨_, rfl⟩
 have e0 : JE 7 0 I 0 = WQ 3 20 := by rw [hI]; rfl
 have e1 : JE 7 0 I (0 + 1) = .mk 1 8 none [] := by rw [hI]; rfl
 have e2 : JE 7 0 I (0 + 1 + 1) = .mk 1 32 none [] := by rw [hI]; rfl
 have e3 : JE 7 0 I (0 + 1 + 1 + 1) = WQ 4 512 := by rw [hI]; rfl
 have e4 : JE 7 0 I (0 + 1 + 1 + 1 + 1) = .mk 4 16 none [qE] := by rw [hI]; rfl
 have hl : I.length = 5 := by rw [hI]; rfl
 have hsl : Ko (Vl.mk 0 0 0 0 [] none (a.slots.map qa) none 0) (.mk 4 16 none [qE]) = 0 := qe (.inr ⟨rfl, by rw [List.length_map]; omega⟩) fun v hv => by
  obtain ⟨x, hx, rfl⟩ := List.mem_map.1 hv
  exact Jt4 (h2 x hx).1 (h2 x hx).2.1
 unfold acV acT KI
 rw [← hI, Wx me (by rw [hl, Qq 7 0 _ 0 0 0 0 [] none _ none 0 _ rfl]; simp [Qg]), Qr, e0, if_pos (Jbh m0), Qr, e1, if_pos (yK (by have := Jt5 hn; omega)), Qr, e2, if_pos (yK (by have := Jf1 [a.bal.a, a.bal.b, a.bal.c, a.bal.d]; omega)),
  Qr, e3, if_pos (Jt3 m0), Qr, e4, if_pos hsl, Qr]
theorem Jt6 {l : List AcE} (h : KP l = 0) (hn : ∀ a ∈ l, XJ a.nonce) : Vt QU (Yg l) = 0 := by
 obtain ⟨h1, h2, _⟩ := wz.1 h
 unfold Vt
 rw [if_pos Jbd]
 exact qe (.inr ⟨rfl, by rw [List.length_map]; omega⟩) fun v hv => by
  obtain ⟨a, ha, rfl⟩ := List.mem_map.1 hv
  exact Jw6 (h2 a ha) (hn a ha)
theorem Jbi {s : StL} (h : KP s.er = 0) : s.accts.length ≤ 100000 ∧ ∀ a ∈ s.accts, Ac1 a := by
 obtain ⟨h1, h2, _⟩ := wz.1 h
 rw [s.er_len] at h1; refine ⟨by omega, fun a ha => ?_⟩
 obtain ⟨g1, g2, _, g4, g5⟩ := Wc (h2 a.er (List.mem_map.2 ⟨a, ha, rfl⟩))
 change a.addr.length = 20 at g1; change a.code.length ≤ 512 at g4; change a.slots.length ≤ 16 at g5; exact ⟨by omega, by omega, by omega, fun x hx => by obtain ⟨e1, e2, _⟩ := g2 x hx; omega⟩
theorem Jqj {s : StL} (hs : s.In R) (h : KP s.er = 0) : Vt QU (Yg s.er) = 0 := Jt6 h fun a ha => by
 obtain ⟨b, hb, rfl⟩ := List.mem_map.1 ha
 exact (hs.accts b hb).nonce
theorem Jen : ∀ l : List Vl, (∀ x ∈ l, Nonempty (VR x)) → ∃ (ys : List Vl) (L : Ji), ys.map WU = l ∧ ∀ y ∈ ys, y.In L
 | [], _ => ⟨[], [], rfl, fun y hy => nomatch hy⟩
 | x :: l, h => by
  obtain ⟨ys, L, h1, h2⟩ := Jen l fun y hy => h y (List.mem_cons_of_mem _ hy)
  obtain ⟨v⟩ := h x List.mem_cons_self
  refine ⟨v.x :: ys, v.L ++ L, by rw [List.map_cons, v.er, h1], fun y hy => ?_⟩
  rcases List.mem_cons.1 hy with rfl | hy
  ·exact v.ok.mono fun q hq => List.mem_append_left _ hq
  ·exact (h2 y hy).mono fun q hq => List.mem_append_right _ hq
theorem ZM {l : List Vl} (h : ∀ x ∈ l, Nonempty (VR x)) (hl : l.length ≤ 100000) : Nonempty (VR (KI l 0)) := by
 obtain ⟨ys, L, h1, h2⟩ := Jen l h
 have hy : ys.length = l.length := by rw [← h1, List.length_map]
 exact ⟨⟨.mk 0 0 0 0 [] none ys (some (⟨0, 0, none⟩, ys.length)) 0, (0, .cells (Qi ys).toArray 0 (0, 0)) :: L, .mk u0 u0 u0 u0 m6 rfl m0 ⟨Nat.le_refl _, fun _ => ⟨rfl, _, 0, (0, 0), List.mem_cons_self, by rw [List.drop_zero, List.toList_toArray, List.take_length]⟩⟩ i0 fun x hx => (h2 x hx).mono fun q hq => List.mem_cons_of_mem _ hq, by rw [Qa, Wi, h1]; rfl⟩⟩
theorem Jiz {a : Nat} (ha : XJ a) (hb : XJ b) (hc : XJ c) (hd : XJ d) : Nonempty (VR (.mk a b c d [] none [] none 0)) :=
 ⟨⟨.mk a b c d [] none [] none 0, [], .mk ha hb hc hd m6 rfl m6 rfl i0 (fun x hx => nomatch hx), by rw [Qa, Yx]⟩⟩
theorem Jbj (hl : s.length ≤ 100000) : Nonempty (VR (yA s)) := ⟨Jps hl⟩
theorem Jw7 (h : Ac1 a) (hn : XJ a.nonce) (hb : a.bal.ok) : Nonempty (VR (acV a.er)) := by
 obtain ⟨h1, h2, h3, h4⟩ := h
 refine ZM (fun x hx => ?_) (by show 5 ≤ 100000; decide); simp only [List.mem_cons, List.not_mem_nil, or_false] at hx
 rcases hx with rfl | rfl | rfl | rfl | rfl
 ·exact Jbj h1
 ·exact Jiz hn u0 u0 u0
 ·exact Jiz hb.a hb.b hb.c hb.d
 ·exact Jbj h2
 ·refine ZM (fun x hx => ?_) (by rw [List.length_map]; exact h3)
  obtain ⟨⟨k, v⟩, hy, rfl⟩ := List.mem_map.1 hx
  refine ZM (fun x hx => ?_) (by show 2 ≤ 100000; decide); simp only [List.mem_cons, List.not_mem_nil, or_false] at hx
  rcases hx with rfl | rfl
  ·exact Jbj (h4 _ hy).1
  ·exact Jbj (h4 _ hy).2
theorem Jqk {s : StL} (hs : s.In R) (h : KP s.er = 0) : Nonempty (VR (Yg s.er)) := by
 obtain ⟨hn, hb⟩ := Jbi h
 refine ZM (fun x hx => ?_) (by rw [List.length_map, s.er_len]; exact hn)
 obtain ⟨a, ha, rfl⟩ := List.mem_map.1 hx
 obtain ⟨b, hb2, rfl⟩ := List.mem_map.1 ha
 exact Jw7 (hb b hb2) (hs.accts b hb2).nonce (hs.accts b hb2).bal
def Ju8 : TR QU := ⟨Jo9 0 0 0 0 0 0 0 0, [(0, Jki 0), (0, .cells #[.int .i64 3, .int .i64 32, .slice (some ⟨0, 0, none⟩) 1 1, .int .i64 3, .int .i64 32, .slice (some ⟨0, 0, none⟩) 1 1] 0 (0, 0)), (0, .cells #[.int .i64 7, .int .i64 0, .slice (some ⟨0, 0, none⟩) 2 2] 0 (0, 0)),
 (0, .cells #[.int .i64 3, .int .i64 20, .slice (some ⟨0, 0, none⟩) 1 1, .int .i64 1, .int .i64 8, .slice none 0 0, .int .i64 1, .int .i64 32, .slice none 0 0, .int .i64 4, .int .i64 512, .slice (some ⟨0, 0, none⟩) 1 1, .int .i64 4, .int .i64 16, .slice (some ⟨0, 0, none⟩) 1 1] 0 (0, 0)),
 (0, .cells #[.int .i64 7, .int .i64 0, .slice (some ⟨0, 0, none⟩) 5 5] 0 (0, 0))], Jij (e := 0) (by simp) (by simp) (by simp) (by simp) (by simp) (by simp) (by simp) (by simp), Jik ..⟩
theorem Jt7 (t : Ty) (v : Vl) : jO t (WU v) = jO t v := by unfold jO Vt; rw [Jf9, Jot]
theorem Jql (t : Ty) (v : Vl) : Y0 t (WU v) = Y0 t v := by unfold Y0 Vt; rw [Jf9, Js5]
theorem Jt8 {V : Vl} (t : TR T) (v : VR V) : jO t.x v.x = jO T V := by obtain ⟨x, L, ok, rfl⟩ := t; obtain ⟨y, M, ok2, rfl⟩ := v; rw [Jpk, Jt7]
theorem Jqm {V : Vl} (t : TR T) (v : VR V) : Y0 t.x v.x = Y0 T V := by obtain ⟨x, L, ok, rfl⟩ := t; obtain ⟨y, M, ok2, rfl⟩ := v; rw [Jkn, Jql]
theorem Jeo {l : List AcE} (h : KP l = 0) (hf : Vt QU (Yg l) = 0) : qb l = (Ky (Yg l) QU, 0) := by
 unfold qb Y0
 rw [if_neg m0, if_neg m0]
theorem zY {s : StL} (hs : s.In R) (hw : KP s.er = 0 → wV (Yg s.er) ≤ 20000) : PureR Tryz.prog 27 [s.val].toArray (ja (Xc s.er)) R := by
 have hC := Xs hs
 have hac := Jbi (s := s)
 have hlay := Jqk hs
 have hfit := Jqj hs
 have hb0 : KP s.er ≠ 0 → Xc s.er = ([], KP s.er) := fun h => by unfold Xc; rw [if_pos h]
 have hb1 : KP s.er = 0 → Xc s.er = jO QU (Yg s.er) := fun h => by unfold Xc; rw [if_neg m0]
 obtain ⟨accts, p⟩ := s
 generalize hz0 : KP (StL.er ⟨accts, p⟩) = z at *
 refine Ja Tryz.func27 rfl rfl fun w => Mw fun r1 => ?_; refine GT ?_; refine gW ?_; refine Jc rfl rfl rfl Jj1 hC oR (He ?_); refine cD (fun g => ?_) fun g => ?_
 refine KS 9 rfl (Nc fun w1 hs1 => ?_); rw [hb0 m8]; rfl
 ·refine Gt ?_
  have hz : z = 0 := by assumption
  obtain ⟨hn, hb⟩ := hac hz
  obtain ⟨v0⟩ := hlay hz
  have hww := hw hz
  refine N1 fun t v => ?_
  refine Ql (k := 4) (Rl := v.L ++ t.L) rfl rfl rfl rfl rfl (enters_of Tryz.func52 m5 rfl) (Jom (t.ok.mono fun q hq => List.mem_append_right _ hq) (v.ok.mono fun q hq => List.mem_append_left _ hq) (by rw [← Ju4 v.x, v.er]; exact hww)) (fun q hq => .inl nz) (WE (congrArg ja (Jt8 t v)) ?_); exact Hv
theorem Jep {s : StL} (hs : s.In R) (hw : KP s.er = 0 → wV (Yg s.er) ≤ 20000) : PureR Tryz.prog 29 [s.val].toArray (ja (qb s.er)) R := by
 have hC := Xs hs
 have hac := Jbi (s := s)
 have hlay := Jqk hs
 have hfit := Jqj hs
 have hb0 : KP s.er ≠ 0 → qb s.er = ([], KP s.er) := fun h => by unfold qb; rw [if_pos h]
 have hb1 : KP s.er = 0 → qb s.er = Y0 QU (Yg s.er) := fun h => by unfold qb; rw [if_neg m0]
 obtain ⟨accts, p⟩ := s
 generalize hz0 : KP (StL.er ⟨accts, p⟩) = z at *
 refine Ja Tryz.func29 rfl rfl fun w => Mw fun r1 => ?_; refine GT ?_; refine gW ?_; refine Jc rfl rfl rfl Jj1 hC oR (He ?_); refine cD (fun g => ?_) fun g => ?_
 refine KS 9 rfl (Nc fun w1 hs1 => ?_); rw [hb0 m8]; rfl
 ·refine Gt ?_
  have hz : z = 0 := by assumption
  obtain ⟨hn, hb⟩ := hac hz
  obtain ⟨v0⟩ := hlay hz
  have hww := hw hz
  refine N1 fun t v => ?_
  refine Ql (k := 4) (Rl := v.L ++ t.L) rfl rfl rfl rfl rfl (enters_of Tryz.func58 m5 rfl) (Jtf (t.ok.mono fun q hq => List.mem_append_right _ hq) (v.ok.mono fun q hq => List.mem_append_left _ hq) (by rw [← Ju4 v.x, v.er]; exact hww)) (fun q hq => .inl nz) (WE (congrArg ja (Jqm t v)) ?_); exact Hv
theorem Jt9 (n : Nat) : wq [n, 0, 0, 0] = .tuple #[uV n, .bool true] := by unfold wq; rw [Jdj]; rfl
theorem Jbk  {a : Nat} {bits : List Bool} {items : List Vl} {pick : Int} (h : Vl.In R (.mk a b c d bits pb items pi pick)) : Seg R items.length (Qi items) pi := by cases h; assumption
theorem Ju9  {a : Nat} {bits : List Bool} {items : List Vl} {pick : Int} (h : Vl.In R (.mk a b c d bits pb items pi pick)) : W4.ok ⟨a, b, c, d⟩ := by cases h; exact ⟨by assumption, by assumption, by assumption, by assumption⟩
theorem wc {a : Nat} {bits : List Bool} {items : List Vl} {pick k n : Int} {p : Pl} {ins : List Ty} (h : Ko (.mk a b c d bits pb items pi pick) (.mk k n p ins) = 0) : ¬ (k = 4 ∧ n < items.length) ∧ zC k n ins.length (.mk a b c d bits pb items pi pick) = true ∧ Qr items k pick ins 0 = 0 := by
 rw [Ko] at h
 split at h
 ·cases h
 ·rename_i h1
  split at h
  ·cases h
  ·rename_i h2
   exact ⟨fun e => h1 (.inl e), by simpa using h2, h⟩
theorem yM {n : Int} {p : Pl} (h : Ko v (.mk 4 n p [x]) = 0) : (v.items.length : Int) ≤ n ∧ ∀ y ∈ v.items, Ko y x = 0 := by
 obtain ⟨a, b, c, d, bits, pb, items, pi, pick⟩ := v
 obtain ⟨h1, _, h3⟩ := wc h
 refine ⟨by show (items.length : Int) ≤ n; omega, fun y hy => ?_⟩
 obtain ⟨j, hj⟩ := List.getElem?_of_mem hy
 exact Wg h3 hj
theorem Jbl {n : Int} {p : Pl} (h : Ko v (.mk 3 n p [x]) = 0) : (v.items.length : Int) = n := by
 obtain ⟨a, b, c, d, bits, pb, items, pi, pick⟩ := v
 obtain ⟨_, h2, _⟩ := wc h
 rw [Qq 3 n _ a b c d bits pb items pi pick _ rfl] at h2; simp at h2; exact h2.2
theorem Ji0 {p : Pl} {ins : List Ty} (h : Ko v (.mk 7 0 p ins) = 0) : v.items.length = ins.length ∧ ∀ (j : Nat) y, v.items[j]? = some y → Ko y (ins.getD j default) = 0 := by
 obtain ⟨a, b, c, d, bits, pb, items, pi, pick⟩ := v
 obtain ⟨_, h2, h3⟩ := wc h
 rw [Qq 7 0 _ a b c d bits pb items pi pick _ rfl] at h2; simp at h2; refine ⟨h2.2, fun j y hy => ?_⟩
 have := Wg h3 hy
 rw [Nat.zero_add] at this; exact this
theorem Jw8 {p : Pl} {ins : List Ty} (hv : v.In R) (h : Ko v (.mk 1 8 p ins) = 0) : ∃ n, v.num = [n, 0, 0, 0] ∧ XJ n := by
 obtain ⟨a, b, c, d, bits, pb, items, pi, pick⟩ := v
 obtain ⟨_, h2, _⟩ := wc h
 rw [Qq 1 8 _ a b c d bits pb items pi pick _ rfl] at h2; simp at h2
 have hw := Ju9 hv
 have h1 := zF (l := [a, b, c, d]) hw.wok
 rw [decide_eq_true (by have := h2.2; omega)] at h1; exact ⟨a, (Jn9 h1).symm, hw.a⟩
theorem Jqn (h : Ko z qE = 0) : ∃ k0 k1, z.items = [k0, k1] ∧ k0.items.length = 32 ∧ k1.items.length = 32 := by
 obtain ⟨h1, h2⟩ := Ji0 h
 match hz : z.items, h1 with
 | [k0, k1], _ =>
  have e0 := h2 0 k0 Mj
  have e1 := h2 1 k1 Mj
  exact ⟨k0, k1, rfl, by have := Jbl e0; omega, by have := Jbl e1; omega⟩
theorem Jua {x : Vl} (hx : x.In R) (h : Ko x acT = 0) : ∃ p0 p1 p2 p3 p4 : Vl, x.items = [p0, p1, p2, p3, p4] ∧ p0.items.length = 20 ∧ (p1.num.getD 1 0 = 0 ∧ p1.num.getD 2 0 = 0 ∧ p1.num.getD 3 0 = 0 ∧ XJ (p1.num.getD 0 0)) ∧ True ∧ p3.items.length ≤ 512 ∧ (p4.items.length ≤ 16 ∧ ∀ z ∈ p4.items, ∃ k0 k1, z.items = [k0, k1] ∧ k0.items.length = 32 ∧ k1.items.length = 32) := by
 obtain ⟨h1, h2⟩ := Ji0 h
 match hz : x.items, h1 with
 | [p0, p1, p2, p3, p4], _ =>
  have e0 := h2 0 p0 Mj
  have e1 := h2 1 p1 Mj
  have e3 := h2 3 p3 Mj
  have e4 := h2 4 p4 Mj
  have hi1 : p1.In R := by obtain ⟨a, b, c, d, bits, pb, items, pi, pick⟩ := x; exact hx.sub p1 (by show p1 ∈ items; rw [show items = _ from hz]; simp)
  obtain ⟨n, hn, hu⟩ := Jw8 hi1 e1
  obtain ⟨g3, _⟩ := yM e3
  obtain ⟨g4, g5⟩ := yM e4
  refine ⟨p0, p1, p2, p3, p4, rfl, by have := Jbl e0; omega, by rw [hn]; exact ⟨rfl, rfl, rfl, hu⟩, trivial, by omega, by omega, fun z hz => Jqn (g5 z hz)⟩
theorem Jyu {gv : Vl} {ya yb yc yd : Nat} {ybits : List Bool} {ypb : Pl} {ypi : Pl} {ypick : Int} (h : Ko gv QU = 0) (e : WU (.mk ya yb yc yd ybits ypb yitems ypi ypick) = gv) : (yitems.length : Int) ≤ 32 ∧ ∀ y ∈ yitems, Ko y acT = 0 := by
 rw [← e, Jf9] at h; exact yM h
theorem qf (v : Vl) : (WU v).items = v.items.map WU := by obtain ⟨a, b, c, d, bits, pb, items, pi, pick⟩ := v; rw [Qa, Wi]; rfl
theorem Jgd (v : Vl) : (WU v).num = v.num := by obtain ⟨a, b, c, d, bits, pb, items, pi, pick⟩ := v; rw [Qa]; rfl
theorem Jbm (v : Vl) : YW (WU v) = YW v := by
 unfold YW; rw [qf, List.map_map]; exact List.map_congr_left fun x _ => by show UInt8.ofNat ((WU x).num.getD 0 0) = _; rw [Jgd]
theorem v0_er : WU v0L = v0L := by unfold v0L; rw [Qa, Yx]
theorem YK (v : Vl) (i : Nat) : qc (WU v) i = WU (qc v i) := by
 unfold qc
 rw [qf, List.getD_eq_getElem?_getD, List.getD_eq_getElem?_getD, List.getElem?_map]
 cases v.items[i]? with
 | none => exact v0_er.symm
 | some x => rfl
theorem Jub (v : Vl) : XG (WU v) = XG v := by unfold XG; rw [YK, YK, Jbm, Jbm]
theorem Jw9 (v : Vl) : acB (WU v) = acB v := by
 unfold acB w4B
 rw [YK, YK, YK, YK, YK, Jbm, Jbm, Jgd, Jgd, qf, List.map_map, show (XG ∘ WU) = XG from funext Jub]
theorem Juc (v : Vl) : qG (WU v) = qG v := by unfold qG; rw [qf, List.map_map, show (acB ∘ WU) = acB from funext Jw9]
theorem Jqo {l : List Vl} {a : Nat} {bits : List Bool} {k0 k1 : Vl} {pick : Int} {cs : List Value} (h : l[j]? = some (.mk a b c d bits pb [k0, k1] pi pick)) (hc : cs = [Js (YW k0), Js (YW k1)]) : wB ((l.take j).map XG) ++ cs = wB ((l.take (j + 1)).map XG) := by
 rw [Kp h, List.map_append, hc]; unfold wB; rw [List.flatMap_append]; rfl
theorem wd (v : Vl) : (YW v).length = v.items.length := by unfold YW; rw [List.length_map]
theorem Jxa {E S : Ji} {p0a p0b p0c p0d p3a p3b p3c p3d : Nat} {p0bi p3bi : List Bool} {p0pb p0pi p3pb p3pi p : Pl} {p0it p3it zs : List Vl} {p0pk p3pk : Int} {n : Nat} {w : W4} (hin : ∀ a ∈ acs, AcL.In E a) (hs : Seg S (zs.map XG).length (wB (zs.map XG)) p) (h0 : p0it.length = 20) (h3 : p3it.length ≤ 512) (hz : zs.length ≤ 16) (hn : XJ n) (hw : w.ok) (hzz : ∀ z ∈ zs, ∃ k0 k1, z.items = [k0, k1] ∧ k0.items.length = 32 ∧ k1.items.length = 32) {q : AcL}
  (hq : q ∈ acs ++ [(⟨YW (.mk p0a p0b p0c p0d p0bi p0pb p0it p0pi p0pk), n, w, YW (.mk p3a p3b p3c p3d p3bi p3pb p3it p3pi p3pk), zs.map XG, p⟩ : AcL)]) : AcL.In (S ++ E) q := by
 rcases List.mem_append.1 hq with hq | hq
 ·exact (hin q hq).mono fun p hp => List.mem_append_right _ hp
 ·rw [List.mem_singleton.1 hq]
  refine ⟨?_, hn, hw, ?_, ?_, hs.mono fun p hp => List.mem_append_left _ hp, fun x hx => ?_⟩
  ·show (YW _).length ≤ WK; rw [wd]; show p0it.length ≤ WK; unfold WK; omega
  ·show (YW _).length ≤ WK; rw [wd]; show p3it.length ≤ WK; unfold WK; omega
  ·show (zs.map XG).length ≤ WK; rw [List.length_map]; unfold WK; omega
  ·obtain ⟨z, hz, rfl⟩ := List.mem_map.1 hx
   obtain ⟨k0, k1, e, e0, e1⟩ := hzz z hz
   have f0 : qc z 0 = k0 := by unfold qc; rw [e]; rfl
   have f1 : qc z 1 = k1 := by unfold qc; rw [e]; rfl
   unfold XG
   rw [f0, f1]; exact ⟨by show (YW k0).length ≤ WK; rw [wd]; unfold WK; omega, by show (YW k1).length ≤ WK; rw [wd]; unfold WK; omega⟩
theorem Jxb  {zs : List Vl} {xa xb xc xd : Nat} {xbits : List Bool} {xpb xpi p p1pb p1pi p2pb p2pi p4pb p4pi : Pl} {xpick p1pk p2pk p4pk : Int} {P0 P3 : Vl} {n ba bb bc bd p4a p4b p4c p4d n1 n2 n3 : Nat} {p1bi p2bi p4bi : List Bool} {p1it p2it : List Vl} (her : acs.map AcL.er = (yitems.take i).map acB)
  (hx : yitems[i]? = some (.mk xa xb xc xd xbits xpb [P0, .mk n n1 n2 n3 p1bi p1pb p1it p1pi p1pk, .mk ba bb bc bd p2bi p2pb p2it p2pi p2pk, P3, .mk p4a p4b p4c p4d p4bi p4pb zs p4pi p4pk] xpi xpick)) :
  (acs ++ [(⟨YW P0, n, ⟨ba, bb, bc, bd⟩, YW P3, zs.map XG, p⟩ : AcL)]).map AcL.er = (yitems.take (i + 1)).map acB := by
 rw [List.map_append, her, Kp hx, List.map_append]; rfl
theorem Jxc {E : Ji} (h : rowOk 8 acs.length (jE acs) row) (hl : acs.length ≤ 100000) (hin : ∀ a ∈ acs, AcL.In E a) : StL.In (JJ e (jE acs) row ++ E) ⟨acs, QN row⟩ :=
 ⟨by show acs.length ≤ WK; unfold WK; omega, (KC h m6).mono fun q hq => List.mem_append_left _ hq, fun a ha => (hin a ha).mono fun q hq => List.mem_append_right _ hq⟩
theorem Jqp (t : TR T) (s : BS) : getR t.x s = getR T s := by obtain ⟨x, L, ok, rfl⟩ := t; rw [Jpo]
theorem Jqq (h : (getR QU s).2 = 0) : Ko (getR QU s).1 QU = 0 := by
 unfold getR at h ⊢
 rw [if_neg (by rw [Jbd]; decide)] at h ⊢
 by_cases h1 : 65536 < s.length
 ·rw [if_pos h1] at h; cases h
 ·rw [if_neg h1] at h ⊢
  exact (Js6 QU 0 Jbd s _ m0 (Prod.ext rfl h)).1
open Classical in
theorem Jxd (b c : α) (Y T : List α) : (b :: (Y ++ (T ++ [c]))).Perm (b :: c :: (Y ++ T)) := by
 rw [List.perm_iff_count]; intro x; simp only [List.count_append, List.count_cons, List.count_nil]; omega
open Classical in
theorem jk (M S W : List α) : (M ++ (S ++ W)).Perm (S ++ (M ++ W)) := by
 exact HV
open Classical in
theorem Jxe (M S V W : List α) : (M ++ (S ++ (V ++ W))).Perm (V ++ (M ++ (S ++ W))) := by
 exact HV
open Classical in
theorem Jxf (r : α) (P M W : List α) : (r :: (P ++ (M ++ W))).Perm (P ++ (M ++ (r :: W))) := by
 exact MT
open Classical in
theorem Jxg (r a b : α) (M S E W : List α) : (r :: a :: b :: (M ++ (S ++ (E ++ W)))).Perm (a :: b :: (M ++ (r :: ((S ++ E) ++ W)))) := by
 exact MT
set_option maxHeartbeats 4000000 in
theorem Jku (s : BS) : PureT (α := StRes [] (Zu s)) Tryz.prog 31 [Js s].toArray (fun x => x.val) [] (fun x => x.L) [] := by
 have hgt : ∀ t : TR QU, PureT (α := VR (getR QU s).1) Tryz.prog 60 [t.x.val, Js s].toArray (fun y => .tuple #[y.x.val, .int .i64 (getR QU s).2]) [] (fun y => y.L) t.L := fun t => by
  have := Jym t.ok s
  rw [Jqp t s] at this; exact this
 have hfit := Jqq (s := s)
 have hPa : (getR QU s).2 ≠ 0 → Zu s = ([], (getR QU s).2) := fun h => by unfold Zu; rw [if_pos h]
 have hPb : (getR QU s).2 = 0 → KP (qG (getR QU s).1) ≠ 0 → Zu s = ([], KP (qG (getR QU s).1)) := fun h h2 => by unfold Zu; rw [if_neg m0, if_pos h2]
 have hPc : (getR QU s).2 = 0 → KP (qG (getR QU s).1) = 0 → Zu s = (qG (getR QU s).1, 0) := fun h h2 => by unfold Zu; rw [if_neg m0, if_neg m0]
 generalize (getR QU s).1 = gv at hgt hfit hPa hPb hPc
 generalize (getR QU s).2 = ge at hgt hfit hPa hPb hPc
 refine J4 Tryz.func31 rfl rfl fun w => Mw fun r1 => ?_; refine N5 ?_; refine KA rfl rfl rfl Jv3 (Ja9) oN fun t => QV rfl (KA rfl rfl rfl (enters_of Tryz.func60 m5 rfl) (hgt t) (fun q hq => .inl (List.mem_append_left _ hq)) fun y => ?_)
 obtain ⟨⟨ya, yb, yc, yd, ybits, ypb, yitems, ypi, ypick⟩, yL, yok, yer⟩ := y
 refine kz ?_; refine LN rfl fun r2 => Ks (Jxd ..) ?_
 refine Ng ?_; refine JR 10 rfl (cD (fun g => ?_) fun g => ?_)
 refine N6 ?_; refine gg ?_; refine QV rfl ?_
 refine HT ?_; refine Jj rfl rfl (.cons (Jt (vs := [_]) rfl (kn 1 rfl) rfl rfl) (.cons (Jp rfl) .nil)) (fun w1 hs1 => ?_); exact ⟨⟨st0L, ge, [], wC, by rw [hPa m8]; rfl⟩, rfl, hs1.weakL (List.nil_sublist _)⟩
 ·refine Gt ?_
  have hge : ge = 0 := by assumption
  have hyfit := Jyu (hfit hge) yer
  have hsY : Seg yL yitems.length (Qi yitems) ypi := Jbk yok
  obtain ⟨hy32, hyf⟩ := hyfit
  have hyin := yok.sub
  have hby : qG gv = yitems.map acB := by rw [← yer]; exact Juc _
  refine Hf ?_; refine LN rfl fun r3 => XN 7 [1] rfl rfl (LR rfl (Ju rfl hsY rfl) (kA ?_)); refine Jw (σ := Nat × List AcL × Vk × Ji) (fun q => q.1 ≤ yitems.length ∧ rowOk 8 q.1 (jE q.2.1) q.2.2.1 ∧ (∀ a ∈ q.2.1, AcL.In q.2.2.2 a) ∧ q.2.1.map AcL.er = (yitems.take q.1).map acB) (fun q => [(2, VA r1), (6, VA r3), (26, KB yitems.length ypi), (27, .int .i64 (yitems.length : Int)), (28, .int .i64 (q.1 : Int))]) (fun q => (r3, .cells #[Jx q.1 q.2.2.1] 24 (0, 0)) :: (r2, .cells #[uV ya, uV yb, uV yc, uV yd, KB ybits.length ypb, KB yitems.length ypi, .int .i64 ypick] 81 (0, 0)) :: (r1, .cells #[.slice none 0 0] 24 (0, 0)) :: (JJ 34 (jE q.2.1) q.2.2.1 ++ (q.2.2.2 ++ yL))) (fun _ _ _ => True) (fun q => yitems.length - q.1) (0, [], none, []) ⟨Nat.zero_le _, ⟨rfl, rfl⟩, fun x hx => (nomatch hx), rfl⟩ (lK rfl) (by simp only [JJ, List.nil_append]; exact .cons_cons _ (.cons_cons _ (.cons_cons _ (List.sublist_append_left _ _)))) (fun _ _ h => h) ?_; rintro ⟨i, acs, row, E⟩ ⟨hi1, hrow, hin, her⟩; simp only at hi1 hrow hin her; refine Nd ?_; refine cD (fun g => ?_) fun g => ?_
  ·refine kF ?_
   obtain ⟨x, hx, hxm⟩ := Qz (show i < yitems.length by omega)
   obtain ⟨p0, p1, p2, p3, p4, hxi, hp0, hp1, hp2, hp3, hp4⟩ := Jua (hyin x hxm) (hyf x hxm)
   obtain ⟨xa, xb, xc, xd, xbits, xpb, xitems, xpi, xpick⟩ := x
   change xitems = _ at hxi; subst hxi
   have hxin : Vl.In yL _ := hyin _ hxm
   have hsx : Seg yL _ (Qi _) xpi := Jbk hxin
   have hpi0 := hxin.sub p0 me
   have hpi1 := hxin.sub p1 me
   have hpi2 := hxin.sub p2 me
   have hpi3 := hxin.sub p3 me
   have hpi4 := hxin.sub p4 me
   obtain ⟨p0a, p0b, p0c, p0d, p0bi, p0pb, p0it, p0pi, p0pk⟩ := p0
   obtain ⟨p1a, p1b, p1c, p1d, p1bi, p1pb, p1it, p1pi, p1pk⟩ := p1
   obtain ⟨p2a, p2b, p2c, p2d, p2bi, p2pb, p2it, p2pi, p2pk⟩ := p2
   obtain ⟨p3a, p3b, p3c, p3d, p3bi, p3pb, p3it, p3pi, p3pk⟩ := p3
   obtain ⟨p4a, p4b, p4c, p4d, p4bi, p4pb, p4it, p4pi, p4pk⟩ := p4
   obtain ⟨hq0, hq1, hq2, hq3⟩ : p1b = 0 ∧ p1c = 0 ∧ p1d = 0 ∧ XJ p1a := hp1
   subst hq0 hq1 hq2
   obtain ⟨hz16, hzz⟩ := hp4
   change p4it.length ≤ 16 at hz16
   have hsz : Seg yL p4it.length (Qi p4it) p4pi := Jbk hpi4
   change p0it.length = 20 at hp0; change p3it.length ≤ 512 at hp3
   have hba : W4.ok ⟨p2a, p2b, p2c, p2d⟩ := Ju9 hpi2
   refine Hf ?_; refine LR rfl (Jf (j := i) rfl hsY rfl rfl rfl rfl m0) (LR rfl (QH (fun q hq => .inl mh) rfl hsY hx rfl rfl) (LN rfl fun r4 => ?_))
   refine Ng ?_; refine XN 6 [0] rfl rfl (LR rfl (Jf (j := 1) rfl hsx rfl rfl rfl rfl mo) (LR rfl (JD (off' := Xd xpi + 7) rfl rfl (by show Xd xpi + 1 * 7 + 0 = _; omega)) (LR rfl (Xk (j := 7) (vs := [uV p1a, uV 0, uV 0, uV 0]) (fun q hq => .inl mh) rfl hsx (Nat.le_of_ble_eq_true rfl) rfl rfl rfl rfl) (J6 rfl rfl rfl (enters_of Tryz.func61 m5 rfl) (Jal (l := [p1a, 0, 0, 0]) (Jwd hq3)) (Jn ((Jt9 p1a)) (JR 8 rfl ?_))))))
   refine JU [(r4, .cells #[uV xa, uV xb, uV xc, uV xd, KB xbits.length xpb, KB 5 xpi, .int .i64 xpick] 81 (0, 0))] [(0, .pure), (1, .pure), (2, .pure), (5, .pure), (6, .pure), (7, .pure), (8, .pure), (9, .pure), (11, .pure), (12, .pure), (13, .pure), (16, .pure), (17, .grow (Wb xy (.cells #[.string ⟨#[]⟩, .int .u64 0, .int .u64 0, .int .u64 0, .int .u64 0, .int .u64 0, .string ⟨#[]⟩, .slice none 0 0] 34 (0, 0))))] 18 [0, 1, 2, 3, 4, 5, 6, 7, 8, 9, 10, 11, 12, 13, 14, 15, 16, 17] m5 m5 m7 ?_
   refine MG ?_; refine Jm (k := 2) rfl rfl rfl rfl rfl (fun _ _ => Jf (j := 0) rfl hsx rfl rfl rfl rfl mo) (KW (k := 3) rfl rfl rfl rfl rfl (QH (fun q hq => .inl mh) rfl hsx rfl rfl rfl) (Ql (k := 4) (Rl := yL) rfl rfl rfl rfl rfl Jr8 (Jth hpi0 (by show _ ≤ 100000; show p0it.length ≤ 100000; omega)) (fun q hq => .inl mh) (Jm (k := 5) rfl rfl rfl rfl rfl (fun _ hS => (Je rfl)) ?_)))
   refine Jm (k := 6) rfl rfl rfl rfl rfl (fun _ hS => (J7 rfl rfl rfl)) (Jm (k := 7) rfl rfl rfl rfl rfl (fun _ hS => (Jd rfl (.inl (hS _ (Kq (n := 0) rfl))) rfl rfl)) (Jm (k := 8) rfl rfl rfl rfl rfl (fun _ _ => Jf (j := 2) rfl hsx rfl rfl rfl rfl mo) (Jm (k := 9) rfl rfl rfl rfl rfl (fun _ _ => JD (off' := Xd xpi + 14) rfl rfl (by show Xd xpi + 2 * 7 + 0 = _; omega)) (KW (k := 10) rfl rfl rfl rfl rfl (Xk (j := 14) (vs := [uV p2a, uV p2b, uV p2c, uV p2d]) (fun q hq => .inl mh) rfl hsx (Nat.le_of_ble_eq_true rfl) rfl rfl rfl rfl) ?_))))
   refine GQ ?_; refine Jm (k := 12) rfl rfl rfl rfl rfl (fun _ hS => (Jd rfl (.inl (hS _ (Kq (n := 0) rfl))) rfl rfl)) (Jm (k := 13) rfl rfl rfl rfl rfl (fun _ _ => Jf (j := 3) rfl hsx rfl rfl rfl rfl mo) (KW (k := 14) rfl rfl rfl rfl rfl (QH (fun q hq => .inl mh) rfl hsx rfl rfl rfl) (Ql (k := 15) (Rl := yL) rfl rfl rfl rfl rfl Jr8 (Jth hpi3 (by show _ ≤ 100000; show p3it.length ≤ 100000; omega)) (fun q hq => .inl mh) (Jm (k := 16) rfl rfl rfl rfl rfl (fun _ hS => (J8 (r := [_, _, _, _, _, _, _, _]) rfl rfl)) (Yo (k := 17) (cs := #[_, _, _, _, _, _, _, _]) rfl rfl rfl rfl rfl rfl fun r5 => Kz ?_)))))
   refine Ng ?_; refine XN 7 [1] rfl rfl (LR rfl (Jf (j := 4) rfl hsx rfl rfl rfl rfl mo) (LR rfl (JD (off' := Xd xpi + 33) rfl rfl (by show Xd xpi + 4 * 7 + 5 = _; omega)) (LR rfl (j4 (j := 33) (v := KB p4it.length p4pi) (fun q hq => .inl mh) rfl hsx (Nat.le_of_ble_eq_true rfl) rfl rfl) (LR rfl (Ju rfl hsz rfl) (kA ?_))))); refine Jw (σ := Nat × Vk) (fun q => q.1 ≤ p4it.length ∧ rowOk 2 q.1 (wB ((p4it.take q.1).map XG)) q.2) (fun q => [(2, VA r1), (6, VA r3), (11, VA r5), (26, KB yitems.length ypi), (27, .int .i64 (yitems.length : Int)), (28, .int .i64 (i : Int)), (62, KB p4it.length p4pi), (63, .int .i64 (p4it.length : Int)), (64, .int .i64 (q.1 : Int))]) (fun q => (r5, .cells #[Js (YW (.mk p0a p0b p0c p0d p0bi p0pb p0it p0pi p0pk)), uV p1a, uV p2a, uV p2b, uV p2c, uV p2d, Js (YW (.mk p3a p3b p3c p3d p3bi p3pb p3it p3pi p3pk)), Jx q.1 q.2] 34 (0, 0)) :: (r3, .cells #[Jx i row] 24 (0, 0)) :: (r2, .cells #[uV ya, uV yb, uV yc, uV yd, KB ybits.length ypb, KB yitems.length ypi, .int .i64 ypick] 81 (0, 0)) :: (r1, .cells #[.slice none 0 0] 24 (0, 0)) :: (JJ 59 (wB ((p4it.take q.1).map XG)) q.2 ++ (JJ 34 (jE acs) row ++ (E ++ yL)))) (fun _ _ _ => True) (fun q => p4it.length - q.1) (0, none) ⟨Nat.zero_le _, ⟨rfl, rfl⟩⟩ (lK rfl) (by simp only [JJ, List.nil_append]; exact .cons_cons _ (.cons _ (List.Sublist.refl _))) (fun _ _ h => h) ?_; rintro ⟨j, rw2⟩ ⟨hj1, hrow2⟩; simp only at hj1 hrow2; refine Nd ?_; refine cD (fun g => ?_) fun g => ?_
   ·refine kF ?_
    obtain ⟨z, hz, hzm⟩ := Qz (show j < p4it.length by omega)
    obtain ⟨k0, k1, hzi, hk0, hk1⟩ := hzz z hzm
    obtain ⟨za, zb, zc, zd, zbits, zpb, zitems, zpi, zpick⟩ := z
    change zitems = _ at hzi; subst hzi
    have hzin : Vl.In yL _ := hpi4.sub _ hzm
    have hsq : Seg yL _ (Qi _) zpi := Jbk hzin
    have hki0 := hzin.sub k0 me
    have hki1 := hzin.sub k1 me
    refine Hf ?_; refine LR rfl (Jf (j := j) rfl hsz rfl rfl rfl rfl m0) (LR rfl (QH (fun q hq => .inl mh) rfl hsz hz rfl rfl) (LN rfl fun r6 => ?_))
    refine Ng ?_; refine gM ?_
    refine JU [(r5, .cells #[Js (YW (.mk p0a p0b p0c p0d p0bi p0pb p0it p0pi p0pk)), uV p1a, uV p2a, uV p2b, uV p2c, uV p2d, Js (YW (.mk p3a p3b p3c p3d p3bi p3pb p3it p3pi p3pk)), Jx j rw2] 34 (0, 0)), (r6, .cells #[uV za, uV zb, uV zc, uV zd, KB zbits.length zpb, KB 2 zpi, .int .i64 zpick] 81 (0, 0))] [(0, .pure), (1, .pure), (2, .pure), (3, .pure), (4, .pure), (7, .pure), (8, .pure), (9, .pure), (12, .pure), (13, .grow (Wb (slV 1) (.cells #[Js (YW k0), Js (YW k1)] 59 (0, 0))))] 14 [0, 1, 2, 3, 4, 5, 6, 7, 8, 9, 10, 11, 12, 13] m5 m5 m7 ?_
    refine kE ?_; refine Jm (k := 4) rfl rfl rfl rfl rfl (fun _ _ => Jf (j := 0) rfl hsq rfl rfl rfl rfl mo) (KW (k := 5) rfl rfl rfl rfl rfl (QH (fun q hq => .inl mh) rfl hsq rfl rfl rfl) (Ql (k := 6) (Rl := yL) rfl rfl rfl rfl rfl Jr8 (Jth hki0 (by show _ ≤ 100000; omega)) (fun q hq => .inl mh) ?_))
    refine Hi ?_; refine Jm (k := 9) rfl rfl rfl rfl rfl (fun _ _ => Jf (j := 1) rfl hsq rfl rfl rfl rfl mo) (KW (k := 10) rfl rfl rfl rfl rfl (QH (fun q hq => .inl mh) rfl hsq rfl rfl rfl) (Ql (k := 11) (Rl := yL) rfl rfl rfl rfl rfl Jr8 (Jth hki1 (by show _ ≤ 100000; omega)) (fun q hq => .inl mh) (Jm (k := 12) rfl rfl rfl rfl rfl (fun _ hS => (J8 (r := [_, _]) rfl rfl)) (VL (k := 13) (n := 1) (sz := 2) (vs := [_]) (zs := [_, _]) (r := [Js (YW k0), Js (YW k1)]) rfl rfl rfl rfl rfl rfl rfl rfl rfl rfl rfl mi rfl fun rc => Kz (Ks (jk (M := [_, _, _, _, _, _]) ..) (JF (L0 := _) (xs := wB ((p4it.take j).map XG)) (row := rw2) (n := j) (sz := 2) (b := 32) (news := [_, _]) (List.Perm.refl _) rfl rfl rfl rfl (kn 0 rfl) rfl rfl rfl rfl rfl m6 rfl rfl rfl m6 hrow2 m0 m0 fun ra cap sp hra => ?_))))))
    refine LS 1 [] rfl rfl (Kh (k := 3) (cs' := #[Js (YW (.mk p0a p0b p0c p0d p0bi p0pb p0it p0pi p0pk)), uV p1a, uV p2a, uV p2b, uV p2c, uV p2d, Js (YW (.mk p3a p3b p3c p3d p3bi p3pb p3it p3pi p3pk)), Jx (j + 1) (some (ra, cap, sp))]) rfl rfl rfl rfl rfl rfl rfl rfl rfl rfl (N5 ?_)); refine Jn n9 (GU ?_); rw [Jqo hz rfl] at hra ⊢; refine XD (Jxf (P := [_, _]) (M := [_, _, _, _]) ..) ?_; exact Jo (j + 1, some (ra, cap, sp)) ⟨by simp only; omega, hra⟩ ml (lK rfl) (.cons _ (.cons _ (List.Sublist.refl _))) (fun _ _ h => h)
   ·refine kF ?_
    obtain rfl : j = p4it.length := by omega
    rw [List.take_length] at hrow2 ⊢
    have hvr2 : Jx p4it.length rw2 = KB (p4it.map XG).length (QN rw2) := by rw [List.length_map]; exact (V4 _ _ (fun h => by rw [h] at hrow2; exact hrow2.1)).symm
    rw [hvr2]; rw [show p4it.length = (p4it.map XG).length by rw [List.length_map]] at hrow2; refine Wt 4 [1, 0] rfl rfl (JB (vs := [_]) (zs := [_, _, _, _, _, _, _, _]) (r := [_, _, _, _, _, _, _, _]) rfl rfl rfl rfl rfl rfl rfl rfl rfl mi rfl fun r7 => Ks (Jxe (M := [_, _, _, _, _]) ..) (JF (L0 := _) (xs := jE acs) (row := row) (n := i) (sz := 8) (b := 96) (news := [_, _, _, _, _, _, _, _]) (List.Perm.refl _) rfl rfl rfl rfl (kn 0 rfl) rfl rfl rfl rfl rfl m6 rfl rfl rfl m6 hrow m0 m0 fun ra cap sp hra => ?_))
    refine LS 1 [] rfl rfl (Kh (k := 3) (cs' := #[Jx (i + 1) (some (ra, cap, sp))]) rfl rfl rfl rfl rfl rfl rfl rfl rfl rfl (N5 ?_)); refine NF ?_
    have hvc : jE acs ++ AcL.cells (⟨YW (.mk p0a p0b p0c p0d p0bi p0pb p0it p0pi p0pk), p1a, ⟨p2a, p2b, p2c, p2d⟩, YW (.mk p3a p3b p3c p3d p3bi p3pb p3it p3pi p3pk), p4it.map XG, QN rw2⟩ : AcL) = jE (acs ++ [(⟨YW (.mk p0a p0b p0c p0d p0bi p0pb p0it p0pi p0pk), p1a, ⟨p2a, p2b, p2c, p2d⟩, YW (.mk p3a p3b p3c p3d p3bi p3pb p3it p3pi p3pk), p4it.map XG, QN rw2⟩ : AcL)]) := by unfold jE; rw [List.flatMap_append]; simp
    refine XD (Jxg (M := [_, _, _]) ..) ?_; exact Jo (i + 1, acs ++ [(⟨YW (.mk p0a p0b p0c p0d p0bi p0pb p0it p0pi p0pk), p1a, ⟨p2a, p2b, p2c, p2d⟩, YW (.mk p3a p3b p3c p3d p3bi p3pb p3it p3pi p3pk), p4it.map XG, QN rw2⟩ : AcL)], some (ra, cap, sp), JJ 59 (wB (p4it.map XG)) rw2 ++ E) ⟨by simp only; omega, by simp only; rw [← hvc]; exact hra, fun z hz => Jxa hin (KC hrow2 m6) hp0 hp3 hz16 hq3 hba hzz hz, Jxb her hx⟩ ml (lK rfl) n8 (fun _ _ h => h)
  ·refine JS 7 rfl ?_
   have hiM : i = yitems.length := by omega
   have hvl : acs.length = i := by have := congrArg List.length her; simp at this; omega
   rw [hiM, List.take_length] at her
   have hvr : Jx i row = KB acs.length (QN row) := by rw [← hvl]; exact (V4 _ _ (fun h => by rw [h] at hrow; rw [hvl]; exact hrow.1)).symm
   rw [hvr]; rw [← hvl] at hrow
   have hsin : StL.In (JJ 34 (jE acs) row ++ E) ⟨acs, QN row⟩ := Jxc hrow m0 hin
   have hck : KP (StL.er ⟨acs, QN row⟩) = KP (qG gv) := by show KP (acs.map AcL.er) = _; rw [her, ← hby]
   refine Hf ?_; refine gW ?_
   refine Jc (Rl := JJ 34 (jE acs) row ++ E) rfl rfl rfl Jj1 (Xs (s := ⟨acs, QN row⟩) hsin) (fun q hq => .inl nz) (Jn (congrArg (Value.int .i64) hck) ?_); generalize hcz : KP (qG gv) = ck at *; refine He ?_; refine cD (fun g => ?_) fun g => ?_
   refine N6 ?_; refine gg ?_; refine QV rfl ?_
   refine LT 2 rfl rfl (kj ?_); refine GD fun w1 hs1 => ?_; exact ⟨⟨st0L, ck, [], wC, by rw [hPb hge m8]; rfl⟩, rfl, hs1.weakL (List.nil_sublist _)⟩
   ·refine gD ?_; refine gW ?_
    refine LT 2 rfl rfl (gA ?_); refine GD fun w1 hs1 => ?_; exact ⟨⟨⟨acs, QN row⟩, 0, JJ 34 (jE acs) row ++ E, by simpa using hsin, by rw [hPc hge m8]; show (acs.map AcL.er, _) = _; rw [her, ← hby]⟩, rfl, hs1.weakL (.cons _ (.cons _ (.cons _ ((List.Sublist.refl _).append (List.sublist_append_left _ _)))))⟩
def VG : BS := List.replicate 32 0
def Zv : BS := List.replicate 31 0 ++ [7]
def a0W : AcE := ⟨List.replicate 20 0, 1, ⟨5, 0, 0, 0⟩, [99], []⟩
def qh : AcE := ⟨List.replicate 20 0, 1, ⟨5, 0, 0, 0⟩, [99], [(VG, Zv)]⟩
theorem Jz0 : jC a0W VG Zv = (qh, 0) := by decide +kernel
theorem Jz1 : Jfg [] qh = ([qh], 0) := by decide +kernel
theorem Jyv : (Xc [qh]).2 = 0 ∧ (Xc [qh]).1.length = 137 := by decide +kernel
theorem Jz2 : Xc [] = ([], 0) := by decide +kernel
theorem Jz3 : Zu (Xc [qh]).1 = ([qh], 0) := by decide +kernel
theorem Jz4 : jC qh VG VG = (a0W, 0) := by decide +kernel
theorem Jyw : Qj qh VG = Zv ∧ Qj a0W VG = VG := by decide +kernel
theorem Jxh : KP [qh] = 0 ∧ KP [ac0] = 2 := by decide +kernel
theorem Jz5 : V2 [qh] a0W.addr = some qh := by decide +kernel
theorem Jyx : Vt QU (Yg []) = 0 ∧ Vt QU (Yg [qh]) = 0 := by decide +kernel
def Q1 : BS := [173, 50, 40, 182, 118, 247, 211, 205, 66, 132, 165, 68, 63, 23, 241, 150, 43, 54, 228, 145, 179, 10, 64, 178, 64, 88, 73, 229, 151, 186, 95, 181]
def Q2 : BS := [180, 193, 25, 81, 149, 124, 111, 143, 100, 44, 74, 246, 28, 214, 178, 70, 64, 254, 198, 220, 127, 198, 7, 238, 130, 6, 169, 158, 146, 65, 13, 48]
def Q3 : BS := [33, 221, 185, 163, 86, 129, 92, 63, 172, 16, 38, 182, 222, 197, 223, 49, 36, 175, 186, 219, 72, 92, 155, 165, 163, 227, 57, 138, 4, 183, 186, 133]
def Q4 : BS := [229, 135, 105, 179, 42, 27, 234, 241, 234, 39, 55, 90, 68, 9, 90, 13, 31, 182, 100, 206, 45, 211, 88, 231, 252, 191, 183, 140, 38, 161, 147, 68]
def Q5 : BS := [14, 176, 30, 191, 201, 237, 39, 80, 12, 212, 223, 201, 121, 39, 45, 31, 9, 19, 204, 159, 102, 84, 13, 126, 128, 5, 129, 17, 9, 225, 207, 45]
def Q6 : BS := [96, 77, 89, 36, 103, 234, 171, 101, 127, 86, 19, 141, 165, 3, 154, 226, 46, 200, 192, 119, 115, 164, 178, 43, 215, 43, 143, 81, 243, 38, 157, 220]
def P99 : BS := [99, 0, 0, 0, 0, 0, 0, 0, 0, 0, 0, 0, 0, 0, 0, 0, 0, 0, 0, 0, 0, 0, 0, 0, 0, 0, 0, 0, 0, 0, 0, 0]
def PK : BS := [0, 0, 0, 0, 0, 0, 0, 0, 0, 0, 0, 0, 0, 0, 0, 0, 0, 0, 0, 0, 0, 0, 0, 0, 0, 0, 0, 0, 0, 0, 0, 0]
def PV : BS := [0, 0, 0, 0, 0, 0, 0, 0, 0, 0, 0, 0, 0, 0, 0, 0, 0, 0, 0, 0, 0, 0, 0, 0, 0, 0, 0, 0, 0, 0, 0, 7]
def PA : BS := [0, 0, 0, 0, 0, 0, 0, 0, 0, 0, 0, 0, 0, 0, 0, 0, 0, 0, 0, 0, 0, 0, 0, 0, 0, 0, 0, 0, 0, 0, 0, 0]
def PN : BS := [1, 0, 0, 0, 0, 0, 0, 0, 0, 0, 0, 0, 0, 0, 0, 0, 0, 0, 0, 0, 0, 0, 0, 0, 0, 0, 0, 0, 0, 0, 0, 0]
def PB : BS := [5, 0, 0, 0, 0, 0, 0, 0, 0, 0, 0, 0, 0, 0, 0, 0, 0, 0, 0, 0, 0, 0, 0, 0, 0, 0, 0, 0, 0, 0, 0, 0]
def Q7 : BS := [128, 254, 150, 100, 183, 3, 234, 100, 255, 5, 28, 105, 143, 172, 232, 125, 162, 79, 15, 193, 202, 27, 191, 186, 36, 126, 5, 43, 158, 34, 177, 205]
def Q8 : BS := [12, 143, 253, 230, 89, 92, 177, 101, 195, 65, 172, 208, 17, 208, 134, 148, 105, 130, 245, 12, 127, 155, 223, 118, 245, 87, 156, 192, 149, 130, 164, 20]
def Q9 : BS := [231, 246, 47, 82, 53, 130, 220, 255, 58, 248, 170, 101, 254, 92, 10, 94, 129, 224, 115, 51, 214, 167, 236, 16, 87, 100, 76, 60, 193, 22, 77, 189]
def Q10 : BS := [62, 120, 232, 158, 100, 195, 92, 170, 194, 97, 28, 191, 252, 174, 252, 159, 248, 79, 56, 159, 46, 150, 149, 73, 15, 76, 171, 79, 8, 134, 182, 49]
def Q11 : BS := [159, 191, 115, 214, 144, 225, 62, 161, 22, 15, 4, 77, 135, 125, 79, 179, 121, 216, 64, 99, 137, 162, 186, 191, 199, 253, 71, 153, 77, 133, 6, 62]
def Q12 : BS := [109, 82, 87, 32, 78, 190, 125, 136, 253, 145, 174, 135, 148, 28, 178, 221, 157, 128, 98, 182, 74, 229, 162, 189, 45, 40, 236, 64, 185, 251, 246, 223]
def Q13 : BS := [219, 84, 93, 126, 90, 22, 97, 214, 219, 12, 175, 14, 24, 35, 121, 19, 96, 147, 115, 67, 116, 140, 18, 143, 200, 28, 219, 18, 126, 175, 208, 40]
def Q14 : BS := [23, 242, 83, 39, 154, 106, 105, 48, 122, 17, 49, 169, 103, 30, 223, 237, 241, 103, 177, 103, 204, 94, 81, 103, 51, 252, 125, 148, 139, 186, 173, 45]
def Q15 : BS := [52, 223, 211, 179, 13, 160, 50, 23, 248, 175, 8, 3, 182, 4, 200, 151, 161, 119, 191, 139, 113, 79, 167, 155, 96, 200, 79, 82, 8, 239, 145, 74]
def Q16 : BS := [186, 37, 126, 111, 240, 170, 21, 181, 16, 119, 161, 166, 87, 169, 48, 133, 3, 137, 27, 65, 143, 247, 91, 85, 73, 120, 43, 235, 92, 122, 96, 239]
def Q17 : BS := [180, 173, 121, 44, 79, 132, 42, 240, 211, 151, 148, 221, 8, 138, 131, 255, 77, 30, 250, 106, 90, 143, 30, 18, 161, 252, 51, 238, 73, 69, 76, 177]
def Q18 : BS := [84, 232, 13, 242, 58, 159, 134, 25, 68, 76, 175, 139, 251, 62, 114, 226, 64, 114, 104, 255, 38, 198, 163, 22, 62, 224, 158, 73, 64, 114, 159, 201]
def Q19 : BS := [115, 202, 162, 40, 166, 138, 128, 42, 134, 248, 234, 146, 132, 24, 105, 205, 223, 138, 177, 25, 35, 114, 55, 117, 208, 134, 150, 85, 151, 188, 191, 229]
def Q20 : BS := [180, 10, 97, 218, 138, 109, 67, 207, 163, 113, 133, 201, 96, 160, 57, 16, 63, 175, 109, 127, 187, 77, 142, 232, 170, 181, 195, 67, 58, 55, 225, 169]
def Q21 : BS := [253, 23, 46, 35, 170, 157, 49, 24, 12, 247, 30, 169, 0, 87, 50, 185, 216, 5, 140, 215, 36, 182, 139, 203, 0, 33, 239, 230, 200, 70, 39, 49]
def Q22 : BS := [244, 78, 169, 243, 102, 83, 141, 100, 144, 182, 111, 119, 6, 61, 2, 212, 232, 28, 167, 44, 206, 184, 74, 212, 24, 116, 209, 86, 62, 76, 252, 225]
def Q23 : BS := [9, 105, 40, 196, 205, 136, 217, 62, 206, 76, 176, 220, 112, 142, 1, 36, 83, 196, 135, 68, 65, 28, 63, 234, 254, 89, 74, 34, 119, 48, 210, 228]
def Q24 : BS := [88, 211, 15, 198, 238, 204, 186, 245, 5, 111, 150, 205, 215, 28, 56, 16, 233, 35, 194, 185, 183, 143, 241, 68, 99, 169, 24, 34, 58, 107, 231, 130]
def Q25 : BS := [181, 114, 115, 158, 66, 182, 22, 134, 105, 251, 139, 3, 221, 144, 86, 197, 8, 77, 55, 53, 110, 249, 221, 86, 58, 43, 248, 36, 64, 34, 148, 171]
def Q26 : BS := [52, 127, 120, 91, 102, 123, 138, 53, 132, 85, 67, 94, 157, 185, 194, 118, 141, 49, 10, 26, 63, 78, 145, 197, 145, 212, 176, 30, 206, 94, 6, 183]
def Q27 : BS := [135, 195, 149, 32, 136, 174, 247, 12, 19, 129, 47, 222, 135, 39, 233, 95, 192, 198, 12, 79, 85, 128, 196, 204, 132, 162, 119, 43, 49, 122, 252, 83]
def Q28 : BS := [204, 113, 241, 227, 0, 55, 44, 218, 77, 42, 78, 41, 79, 110, 129, 142, 159, 90, 155, 61, 22, 163, 210, 15, 17, 201, 135, 63, 61, 32, 192, 95]
def Q29 : BS := [211, 5, 113, 100, 174, 43, 94, 143, 48, 107, 194, 22, 250, 134, 93, 174, 214, 17, 81, 90, 35, 252, 254, 108, 57, 144, 147, 130, 70, 243, 107, 235]
theorem hq1 : WS (z32 ++ z32) = Q1 := by decide +kernel
theorem hq2 : WS (Q1 ++ Q1) = Q2 := by decide +kernel
theorem hq3 : WS (Q2 ++ Q2) = Q3 := by decide +kernel
theorem hq4 : WS (Q3 ++ Q3) = Q4 := by decide +kernel
theorem hq5 : WS (Q4 ++ Q4) = Q5 := by decide +kernel
theorem hq6 : Yf Q5 0 = Q6 := by decide +kernel
theorem hq7 : WS (P99 ++ z32) = Q7 := by decide +kernel
theorem hq8 : WS (Q7 ++ Q1) = Q8 := by decide +kernel
theorem hq9 : WS (Q8 ++ Q2) = Q9 := by decide +kernel
theorem J0b : WS (Q9 ++ Q3) = Q10 := by decide +kernel
theorem J0c : Yf Q10 1 = Q11 := by decide +kernel
theorem J0d : WS (PK ++ PV) = Q12 := by decide +kernel
theorem J0e : WS (Q12 ++ z32) = Q13 := by decide +kernel
theorem J0f : WS (Q13 ++ Q1) = Q14 := by decide +kernel
theorem J0g : WS (Q14 ++ Q2) = Q15 := by decide +kernel
theorem J0h : WS (Q15 ++ Q3) = Q16 := by decide +kernel
theorem J0i : Yf Q16 1 = Q17 := by decide +kernel
theorem J0j : WS (PA ++ PN) = Q18 := by decide +kernel
theorem J0k : WS (PB ++ Q11) = Q19 := by decide +kernel
theorem J0l : WS (Q17 ++ z32) = Q20 := by decide +kernel
theorem J0m : WS (Q18 ++ Q19) = Q21 := by decide +kernel
theorem J0n : WS (Q20 ++ Q1) = Q22 := by decide +kernel
theorem J0o : WS (Q21 ++ Q22) = Q23 := by decide +kernel
theorem J0p : WS (Q23 ++ z32) = Q24 := by decide +kernel
theorem J0q : WS (Q24 ++ Q1) = Q25 := by decide +kernel
theorem J0r : WS (Q25 ++ Q2) = Q26 := by decide +kernel
theorem J0s : WS (Q26 ++ Q3) = Q27 := by decide +kernel
theorem J0t : WS (Q27 ++ Q4) = Q28 := by decide +kernel
theorem J0u : Yf Q28 1 = Q29 := by decide +kernel
theorem Y1 (k : Nat) (a z : BS) : VJ (k + 1) [a] z = VJ k [WS (a ++ z)] (WS (z ++ z)) := rfl
theorem Jeq (k : Nat) (z : BS) : VJ (k + 1) [] z = VJ k [] (WS (z ++ z)) := rfl
theorem Jva (k : Nat) (a b z : BS) : VJ (k + 1) [a, b] z = VJ k [WS (a ++ b)] (WS (z ++ z)) := by rw [VJ]; simp [Qv, SL.pairUp]
theorem Jyy (k : Nat) (a b c z : BS) : VJ (k + 1) [a, b, c] z = VJ k [WS (a ++ b), WS (c ++ z)] (WS (z ++ z)) := by rw [VJ]; simp [Qv, SL.pairUp]
theorem Jyz (k : Nat) (a b c d e z : BS) : VJ (k + 1) [a, b, c, d, e] z = VJ k [WS (a ++ b), WS (c ++ d), WS (e ++ z)] (WS (z ++ z)) := by rw [VJ]; simp [Qv, SL.pairUp]
theorem Jer (a z : BS) : VJ 0 [a] z = a := rfl
theorem Jy0 (z : BS) : VJ 0 [] z = z := rfl
theorem Jqr : Ky (Yg []) QU = Q6 := by
 have e1 : Vc [] 32 = Q5 := by
  rw [← Y9 m6, show lg 32 = 5 by decide +kernel, Jeq, hq1, Jeq, hq2, Jeq, hq3, Jeq, hq4, Jeq, hq5, Jy0]
 unfold Yg KI QU
 rw [WO, if_neg m6, if_pos rfl]
 unfold Xa
 rw [if_neg m6, if_neg Mk]
 show Yf (Vc [] 32) 0 = _
 rw [e1, hq6]
theorem zZ {l : List Vl} {n : Int} (hx : XB x = false) : Ky (KI l 0) (.mk 4 n none [x]) = Yf (Vc (Kf l 4 0 [x] 0) n.toNat) l.length := by
 unfold KI
 rw [WO, if_neg m6, if_pos rfl]
 unfold Xa
 rw [if_neg m6, if_neg (by rw [show [x].getD 0 default = x from rfl, hx]; decide)]
theorem Jes {l : List Vl} {ins : List Ty} : Ky (KI l 0) (.mk 7 0 none ins) = Vc (Kf l 7 0 ins 0) ins.length := by
 unfold KI
 rw [WO, if_neg m6, if_neg m6, if_neg m6, if_neg m6, if_neg m6]
 unfold Xa
 rw [if_pos rfl]
theorem Jkw : Ky (yA [99]) (WQ 4 512) = Q11 := by
 have e1 : Xa 4 512 [byT] [jY 99] (Kf [jY 99] 4 0 [byT] 0) = Vc [P99] 16 := by
  unfold Xa
  rw [if_neg m6, if_pos Mk, show YF (Xi [jY 99] ([byT].getD 0 default)) = [P99] by decide +kernel, show ((512 : Int).toNat * (JV ([byT].getD 0 default)).toNat + 31) / 32 = 16 by decide +kernel]
 have e2 : Vc [P99] 16 = Q10 := by
  rw [← Y9 m6, show lg 16 = 4 by decide +kernel, Y1, hq7, hq1, Y1, hq8, hq2, Y1, hq9, hq3, Y1, J0b, hq4, Jer]
 unfold yA KI WQ
 rw [WO, if_neg m6, if_pos rfl]
 show Yf (Xa 4 512 [byT] [jY 99] (Kf [jY 99] 4 0 [byT] 0)) 1 = _
 rw [e1, e2, J0c]
theorem Jqs : Ky (yA VG) (WQ 3 32) = PK := by decide +kernel
theorem Jqt : Ky (yA Zv) (WQ 3 32) = PV := by decide +kernel
theorem Jqu : Ky (yA (List.replicate 20 0)) (WQ 3 20) = PA := by decide +kernel
theorem Jkx : Ky (qa (VG, Zv)) qE = Q12 := by
 unfold qa qE
 rw [Jes]
 show Vc [Ky (yA VG) (WQ 3 32), Ky (yA Zv) (WQ 3 32)] 2 = _
 rw [Jqs, Jqt, ← Y9 m6, show lg 2 = 1 by decide +kernel, Jva, J0d, Jer]
theorem Jge : Ky (KI [qa (VG, Zv)] 0) (.mk 4 16 none [qE]) = Q17 := by
 rw [zZ Mk]
 show Yf (Vc [Ky (qa (VG, Zv)) qE] 16) 1 = _
 rw [Jkx, ← Y9 m6, show lg 16 = 4 by decide +kernel, Y1, J0e, hq1, Y1, J0f, hq2, Y1, J0g, hq3, Y1, J0h, hq4, Jer, J0i]
theorem Jud : Ky (acV qh) acT = Q23 := by
 unfold acV acT
 rw [Jes]
 show Vc [Ky (yA (List.replicate 20 0)) (WQ 3 20), Ky (.mk 1 0 0 0 [] none [] none 0) (.mk 1 8 none []), Ky (.mk 5 0 0 0 [] none [] none 0) (.mk 1 32 none []), Ky (yA [99]) (WQ 4 512), Ky (KI [qa (VG, Zv)] 0) (.mk 4 16 none [qE])] 5 = _
 rw [Jqu, Jkw, Jge, show Ky (.mk 1 0 0 0 [] none [] none 0) (.mk 1 8 none []) = PN by decide +kernel, show Ky (.mk 5 0 0 0 [] none [] none 0) (.mk 1 32 none []) = PB by decide +kernel, ← Y9 m6, show lg 5 = 3 by decide +kernel, Jyz, J0j, J0k, J0l, hq1, Jyy, J0m, J0n, hq2, Jva, J0o, Jer]
theorem Jqv : Ky (Yg [qh]) QU = Q29 := by
 unfold Yg QU
 rw [zZ Mk]
 show Yf (Vc [Ky (acV qh) acT] 32) 1 = _
 rw [Jud, ← Y9 m6, show lg 32 = 5 by decide +kernel, Y1, J0p, hq1, Y1, J0q, hq2, Y1, J0r, hq3, Y1, J0s, hq4, Y1, J0t, hq5, Jer, J0u]
theorem J0v : qb [] = (Q6, 0) := by rw [Jeo Mk Jyx.1, Jqr]
theorem J0w : qb [qh] = (Q29, 0) := by rw [Jeo Jxh.1 Jyx.2, Jqv]
theorem J0x : Q6 ≠ Q29 := by decide +kernel
def yU : BS := List.replicate 20 0
def a0L : AcL := ⟨yU, 1, ⟨5, 0, 0, 0⟩, [99], [], none⟩
theorem Jqw : a0L.In R := ⟨by decide, by unfold XJ; decide, ⟨by unfold XJ; decide, Wk, Wk, Wk⟩, by decide, by decide, rfl, by simp [a0L]⟩
theorem Zw {a b : Bool} (h : a = b) : Value.bool a = .bool b := congrArg _ h
theorem Jy1 {a b : BS} (h : a ≠ b) : (!decide (a = b)) = true := by simp [h]
theorem Jqx {n : Nat} (h : s.length = n) : Value.int .i64 (s.length : Int) = .int .i64 (n : Int) := by rw [h]
theorem Jue (r : Nat) : StL.In [(r, Obj.cells ac0L.cells.toArray 34 (0, 0))] ⟨[ac0L], some (⟨r, 0, none⟩, 1)⟩ :=
 ⟨by show 1 ≤ WK; decide, ⟨Nat.le_refl _, fun _ => ⟨rfl, _, _, _, List.mem_singleton_self _, rfl⟩⟩, fun a ha => by rw [List.mem_singleton.1 ha]; exact Jmk⟩
theorem J0y : wV (Yg [qh]) ≤ 20000 := by decide +kernel
set_option maxHeartbeats 2000000 in
theorem Jky : Pure Tryz.prog 11 #[] (.bool true) := by
 have k1 : jC a0L.er VG Zv = (qh, 0) := Jz0
 have k2 := Jz1
 have k3 : V2 [qh] yU = some qh := Jz5
 have k4 := J0y
 have k5 := Jz4
 have k6 := Jyw.1
 have k7 : Qj a0L.er VG = VG := Jyw.2
 have k8 := Jxh.1
 have k9 := Jxh.2
 have hB := show Xc [qh] = ((Xc [qh]).1, 0) from Prod.ext rfl Jyv.1
 have htl := Jyv.2
 have hP := Jz3
 have hE := Jz2
 generalize (Xc [qh]).1 = tb at hB htl hP
 have hR0 := J0v
 have hR1 := J0w
 have hne := J0x
 have hrl : Q29.length = 32 := by decide
 generalize Q6 = ra at hR0 hne
 generalize Q29 = rb at hR1 hne hrl
 refine J5 Tryz.func11 rfl rfl fun w => JT (Jr 7 rfl (W1 (n := 32) (b := 1) rfl rfl rfl rfl rfl rfl rfl rfl rfl m6 m6 fun rk => ?_)); rw [show List.replicate 32 (Value.int .u8 0) = (VG).map bV from rfl]; refine LR rfl (QG (b := VG) (row := some (rk, 32, [])) (e := 5) (show _ = some (Jx (List.length VG) _) from rfl) ⟨rfl, rfl⟩ (fun p hp => .inl mA) rfl rfl rfl) (gB ?_); refine LR rfl (V9 (kl := some (.i64, 1)) (kh := none) (m := 1) (n := 32) rfl rfl rfl rfl rfl rfl m6 m6 (show _ = List.replicate 31 0 from rfl)) (LR rfl (Vy (a := List.replicate 31 0) (b := [7]) rfl rfl m6) (Jn (show _ = Js Zv from rfl) (N5 ?_))); refine W1 (n := 20) (b := 1) rfl rfl rfl rfl rfl rfl rfl rfl rfl m6 m6 fun rz => ?_; rw [show List.replicate 20 (Value.int .u8 0) = (yU).map bV from rfl]; refine LR rfl (QG (b := yU) (row := some (rz, 20, [])) (e := 5) (show _ = some (Jx (List.length yU) _) from rfl) ⟨rfl, rfl⟩ (fun p hp => .inl mA) rfl rfl rfl) (Nn ?_); refine Ga ?_; refine LN rfl fun r1 => Jk (k := 0) (n := 8) (ys := (a0L).cells) rfl rfl rfl rfl rfl rfl rfl rfl rfl (GS ?_); refine LR rfl (Jg (xs := (a0L).cells) (n := 8) rfl (kn 0 rfl) rfl rfl rfl) (ko ?_); refine KA rfl rfl rfl Jvz (Jp4 (R := []) Jqw VG Zv) oN fun x => gx ?_
 obtain ⟨xa, xe, xL, xok, xeq⟩ := x
 obtain ⟨hxa, rfl⟩ : xa.er = qh ∧ xe = 0 := by have := xeq.trans k1; exact Prod.mk.inj this
 have xok : xa.In xL := by simpa using xok
 change HL _ _ ((37, .tuple #[xa.val, .int .i64 0]) :: _) (_ :: _ :: _ :: xL) _ _ _ _; refine kz ?_; refine LN rfl fun r2 => Jk (k := 0) (n := 8) (ys := (xa).cells) rfl rfl rfl rfl rfl rfl rfl rfl rfl (N5 ?_); refine gg ?_; refine LR rfl (Jg (xs := (xa).cells) (n := 8) rfl (kn 0 rfl) rfl rfl rfl) (KA rfl rfl rfl (enters_of Tryz.func23 m5 rfl) (Ju7 (R := xL) (s := st0L) wC xok) (fun q hq => .inl (by simp [hq])) fun y => Ks (jk _ [_, _, _, _] xL) ?_)
 obtain ⟨ys, ye, yL, yok, yeq⟩ := y
 obtain ⟨hys, rfl⟩ : ys.er = [qh] ∧ ye = 0 := by have := yeq.trans ((congrArg (Jfg []) hxa).trans k2); exact Prod.mk.inj this
 change HL _ _ ((43, .tuple #[ys.val, .int .i64 0]) :: _) (_ :: _ :: _ :: _ :: (yL ++ xL)) _ _ _ _; refine kz ?_; refine LN rfl fun r3 => Jk (k := 0) (n := 1) (ys := (ys).cells) rfl rfl rfl rfl rfl rfl rfl rfl rfl (N5 ?_); refine LR rfl (Jg (xs := (ys).cells) (n := 1) rfl (kn 0 rfl) rfl rfl rfl) (LS 2 [2] rfl rfl ?_)
 refine Jc rfl rfl rfl (enters_of Tryz.func14 m5 rfl) (Jw3 (R := yL ++ xL) yok yU) (fun q hq => .inl ms) ?_
 have hcf : VQ ys yU = true := by rw [Jcx, hys, k3]; rfl
 have hce : (VD ys yU).er = qh := by rw [Jrv, hys, k3]; rfl
 have hci := Jrw yok yU
 rw [hcf]
 generalize VD ys yU = ca at hce hci ⊢
 refine kz ?_; refine LN rfl fun r4 => Jk (k := 0) (n := 8) (ys := (ca).cells) rfl rfl rfl rfl rfl rfl rfl rfl rfl (N5 ?_); refine LR rfl (Jg (xs := (ys).cells) (n := 1) rfl (kn 1 rfl) rfl rfl rfl) ?_
 refine Jc rfl rfl rfl (enters_of Tryz.func27 m5 rfl) (zY (R := yL ++ xL) yok (fun _ => by rw [hys]; exact k4)) (fun q hq => .inl ms) (Jn ((congrArg ja (by rw [hys]; exact hB) : _ = ja (tb, 0))) (JM 10 rfl (KA rfl rfl rfl (enters_of Tryz.func31 m5 rfl) (Jku tb) oN fun u => Ks (jk _ [_, _, _, _, _, _] _) ?_)))
 obtain ⟨us, ue, uL, uok, ueq⟩ := u
 obtain ⟨hus, rfl⟩ : us.er = [qh] ∧ ue = 0 := by have := ueq.trans hP; exact Prod.mk.inj this
 have uok : us.In uL := by simpa using uok
 change HL _ _ ((60, .tuple #[us.val, .int .i64 0]) :: _) (_ :: _ :: _ :: _ :: _ :: _ :: (uL ++ (yL ++ xL))) _ _ _ _; refine kz ?_; refine LN rfl fun r5 => Jk (k := 0) (n := 1) (ys := (us).cells) rfl rfl rfl rfl rfl rfl rfl rfl rfl (N5 ?_); refine gg ?_; refine Jc rfl rfl rfl (enters_of Tryz.func27 m5 rfl) (zY (R := []) (s := st0L) wC (fun _ => by decide +kernel)) oN (Jn ((congrArg ja hE : _ = ja ([], 0))) (JM 9 rfl (LR rfl (Jg (xs := (xa).cells) (n := 8) rfl (kn 3 rfl) rfl rfl rfl) (ko ?_)))); refine KA rfl rfl rfl Jvz (Jp4 (R := xL) xok VG VG) (fun q hq => .inl (by simp [hq])) fun z => Ks (jk _ [_, _, _, _, _, _, _] _) ?_
 obtain ⟨da, de, dL, dok, deq⟩ := z
 obtain ⟨hda, rfl⟩ : da.er = a0W ∧ de = 0 := by have := deq.trans ((congrArg (fun e => jC e VG VG) hxa).trans k5); exact Prod.mk.inj this
 change HL _ _ ((72, .tuple #[da.val, .int .i64 0]) :: _) (_ :: _ :: _ :: _ :: _ :: _ :: _ :: (dL ++ (uL ++ (yL ++ xL)))) _ _ _ _; refine kz ?_; refine LN rfl fun r6 => Jk (k := 0) (n := 8) (ys := (da).cells) rfl rfl rfl rfl rfl rfl rfl rfl rfl (N5 ?_); refine GI ?_
 refine Jc rfl rfl rfl (enters_of Tryz.func29 m5 rfl) (Jep (R := yL ++ xL) yok (fun _ => by rw [hys]; exact k4)) (fun q hq => .inl ms) (Jn ((congrArg ja (by rw [hys]; exact hR1) : _ = ja (rb, 0))) (JM 9 rfl (gg ?_))); refine Jc rfl rfl rfl (enters_of Tryz.func29 m5 rfl) (Jep (R := []) (s := st0L) wC (fun _ => by decide +kernel)) oN (Jn ((congrArg ja hR0 : _ = ja (ra, 0))) (JM 9 rfl (LR rfl (Jg (xs := (ca).cells) (n := 8) rfl (kn 2 rfl) rfl rfl rfl) (LR rfl (Jg (xs := (xa).cells) (n := 8) rfl (kn 4 rfl) rfl rfl rfl) ?_))))
 refine Jc rfl rfl rfl Jr5 (YI (R := yL ++ xL) hci (xok.mono fun q hq => List.mem_append_right _ hq)) (fun q hq => .inl ms) (Jn (Zw (show decide (ca.er = xa.er) = true from decide_eq_true (hce.trans hxa.symm))) (N5 ?_)); refine LR rfl (Jg (xs := (da).cells) (n := 8) rfl (kn 0 rfl) rfl rfl rfl) (LR rfl (Jg (xs := (a0L).cells) (n := 8) rfl (kn 5 rfl) rfl rfl rfl) ?_)
 refine Jc rfl rfl rfl Jr5 (YI (R := dL ++ xL) dok (b := a0L) Jqw) (fun q hq => .inl ms) (Jn (Zw (show decide (da.er = a0L.er) = true from decide_eq_true (hda.trans rfl))) (JM 18 rfl (LR rfl (Jg (xs := (ca).cells) (n := 8) rfl (kn 2 rfl) rfl rfl rfl) (QV rfl ?_))))
 refine Jc rfl rfl rfl (enters_of Tryz.func20 m5 rfl) (Jp2 (R := yL ++ xL) hci VG) (fun q hq => .inl ms) (Jn (congrArg Js (show Qj ca.er VG = Zv by rw [hce]; exact k6)) (QV rfl (LR rfl (Vi (a := Zv) (b := Zv) rfl rfl) (Jn (Zw (show decide (Zv = Zv) = true from decide_eq_true rfl)) ?_)))); refine ko ?_; refine LR rfl (Jg (xs := (a0L).cells) (n := 8) rfl (kn 5 rfl) rfl rfl rfl) (QV rfl (Jc rfl rfl rfl (enters_of Tryz.func20 m5 rfl) (Jp2 (R := []) (a := a0L) Jqw VG) oN (Jn (congrArg Js (show Qj a0L.er VG = VG from k7)) ?_))); refine QV rfl (LR rfl (Vi (a := VG) (b := VG) rfl rfl) (Jn (Zw (show decide (VG = VG) = true from decide_eq_true rfl)) ?_)); refine kz ?_; refine LR rfl (wk rfl rfl rfl) (Jn (show _ = Value.int .i64 137 from Jqx htl) (LS 7 [] rfl rfl (GI ?_))); refine LR rfl (Jg (xs := (us).cells) (n := 1) rfl (kn 1 rfl) rfl rfl rfl) ?_
 refine Jc rfl rfl rfl (enters_of Tryz.func21 m5 rfl) (Jp7 (R := uL ++ (yL ++ xL)) (yok.mono fun q hq => List.mem_append_right _ hq) (uok.mono fun q hq => List.mem_append_left _ hq)) (fun q hq => .inl (by simp only [List.mem_append] at hq; rcases hq with h | h | h <;> simp [h])) ?_; refine Jn (Zw (show decide (ys.er = us.er) = true from decide_eq_true (hys.trans hus.symm))) ?_; refine LS 7 [] rfl rfl ?_; refine LR rfl (Vi (a := ([] : BS)) (b := ([] : BS)) rfl rfl) ?_; refine Jn (Zw (show decide (([] : BS) = ([] : BS)) = true from decide_eq_true rfl)) ?_; refine LS 14 [] rfl rfl ?_; refine LR rfl (wk rfl rfl rfl) ?_; refine Jn (show _ = Value.int .i64 32 from Jqx hrl) ?_; refine LS 9 [] rfl rfl ?_; refine LR rfl (W3 (a := ra) (b := rb) rfl rfl) ?_; refine Jn (Zw (Jy1 hne)) ?_; refine LS 6 [] rfl rfl ?_; refine GI ?_
 refine Jc rfl rfl rfl Jj1 (Xs (R := yL ++ xL) yok) (fun q hq => .inl ms) (Jn (congrArg (Value.int .i64) (show KP ys.er = 0 by rw [hys]; exact k8)) (kz ?_)); refine Ga ?_; refine JB (vs := [_]) (zs := [_, _, _, _, _, _, _, _]) (r := ac0L.cells) rfl rfl rfl rfl rfl rfl rfl rfl rfl mi rfl fun rx => gg ?_; refine Jc (Rl := [(rx, _)]) rfl rfl rfl Jj1 (Xs (s := ⟨[ac0L], some (⟨rx, 0, none⟩, 1)⟩) (Jue rx)) (fun q hq => .inl mU) (Jn (congrArg (Value.int .i64) (show KP [ac0] = 2 from k9)) (Jy 6 rfl ?_)); exact MK
section
open Go Go.ChangeShapes Go.WideShapes
variable {H : Type} {enc : TypeId × Value → H} {P : Program} {w : World} {base : Nat} {sp : Nat → Bool} {held : Bool}
theorem open_acV {tA tT tS tL tW tu tI : Nat} {fs fa : Array Field} (ht : P.underlying tT = some (.struct fs)) (hT : P.cellsOf tT = 2) (h0 : (fs[0]?).map (fun f => (f.type, f.offset)) = some (tS, 0)) (h1 : (fs[1]?).map (fun f => (f.type, f.offset)) = some (tS, 1)) (hS : P.underlying tS = some .string) (hSc : P.cellsOf tS = 1)
  (ha : P.underlying tA = some (.struct fa)) (hA : P.cellsOf tA = 8) (a0 : (fa[0]?).map (fun f => (f.type, f.offset)) = some (tS, 0)) (a1 : (fa[1]?).map (fun f => (f.type, f.offset)) = some (tI, 1)) (a2 : (fa[2]?).map (fun f => (f.type, f.offset)) = some (tW, 2)) (a3 : (fa[3]?).map (fun f => (f.type, f.offset)) = some (tS, 6)) (a4 : (fa[4]?).map (fun f => (f.type, f.offset)) = some (tL, 7))
  (hI : P.underlying tI = some (.int .u64)) (hIc : P.cellsOf tI = 1) (hW : P.underlying tW = some (.array 4 tu)) (hWc : P.cellsOf tW = 4) (hu : P.underlying tu = some (.int .u64)) (huc : P.cellsOf tu = 1) (hL : P.underlying tL = some (.slice tT)) (hLc : P.cellsOf tL = 1)
  {r : Reach} {b0 : Nat} {v : Value} {d : DataW H} {ps : List MemPlace} (hval : Value.okWide P w r b0 tA v) (hd : DataW.Trod enc P w base sp held tA v d ps) : ∃ a : AcL, v = a.val ∧ a.In (Jb8 w) := by
 obtain ⟨fuel, h⟩ := hd
 generalize hcs : v.cells.toList = cs at h
 obtain ⟨a, e, hin⟩ := Jg5 ht hT h0 h1 hS hSc ha hA a0 a1 a2 a3 a4 hI hIc hW hWc hu huc hL hLc h
 exact ⟨a, qU ha hval (hcs.trans e), hin⟩
end
theorem L_StatePuts {s : StL} (hs : s.In R) (ha : a.In R) (key val : BS) : PureR Tryz.prog 4 [s.val, a.val, Js key, Js val].toArray (.bool true) R := by
  have g1 := Ju7 hs ha
  have g2 := Jqh hs ha
  generalize Jfg s.er a.er = p1 at g1 g2
  have g3 := Jp4 ha key val
  have g4 := Jw4 ha key val
  generalize jC a.er key val = p2 at g3 g4
  have f1 := Jty hs
  have f2 := zV ha
  generalize Jtv s.er = b1 at f1
  generalize jh a.er = b2 at f2
  refine Ja Tryz.func4 rfl rfl fun w => gz ?_; refine KO (cs := (s).cells.toArray) rfl rfl rfl rfl fun r1 => KO (cs := (a).cells.toArray) rfl rfl rfl rfl fun r2 => N5 ?_; refine J6 rfl rfl rfl (enters_of Tryz.func11 m5 rfl) Jky (JR 10 rfl (JA rfl (fun g => ?_) (fun g => ?_)))
  try exact Bool.noConfusion g
  · try simp only [ZZ] at g
    refine gD ?_; refine LR rfl (Jg (xs := (s).cells) (n := 1) rfl (kn 1 rfl) rfl rfl rfl) (Jc rfl rfl rfl (enters_of Tryz.func12 m5 rfl) f1 oR (QV rfl ?_))
    refine J0 26 rfl (fun gb => ?_) (fun gb => ?_) <;> (try simp only [ZZ] at gb) <;> first | (refine LR rfl (Jg (xs := (a).cells) (n := 8) rfl (kn 0 rfl) rfl rfl rfl) ?_) | (refine LK rfl ?_)
    all_goals first | (refine Jc rfl rfl rfl (enters_of Tryz.func22 m5 rfl) f2 oR ?_) | refine LK rfl ?_
    all_goals (
     refine LW 2 [] rfl rfl (Jy 1 rfl (gqo 7 rfl ?_))
     first | refine LK rfl ?_ | (refine J0 32 rfl (fun gb => ?_) (fun gb => ?_) <;> (try simp only [ZZ] at gb) <;> first | (refine QV rfl ?_) | (refine LK rfl ?_))
     all_goals refine MX ?_
     all_goals refine LW 3 [] rfl rfl ?_
     all_goals first | refine LK rfl ?_ | (refine J0 37 rfl (fun gb => ?_) (fun gb => ?_) <;> (try simp only [ZZ] at gb) <;> first | (refine QV rfl ?_) | (refine LK rfl ?_))
     all_goals refine MX ?_
     all_goals (
      refine Ni ?_; refine JA rfl (fun g => ?_) (fun g => ?_)
      try simp only [ZZ] at g
      refine KS 8 rfl ?_; exact MK
      · try exact Bool.noConfusion g
        all_goals try simp only [ZZ] at g
        all_goals (
         refine gD ?_; refine LR rfl (Jg (xs := (s).cells) (n := 1) rfl (kn 1 rfl) rfl rfl rfl) (LR rfl (Jg (xs := (a).cells) (n := 8) rfl (kn 0 rfl) rfl rfl rfl) (KA (Rl := R) rfl rfl rfl (enters_of Tryz.func23 m5 rfl) (g1) oR fun x => gx ?_))
         obtain ⟨xs, xe, xL, xok, xeq⟩ := x
         change HL _ _ ((46, .tuple #[xs.val, .int .i64 xe]) :: _) (_ :: _ :: xL) _ _ _ _; refine kz ?_; refine LN rfl fun r1 => Jk (k := 0) (n := 1) (ys := (xs).cells) rfl rfl rfl rfl rfl rfl rfl rfl rfl (N5 ?_); refine LR rfl (Jg (xs := (s).cells) (n := 1) rfl (kn 2 rfl) rfl rfl rfl) (LR rfl (Jg (xs := (a).cells) (n := 8) rfl (kn 1 rfl) rfl rfl rfl) (KA (Rl := R) rfl rfl rfl (enters_of Tryz.func24 m5 rfl) (g2) oR fun y => Ks (jk _ [_, _, _] _) ?_))
         obtain ⟨ys, ye, yL, yok, yeq⟩ := y
         change HL _ _ ((52, .tuple #[ys.val, .int .i64 ye]) :: _) (_ :: _ :: _ :: (yL ++ xL)) _ _ _ _
         obtain ⟨hxy, rfl⟩ : xs.er = ys.er ∧ xe = ye := Prod.mk.inj (xeq.trans yeq.symm)
         refine kz ?_; refine LN rfl fun r2 => Jk (k := 0) (n := 1) (ys := (ys).cells) rfl rfl rfl rfl rfl rfl rfl rfl rfl (N5 ?_); refine LR rfl (Jg (xs := (a).cells) (n := 8) rfl (kn 2 rfl) rfl rfl rfl) (ko ?_); refine KA (Rl := R) rfl rfl rfl Jvz (g3) oR fun z => Ks (jk _ [_, _, _, _] _) ?_
         obtain ⟨zs, ze, zL, zok, zeq⟩ := z
         change HL _ _ ((59, .tuple #[zs.val, .int .i64 ze]) :: _) (_ :: _ :: _ :: _ :: (zL ++ (yL ++ xL))) _ _ _ _; refine kz ?_; refine LN rfl fun r3 => Jk (k := 0) (n := 8) (ys := (zs).cells) rfl rfl rfl rfl rfl rfl rfl rfl rfl (N5 ?_); refine LR rfl (Jg (xs := (a).cells) (n := 8) rfl (kn 3 rfl) rfl rfl rfl) (ko ?_); refine KA (Rl := R) rfl rfl rfl (enters_of Tryz.func26 m5 rfl) (g4) oR fun v => Ks (jk _ [_, _, _, _, _] _) ?_
         obtain ⟨vs, ve, vL, vok, veq⟩ := v
         change HL _ _ ((66, .tuple #[vs.val, .int .i64 ve]) :: _) (_ :: _ :: _ :: _ :: _ :: (vL ++ (zL ++ (yL ++ xL)))) _ _ _ _
         obtain ⟨hzv, rfl⟩ : zs.er = vs.er ∧ ze = ve := Prod.mk.inj (zeq.trans veq.symm)
         refine kz ?_; refine LN rfl fun r4 => Jk (k := 0) (n := 8) (ys := (vs).cells) rfl rfl rfl rfl rfl rfl rfl rfl rfl (N5 ?_); refine LR rfl (Jg (xs := (xs).cells) (n := 1) rfl (kn 3 rfl) rfl rfl rfl) (LR rfl (Jg (xs := (ys).cells) (n := 1) rfl (kn 2 rfl) rfl rfl rfl) ?_)
         refine Jc (Rl := yL ++ (xL ++ R)) rfl rfl rfl (enters_of Tryz.func18 m5 rfl) (Jt1 (R := yL ++ (xL ++ R)) (xok.mono fun q hq => List.mem_append_right _ hq) (yok.mono fun q hq => by simp only [List.mem_append] at hq ⊢; rcases hq with h | h <;> simp [h])) (fun q hq => by simp only [List.mem_append] at hq; rcases hq with h | h | h <;> first | exact Or.inr h | exact Or.inl (by simp [h])) ?_; refine Jn (Zw (show decide (xs.er = ys.er) = true from decide_eq_true hxy)) ?_; refine JM 5 rfl ?_; refine LR rfl (Jg (xs := (zs).cells) (n := 8) rfl (kn 1 rfl) rfl rfl rfl) ?_; refine LR rfl (Jg (xs := (vs).cells) (n := 8) rfl (kn 0 rfl) rfl rfl rfl) ?_
         refine Jc (Rl := vL ++ (zL ++ R)) rfl rfl rfl Jr5 (YI (R := vL ++ (zL ++ R)) (zok.mono fun q hq => List.mem_append_right _ hq) (vok.mono fun q hq => by simp only [List.mem_append] at hq ⊢; rcases hq with h | h <;> simp [h])) (fun q hq => by simp only [List.mem_append] at hq; rcases hq with h | h | h <;> first | exact Or.inr h | exact Or.inl (by simp [h])) ?_; refine Jn (Zw (show decide (zs.er = vs.er) = true from decide_eq_true hzv)) ?_; refine JM 13 rfl ?_; refine Jn (Zw (show (xe == xe) = true from by simp)) ?_; refine LS 8 [] rfl rfl ?_; refine Jn (Zw (show (ze == ze) = true from by simp)) ?_; refine Jy 5 rfl ?_; refine pT rfl rfl rfl fun w1 hs1 => ?_; exact ⟨rfl, hs1.keep⟩
         skip)
      skip)
     skip)
end Go.Proofs.YteceenlfegnigaaGreatDoor
