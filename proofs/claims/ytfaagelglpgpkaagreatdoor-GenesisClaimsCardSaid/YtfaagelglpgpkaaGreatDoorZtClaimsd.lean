import Derived.Test.YtfaagelglpgpkaaGreatDoorZtClaimsc
set_option maxRecDepth 100000
namespace Go.Proofs.YtfaagelglpgpkaaGreatDoor
set_option linter.all false
open Go.SL Go.RowKit Go.Shelf
variable {af : Array Edge} {Y root rt : BS} {own : Bool} {g : FuncId} {dp f : Int} {E E' L0 R Rl : Jx} {xs : List AcL} {a : List Nat} {caps sp vs : List Value} {α : Type} {ys : List α} {N b c cap d e e1 e2 i j m o off rb rv sz : Nat} {fr : Nat × Nat} {x y : Operand} {gd : Option (Nat × Bool)} {pb pi : Pl} {P : Program} {row : QC} {r : Rec} {s : StL} {ps : String} {t : Ty} {ty : TypeId} {z : Value} {q v : Vl} {w : World} {X : XP} {V : α → Value}
theorem Jyg : Pure Tryz.prog 176 [].toArray (.agg (turnsL.map iV).toArray) := by
 refine Jl Tryz.func176 O O fun w => Nj fun r1 => ?_; refine Ge ?_; refine LR O (Ju (r := turnsL.map iV) O m6) (Jj (k := 0) (n := 25) (ys := turnsL.map iV) O O O O O O O O O (H6 ?_)); refine Jf O O (.cons (Js (vs := turnsL.map iV) O (kn 0 O) O O) .nil) (fun w1 hs1 => ?_); exact No
theorem Jos : Pure Tryz.prog 177 [].toArray (.agg (numsL.map uV).toArray) := by
 refine Jl Tryz.func177 O O fun w => Nj fun r1 => ?_; refine Ge ?_; refine LR O (Ju (r := numsL.map uV) O m6) (Jj (k := 0) (n := 24) (ys := numsL.map uV) O O O O O O O O O (H6 ?_)); refine Jf O O (.cons (Js (vs := numsL.map uV) O (kn 0 O) O O) .nil) (fun w1 hs1 => ?_); exact No
theorem Jsy (i : Nat) : turnsL.getD i 0 < 9223372036854775808 := by
 by_cases h : i < 25
 ·have : turnsL.all (fun x => decide (x < 9223372036854775808)) = true := by decide
  have hm : turnsL.getD i 0 ∈ turnsL := by simp [List.getD_eq_getElem?_getD, show i < turnsL.length from h]
  exact of_decide_eq_true (List.all_eq_true.1 this _ hm)
 ·rw [List.getD_eq_getElem?_getD, List.getElem?_eq_none (by simpa [turnsL] using h)]; decide
theorem Jot (ha : SOk 25 a) : Pure Tryz.prog 109 [.agg (a.map uV).toArray].toArray (.agg ((qy a).map uV).toArray) := by
 refine Jl Tryz.func109 O O fun w => JJ ?_
 have hal := ha.1
 obtain ⟨tu, htu⟩ : ∃ t, t = turnsL := ⟨_, rfl⟩
 have htul : tu.length = 25 := by rw [htu]; rfl
 have htub : ∀ i, tu.getD i 0 < 9223372036854775808 := by rw [htu]; exact Jsy
 obtain ⟨nu, hnu⟩ : ∃ t, t = numsL := ⟨_, rfl⟩
 have hnuk : SOk 24 nu := by rw [hnu]; exact numsL_ok
 have hnul := hnuk.1
 have hPt : Pure Tryz.prog 176 [].toArray (.agg (tu.map iV).toArray) := by rw [htu]; exact Jyg
 have hPn : Pure Tryz.prog 177 [].toArray (.agg (nu.map uV).toArray) := by rw [hnu]; exact Jos
 refine kZ fun r1 r2 => ?_; refine Ge ?_; refine LR O (Jd (xs := a.map uV) (n := 25) O (kn 1 O) O O (by rw [List.length_map, hal])) (F1 fun r3 => ?_); refine Jj (k := 0) (n := 25) (ys := a.map uV) O O O O O (by rw [List.length_map, hal]) rfl (VC _) rfl (Ge ?_); refine Jn O O O (enters_of Tryz.func176 m6 O) hPt (KL (cs := ((List.replicate 25 0).map iV).toArray) O O O O fun r4 => Jj (k := 0) (n := 25) (ys := tu.map iV) O O O O O (by rw [List.length_map, htul]) rfl (by simp [iV, QE, List.all_map, List.all_eq_true]) rfl (kL ?_)); refine Jn O O O (enters_of Tryz.func177 m6 O) hPn (Gb ?_); refine Jw (σ := Nat) (fun i => i ≤ 24) (fun i => [(2, .pointer (some ⟨r2, 0, none⟩)), (3, .pointer (some ⟨r3, 0, none⟩)), (4, .pointer (some ⟨r4, 0, none⟩)), (9, .agg (nu.map uV).toArray), (10, .int .i64 (i : Int))]) (fun i => [(r4, .cells (tu.map iV).toArray 208 (0, 0)), (r3, kO (Xm a i)), (r2, .cells (z25.map uV).toArray 147 (0, 0)), (r1, .cells (a.map uV).toArray 147 (0, 0))]) (fun _ _ _ => True) (fun i => 24 - i) 0 (Nat.zero_le _) (lK O) (List.Sublist.refl _) (fun _ _ h => h) ?_; intro i hi; refine NO ?_; refine cD (fun g => ?_) fun g => ?_
 refine Gq ?_; refine LR O (yG (j := i) O O O O O O m5 (Jqm (Kt (by rw [hnul]; omega)))) (kL ?_); refine LR O (Jd (xs := tu.map iV) (n := 25) O (kn 0 O) O O (by rw [List.length_map, htul])) (Jfb (k := 1) rfl rfl rfl (enters_of Tryz.func178 m6 rfl) rfl (Jyf (XS ha i) (n := nu.getD i 0) (hnuk.get i) htul htub r3) rfl (kL ?_)); refine Nk ?_; exact Jo (i + 1) m5 m5 (lK O) (by rw [show Xm a (i + 1) = zf tu (Xm a i) (nu.getD i 0) from by rw [htu, hnu]; rfl]; exact List.Sublist.refl _) (fun _ _ h => h)
 ·refine NO ?_
  have hi24 : 24 = i := by omega
  subst hi24; refine HY ?_; refine LR O (Jd (xs := (Xm a 24).map uV) (n := 25) O (kn 1 O) O O (by rw [List.length_map, (XS ha 24).1])) (Jj (k := 2) (n := 25) (ys := (Xm a 24).map uV) rfl rfl rfl rfl rfl (by rw [List.length_map, (XS ha 24).1]) rfl (VC _) rfl (H6 ?_)); refine Jf O O (.cons (Js (vs := (Xm a 24).map uV) O (kn 2 O) O (by rw [List.length_map, (XS ha 24).1]; rfl)) .nil) (fun w1 hs1 => ?_); exact No
theorem zK {l : List UInt8} (h : j < l.length) : (l.map bV)[j]? = some (.int .u8 ((l.getD j 0).toNat : Nat)) := by
 simp [h, bV, List.getD_eq_getElem?_getD]
theorem J3y {n : Nat} (hn : n ≤ 1099511627776) : Pure Tryz.prog 107 [.int .i64 (n : Int)].toArray (.tuple #[.string (bs (Ze n)), .int .i64 0]) := by
 refine Jl Tryz.func107 O O fun w => JJ ?_
 obtain ⟨k, hk⟩ : ∃ k, k = 135 - n % 136 := ⟨_, rfl⟩
 have hn1 : n % 136 < 136 := Nat.mod_lt _ m7
 obtain ⟨x, hx⟩ : ∃ x : UInt8, x = (1 :: List.replicate k 0 : List UInt8).getD k 0 := ⟨_, rfl⟩
 have hxl := x.toNat_lt
 have hpl : (1 :: List.replicate k 0 : List UInt8).set k (UInt8.ofNat (x.toNat ||| 128)) = Ze n := by
  unfold Ze
  cases k with
  | zero => rw [if_pos m5, hx]; rfl
  | succ k =>
   rw [if_neg m5, hx]
   have e1 : (1 :: List.replicate (k + 1) 0 : List UInt8).getD (k + 1) 0 = 0 := by simp [List.getD_eq_getElem?_getD]
   rw [e1, show 134 - n % 136 = k from by omega]; simp only [List.set_cons_succ]
   congr 1
   exact FY
 refine JC 17 O (cD (fun g => ?_) fun g => ?_)
 refine GG ?_; refine Nl fun w1 hs1 => ?_
 first | (exact ⟨rfl, hs1.keep⟩) | (exfalso; omega)
 ·refine Gq ?_; refine Jq (show _ = Value.int .i64 ((n % 136 : Nat) : Int) from congrArg (Value.int .i64) mi) (Ff ?_); refine Jq (show _ = Value.int .i64 ((k + 1 : Nat) : Int) from congrArg (Value.int .i64) mc) (V2 (n := k + 1) (b := 1) rfl rfl rfl rfl rfl rfl rfl rfl rfl m5 m5 fun r2 => Gu ?_); refine LR O (JO (j := 0) (m := 1) (off' := 0) O O O O O m5 O) (KF (k := 0) (off := 0) (xs := List.replicate (k + 1) (.int .u8 0)) (ys := (1 :: List.replicate k 0 : List UInt8).map bV) O O O O O O ml (by rw [List.replicate_succ]; simp [bV]) rfl (Gu ?_)); refine kF ?_; refine Ff ?_; refine Jq (show _ = Value.int .i64 ((k : Nat) : Int) from congrArg (Value.int .i64) mc) (LR rfl (JO (j := k) (m := 1) (off' := k) rfl rfl rfl rfl rfl m5 m5) (LR rfl (Kf rfl (kn 0 rfl) rfl (zK ml)) ?_)); rw [← hx]
  refine LR O (Jch (op := .or) (b := ((x.toNat ||| 128 : Nat) : Int)) O O O hxl m7 O) ?_; refine Jq (show _ = bV (UInt8.ofNat (x.toNat ||| 128)) from yN (Nat.or_lt_two_pow (n := 8) hxl m7)) ?_; refine LR O (JO (j := k) (m := 1) (off' := k) O O O O O m5 m5) ?_; refine KF (k := 0) (off := k) (xs := (1 :: List.replicate k 0 : List UInt8).map bV) (ys := (Ze n).map bV) O O O O O O ml (by rw [← hpl, List.map_set]) rfl ?_; refine kL ?_; refine LR O (Kw (b := Ze n) (row := some (r2, k + 1, [])) (e := 5) (show _ = some (J9 (Ze n).length (some (r2, k + 1, []))) from by rw [Xn, show 136 - n % 136 = k + 1 from by omega]; rfl) ⟨by simp, by simp [Xn]; omega⟩ (fun p hp => .inl ML) rfl rfl rfl) ?_; refine gy ?_; refine Nl fun w1 hs1 => ?_
  first | (exact ⟨rfl, hs1.keep⟩) | (exfalso; omega)
def chL (rb n cap : Nat) (p : Nat × Nat) : Jx := [(p.2, .cells #[.int .i64 136] 3 (0, 0)), (p.1, .cells #[.slice (some ⟨rb, 0, none⟩) n cap] 66 (0, 0))]
theorem Jyh (rb n cap : Nat) : PureE (α := Nat × Nat) Tryz.prog 108 [.slice (some ⟨rb, 0, none⟩) n cap, .int .i64 136].toArray (fun p => .func (.func 175) #[] #[.pointer (some ⟨p.1, 0, none⟩), .pointer (some ⟨p.2, 0, none⟩)]) (chL rb n cap) := by
 refine Kq Tryz.func108 O O fun w => NB fun r1 r2 => ?_; refine Goc 10 [0] O O (J7 O (fun h4 => ?_) (fun h4 => ?_))
 exact absurd h4 m7
 ·try simp only [ZZ] at h4
  refine gZ ?_; refine kJ ?_; exact gu
def Jl2 (rb j : Nat) : List Value := [.slice (some ⟨rb, 136 * j, none⟩) 136 136]
theorem Jyi {n : Nat} (hn : n = 136 * N) (hcap : n ≤ cap) (hlim : n ≤ 2199023255552) (p1 p2 : Nat) : ql Tryz.prog 175 [.pointer (some ⟨p1, 0, none⟩), .pointer (some ⟨p2, 0, none⟩)] (chL rb n cap (p1, p2)) 0 (nxN (Jl2 rb) N) (xO N) := by
  refine VA Tryz.func175 O O fun q xids w2 XI XF hY => FA ?_; refine Jw (σ := Nat) (fun i => i ≤ N) (fun i => [(0, .func (.yield q) #[] #[]), (1, .pointer (some ⟨p1, 0, none⟩)), (2, .pointer (some ⟨p2, 0, none⟩)), (4, .int .i64 ((136 * i : Nat) : Int))]) (fun _ => []) (fun i => XI i) (fun i => N - i) 0 (Nat.zero_le _) (lK O) (List.nil_sublist _) (fun _ _ h => h) ?_; intro i hi; refine gZ ?_; refine GR ?_; refine kF ?_; refine ki ?_; refine cD (fun g => ?_) fun g => ?_
  · refine gk ?_; refine FM ?_; refine Ja O O O (Ke (kl := some (136 * i)) (kh := none) (km := none) (sz := 1) (m := 136 * i) (q := n) (z := cap) O O O ⟨_, rfl⟩ trivial trivial O O O m5 hcap (Nat.le_refl _) (fun _ => rfl) O) (Ja O O O (Kc O O) (Ja O O O (Jig (r := 136) O O (by rw [if_neg m5])) (NP ?_))); refine kL ?_; refine GR ?_; refine LS 4 [] O O (Jq nf (HO ?_)); refine Jq nf ?_
    refine LR O (Ke (kl := some (136 * i)) (kh := some (136 * i + 136)) (km := some (136 * i + 136)) (sz := 1) (m := 136 * i) (q := 136 * i + 136) (z := 136 * i + 136) (off' := 136 * i) O O O ⟨_, rfl⟩ ⟨_, rfl⟩ ⟨_, rfl⟩ O O O m5 (Nat.le_refl _) m5 (fun h => by cases h) mq) ?_; refine Jq (show _ = Value.slice (some ⟨rb, 136 * i, none⟩) 136 136 from by congr 1 <;> omega) ?_; refine VV (XT := XI (i + 1)) (XF := XF) O O O O (hY i (Jl2 rb i) (i + 1) ⟨by omega, rfl, rfl⟩) ?_ ?_
    all_goals (
     refine D5 ?_; refine J7 O (fun g => ?_) (fun g => ?_)
     · try exact Bool.noConfusion g
       all_goals try simp only [ZZ] at g
       all_goals (
        exact Nr
        skip)
     · try exact Bool.noConfusion g
       all_goals try simp only [ZZ] at g
       all_goals (
        refine gn ?_; refine gF ?_; refine Ff ?_; refine Jq (show _ = Value.int .i64 ((136 * (i + 1) : Nat) : Int) from congrArg (Value.int .i64) mc) (Dn ?_); exact kI
        skip)
     skip)
  · exact D1
theorem Jsz (h : i < 32) : ((Yh a i ++ List.replicate (32 - i) 0).map bV).set i (bV (UInt8.ofNat (a.getD (i / 8) 0 / 2 ^ (i % 8 * 8) % 256))) = (Yh a (i + 1) ++ List.replicate (32 - (i + 1)) 0).map bV := by
 rw [← List.map_set, List.set_append_right _ _ (by rw [Wb]; exact Nat.le_refl _), Wb, Nat.sub_self, show 32 - i = (32 - (i + 1)) + 1 from by omega, List.replicate_succ, List.set_cons_zero, Yh, List.append_assoc]
 rfl
theorem Jyj {t : List UInt8} {k : Nat} (h : 136 * j + i < t.length) : (t.map bV ++ List.replicate k (Value.int .u8 0))[136 * j + i]? = some (.int .u8 (((t.drop (136 * j)).getD i 0).toNat : Nat)) := by
 rw [List.getElem?_append_left M6, zK h]
 simp [List.getD_eq_getElem?_getD]
theorem zM {s : List UInt8} (hs : s.length ≤ 1099511627776) : Pure Tryz.prog 50 [.string (bs s)].toArray (.string (bs (WN s))) := by
 refine Jl Tryz.func50 O O fun w => JJ ?_
 have hpl := Xn s.length
 obtain ⟨t, ht⟩ : ∃ t, t = s ++ Ze s.length := ⟨_, rfl⟩
 obtain ⟨N, hN⟩ : ∃ N, N = t.length / 136 := ⟨_, rfl⟩
 have htl : t.length = 136 * N := by have := zi s; rw [← ht] at this; omega
 have hlim : t.length ≤ 2199023255552 := by rw [ht, List.length_append]; omega
 have hkec : WN s = Yh (qz t N) 32 := by unfold WN; rw [← ht, ← hN]
 refine Jt 8 O (gt ?_); refine Jn O O O (enters_of Tryz.func107 m6 O) (J3y hs) (JH 9 O (KL (cs := (z25.map uV).toArray) O O O O fun r1 => gY ?_)); refine LR O (KB O O m5) ?_; rw [← ht]; refine Yo O O O O O O fun rb kb => Kj O O O (enters_of Tryz.func108 m6 O) (Jyh rb t.length (t.length + kb)) fun pp => ?_
 obtain ⟨p1, p2⟩ := pp
 change HL _ _ _ [(p2, _), (p1, _), (rb, _), (r1, _)] _ _ _ _; refine ki ?_; refine Vz [3, 0, 1, 2] m7 O (XN (τ := Unit) (fun j (s : List Nat) => s = qz t j ∧ j ≤ N) (fun s => [(r1, kO s)]) (fun _ _ => False) (fun _ => []) [(p2, _), (p1, _), (rb, _)] z25 O O (enters_of Tryz.func175 m6 O) (Jyi (rb := rb) (cap := t.length + kb) htl m5 hlim p1 p2) mE O (by simp [chL]) rfl ⟨rfl, Nat.zero_le _⟩ ?_ ?_ ?_)
 rintro q Xr Xb w3 jj _ _ a ⟨hi, rfl, rfl⟩ ⟨hsa, -⟩ Kr hKr; refine inR ?_
 have hak : SOk 25 a := by rw [hsa]; exact q6 t jj
 obtain ⟨u, hu⟩ : ∃ u, u = t.drop (136 * jj) := ⟨_, rfl⟩
 have habk := zh u hak
 refine Kk 3 O (F2 ?_); clear hKr; refine EV ?_; refine Gb ?_; refine Jw (σ := Nat) (fun i => i ≤ 136) (fun i => [(5, .pointer (some ⟨r1, 0, none⟩)), (23, .slice (some ⟨rb, 136 * jj, none⟩) 136 136), (24, .int .i64 136), (25, .int .i64 (i : Int))]) (fun i => [(r1, kO (abS a u i))]) (fun _ => Xb) (fun i => 136 - i) 0 (Nat.zero_le _) (lK O) (List.Sublist.refl _) (fun _ _ h => h) ?_; intro i hi; refine NO ?_; refine cD (fun g => ?_) fun g => ?_
 refine Jt 7 O (LR O (JO (j := i) (m := 1) (off' := 136 * jj + i) O O O O O m5 m5) (LR O (Kf O (JF (k := 2) O) O (Jyj m5)) ?_)); rw [← hu]; refine Gb ?_; refine JK 12 m6 m6 (gr ?_); refine Ks mp (Ja O O O (JD (j := i / 8) (m := 1) (off' := i / 8) O O O O m5 m5 m5) (Ja O O O (Kf O (kn 0 O) O (Kt (by rw [(habk i).1]; omega))) (gr ?_))); refine Ks mX (gr ?_); refine Ks mA (Nn ?_); refine Ks mC (GC ?_); refine Ja O O O (JD (j := i / 8) (m := 1) (off' := i / 8) O O O O m5 m5 m5) (HT ?_); refine kL ?_; exact DN
 refine gk ?_
 have hi136 : 136 = i := by omega
 subst hi136; refine Ez ?_; refine Jn O O O (enters_of Tryz.func109 m6 O) (Jot (habk 136)) (Ee ?_); refine J1 2 O (Qa (qz t (jj + 1)) ⟨rfl, by omega⟩ ?_); rw [show qz t (jj + 1) = qy (abS a u 136) from by rw [hu, hsa]; rfl]; rfl
 rintro D jj a hfi ⟨hsa, -⟩
 have hjN : jj = N := hfi
 have hak : SOk 25 a := by rw [hsa]; exact q6 t jj
 have hkec2 : WN s = Yh a 32 := by rw [hkec, hsa, hjN]
 refine gqo 4 O (V2 (n := 32) (b := 1) O O O O O O O O O m7 m7 fun r2 => gY ?_); refine kF ?_; refine Gb ?_; refine Jw (σ := Nat) (fun i => i ≤ 32) (fun i => [(5, .pointer (some ⟨r1, 0, none⟩)), (9, .slice (some ⟨r2, 0, none⟩) 32 32), (47, .int .i64 32), (48, .int .i64 (i : Int))]) (fun i => [(r2, .cells ((Yh a i ++ List.replicate (32 - i) 0).map bV).toArray 5 (0, 0)), (D, .deferred (some [])), (r1, kO a)]) (fun _ _ _ => True) (fun i => 32 - i) 0 (Nat.zero_le _) (lK O) (.cons_cons _ (.cons_cons _ (.cons_cons _ (List.nil_sublist _)))) (fun _ _ h => h) ?_; intro i hi; refine NO ?_; refine cD (fun g => ?_) fun g => ?_
 refine Jt 15 O (Jq mp (DY ?_)); refine LR O (Kf O (kn 2 O) O (Kt (by rw [hak.1]; omega))) (ko ?_); refine Jq mA (Ff ?_); refine Jq mC (LR O (jE (n := i % 8 * 8) O O O mM m5 (Za _ _)) (QN O (Jq (show _ = bV (UInt8.ofNat (a.getD (i / 8) 0 / 2 ^ (i % 8 * 8) % 256)) from yT _) (LR rfl (JO (j := i) (m := 1) (off' := i) rfl rfl rfl rfl rfl m5 m5) ?_)))); refine KF (k := 0) (off := i) (xs := (Yh a i ++ List.replicate (32 - i) 0).map bV) (ys := (Yh a (i + 1) ++ List.replicate (32 - (i + 1)) 0).map bV) O O O O O O (by simp [Wb]; omega) (Jsz m5) rfl (kL ?_); exact DN
 refine NO ?_
 have hi32 : 32 = i := by omega
 subst hi32; refine kE ?_; refine LR O (Kw (b := Yh a 32) (row := some (r2, 32, [])) (e := 5) (show _ = some (J9 (Yh a 32).length (some (r2, 32, []))) from by rw [Wb]; rfl) ⟨by simp [Wb], by simp [Wb]⟩ (fun p hp => .inl ML) rfl rfl rfl) (gM ?_); refine Qu (k := 1) O O ?_; exact I1
 ·exact Gh
section
variable {c : Cx} {l : KQ} {L : Jx} {X : XP} {d : List Deferred}
variable {i : Nat} {v : Value} {t : TypeId} {ps : String} {af : Array Edge} {gd : Option (Nat × Bool)} {ty t2 : TypeId}
theorem J17  {n : Nat} (hx : Kx l x = some (.int .i64 (m : Int))) (hy : Kx l y = some (.int .i64 (n : Int))) (hm : m < 9223372036854775808) (hn : n < 9223372036854775808) :
  JM c d l L X ⟨some i, .binOp .xor t x y t2, ty, ps, af, gd⟩ (.int .i64 ((m ^^^ n : Nat) : Int)) := fun a' w hfr _ => by
 have e1 : (BitVec.ofInt 64 (m : Int)).toNat = m := by simp [BitVec.toNat_ofInt]; omega
 have e2 : (BitVec.ofInt 64 (n : Int)).toNat = n := by simp [BitVec.toNat_ofInt]; omega
 have hx3 : m ^^^ n < 2 ^ 63 := Nat.xor_lt_two_pow (n := 63) hm hn
 have wr : IntKind.i64.wrap ((m ^^^ n : Nat) : Int) = ((m ^^^ n : Nat) : Int) := wrap_i64 m5 m5
 simp only [execOp]; rw [hfr.eval hx, hfr.eval hy]
 have e3 : (BitVec.ofInt 64 (m : Int) ^^^ BitVec.ofInt 64 (n : Int)).toNat = m ^^^ n := by rw [BitVec.toNat_xor, e1, e2]
 show Sem.run c.P (pure (Next.value (Value.int .i64 (IntKind.i64.wrap (((BitVec.ofInt 64 (m : Int) ^^^ BitVec.ofInt 64 (n : Int)).toNat : Nat) : Int))))) w = _
 rw [e3, wr]; rfl
end
theorem Js0 {n k : Nat} (hn : n < 18446744073709551616) (hk : k % 64 = 0) : Jp n k = n := by
 unfold Jp
 rw [hk, Nat.pow_zero, Nat.mul_one, Nat.mod_eq_of_lt hn, show 2 ^ (64 - 0) = 18446744073709551616 from rfl, Nat.div_eq_of_lt hn, Nat.or_zero]
theorem zN {n k : Nat} (hn : n < 18446744073709551616) (hk : k < 9223372036854775808) : Pure Tryz.prog 266 [uV n, .int .i64 (k : Int)].toArray (uV (Jp n k)) := by
 refine Jl Tryz.func266 O O fun w => JJ ?_
 have hk6 : k % 64 < 64 := Nat.mod_lt _ m7
 refine Jt 9 O (Jq (show _ = Value.int .i64 ((k % 64 : Nat) : Int) from congrArg (Value.int .i64) mi) (Ht ?_)); refine cD (fun g => ?_) fun g => ?_
 refine GG ?_; refine NW fun w1 hs1 => ?_; exact ⟨by rw [Js0 hn m5]; rfl, hs1.keep⟩
 ·refine Jt 7 O (Jq (show _ = uV (k % 64) from congrArg (Value.int .u64) (wrap_u64 (z := ((k % 64 : Nat) : Int)) m5 m5)) (EE ?_)); refine Jq (show _ = Value.int .i64 ((64 - k % 64 : Nat) : Int) from congrArg (Value.int .i64) mc) (QN rfl (Jq (show _ = uV (64 - k % 64) from congrArg (Value.int .u64) (wrap_u64 (z := ((64 - k % 64 : Nat) : Int)) m5 m5)) (LR rfl (jE (n := 64 - k % 64) rfl rfl rfl mM m5 (Za _ _)) ?_))); exact HN
def zO : Nat → Nat
 | 0 => 1
 | i + 1 => if zO i * 2 ≥ 256 then zO i * 2 ^^^ 369 else zO i * 2
theorem Js1 : ∀ i, zO i < 256
 | 0 => by decide
 | i + 1 => by
  have h := Js1 i
  have key : ∀ v : Fin 256, (if v.val * 2 ≥ 256 then v.val * 2 ^^^ 369 else v.val * 2) < 256 := by decide +kernel
  exact key ⟨zO i, h⟩
theorem J3z (h : zO i * 2 < 256) : zO (i + 1) = zO i * 2 := by
 show (if zO i * 2 ≥ 256 then zO i * 2 ^^^ 369 else zO i * 2) = _; rw [if_neg m5]
theorem J30 (h : 256 ≤ zO i * 2) : zO (i + 1) = (zO i * 2) ^^^ 369 := by
 show (if zO i * 2 ≥ 256 then zO i * 2 ^^^ 369 else zO i * 2) = _; rw [if_pos h]
def Jyk (n : Nat) : Nat := zO (n % 255) % 2
theorem Jjd {n : Nat} (hn : n < 9223372036854775808) : Pure Tryz.prog 267 [.int .i64 (n : Int)].toArray (uV (Jyk n)) := by
 refine Jl Tryz.func267 O O fun w => JJ (JC 17 O (Jw (σ := Nat) (fun i => i ≤ n % 255) (fun i => [(0, .int .i64 (n : Int)), (3, .int .i64 (zO i : Int)), (4, .int .i64 (i : Int))]) (fun _ => []) (fun _ _ _ => True) (fun i => n % 255 - i) 0 (Nat.zero_le _) (lK O) (List.nil_sublist _) (fun _ _ h => h) ?_)); intro i hi
 have hlf := Js1 i
 refine Gq ?_; refine Jq (show _ = Value.int .i64 ((n % 255 : Nat) : Int) from congrArg (Value.int .i64) mi) (ki ?_); refine cD (fun g => ?_) fun g => ?_
 refine Jt 8 O (Jq (show _ = Value.int .i64 ((zO i * 2 : Nat) : Int) from congrArg (Value.int .i64) mc) (H2 ?_)); refine cD (fun g => ?_) fun g => ?_
 refine kE ?_; refine LR O (J17 (n := 369) O O m5 m7) (D8 ?_); exact Jo (i + 1) m5 m5 (.cons O (.cons (by rw [J30 (i := i) m5]; rfl) (.cons rfl .nil))) (List.nil_sublist _) (fun _ _ h => h)
 refine Hs ?_; exact Jo (i + 1) m5 m5 (.cons O (.cons (by rw [J3z (i := i) m5]; rfl) (.cons rfl .nil))) (List.nil_sublist _) (fun _ _ h => h)
 ·refine NO ?_
  have hin : n % 255 = i := by omega
  refine Gy ?_; refine Jq (show _ = Value.int .i64 ((zO i % 2 : Nat) : Int) from congrArg (Value.int .i64) mi) (QN rfl (Jq (show _ = uV (zO i % 2) from congrArg (Value.int .u64) (wrap_u64 (z := ((zO i % 2 : Nat) : Int)) m5 m5)) (J1 4 rfl ?_))); refine NW fun w1 hs1 => ?_; exact ⟨by unfold Jyk; rw [hin]; rfl, hs1.keep⟩
def nbS (i : Nat) : Nat → Nat
 | 0 => 0
 | j + 1 => nbS i j ||| Jyk (7 * i + j) * 2 ^ (2 ^ j - 1)
theorem Jdc (n : Nat) : Jyk n < 2 := Nat.mod_lt _ m7
theorem Jje {k : Nat} (hb : b < 2) (hk : k ≤ 63) : b * 2 ^ k < 18446744073709551616 := by
 have h1 : (2 : Nat) ^ k ≤ 2 ^ 63 := Nat.pow_le_pow_right m7 hk
 have h2 : b * 2 ^ k ≤ 1 * 2 ^ k := Nat.mul_le_mul_right _ m5
 omega
theorem J32 (h : j < 7) : 1 ≤ 2 ^ j ∧ 2 ^ j ≤ 64 := by
 have h1 : (2 : Nat) ^ j ≤ 2 ^ 6 := Nat.pow_le_pow_right m7 m5
 exact ⟨Nat.one_le_two_pow, h1⟩
theorem Js2 (i : Nat) : ∀ j, j ≤ 7 → nbS i j < 18446744073709551616
 | 0, _ => by show 0 < 18446744073709551616; decide
 | j + 1, h => Jky (Js2 i j m5) (Jje (Jdc _) (by have := J32 (j := j) m5; omega))
theorem Js3 : ∀ i : Fin 24, nbS i.val 7 = numsL.getD i.val 0 := by decide +kernel
theorem xT {n : Nat} (hn : n < 24) : Pure Tryz.prog 208 [.int .i64 (n : Int)].toArray (uV (numsL.getD n 0)) := by
 refine Jl Tryz.func208 O O fun w => JJ (JC 22 O (Jw (σ := Nat) (fun i => i ≤ 7) (fun i => [(0, .int .i64 (n : Int)), (3, uV (nbS n i)), (4, .int .i64 ((2 ^ i : Nat) : Int)), (5, .int .i64 (i : Int))]) (fun _ => []) (fun _ _ _ => True) (fun i => 7 - i) 0 (Nat.zero_le _) (lK O) (List.nil_sublist _) (fun _ _ h => h) ?_)); intro i hi; refine Dk ?_; refine cD (fun g => ?_) fun g => ?_
 refine gk ?_
 have hpw := J32 (j := i) m5
 refine gZ ?_; refine Jq (show _ = Value.int .i64 ((7 * n : Nat) : Int) from congrArg (Value.int .i64) mc) (ko ?_); refine Jq (show _ = Value.int .i64 ((7 * n + i : Nat) : Int) from congrArg (Value.int .i64) mc) (Jn rfl rfl rfl (enters_of Tryz.func267 m6 rfl) (Jjd (n := 7 * n + i) m5) (ko ?_)); refine Jq (show _ = Value.int .i64 ((2 ^ i - 1 : Nat) : Int) from congrArg (Value.int .i64) mc) (QN rfl (Jq (show _ = uV (2 ^ i - 1) from congrArg (Value.int .u64) (wrap_u64 (z := ((2 ^ i - 1 : Nat) : Int)) m5 m5)) (LR rfl (qo (n := 2 ^ i - 1) rfl rfl rfl mM (Jcb (Jje (Jdc _) m5))) ?_))); refine LR O (Qp (op := .or) (b := ((nbS n (i + 1) : Nat) : Int)) O O O (Js2 n i m5) (Jje (Jdc _) m5) O) (Gu ?_); refine Jq (show _ = Value.int .i64 ((2 ^ (i + 1) : Nat) : Int) from congrArg (Value.int .i64) (by rw [Nat.pow_succ, wrap_i64 m5 m5]; omega)) (D8 ?_); exact kI
 ·refine NO ?_
  have hi7 : 7 = i := by omega
  subst hi7; refine Kk 6 O (NW fun w1 hs1 => ?_); exact ⟨by rw [← Js3 ⟨n, hn⟩]; rfl, hs1.keep⟩
def lO (a : List Nat) : Obj := .cells (a.map uV).toArray 147 (0, 0)
theorem Jjf (ha : SOk 25 a) : Pure Tryz.prog 207 [.agg (a.map uV).toArray].toArray (.agg ((Jcn a).map uV).toArray) := by
 refine Jl Tryz.func207 O O fun w => JJ ?_
 have hal := ha.1
 obtain ⟨cc, hcc⟩ : ∃ c, c = cS a 25 := ⟨_, rfl⟩
 have hc : SOk 5 cc := by rw [hcc]; exact ze ha 25
 have hmx : Jcn a = mS cc a 25 := by rw [hcc]; rfl
 have hck := fun i => ze ha i
 have hmk := fun i => Jfg hc ha i
 rw [hmx]; refine kZ fun r1 r2 => ?_; refine Ge ?_; refine KL (cs := ((cS a 0).map uV).toArray) O O O O fun r3 => H2 ?_; refine Jw (σ := Nat) (fun i => i ≤ 25) (fun i => [(1, .pointer (some ⟨r1, 0, none⟩)), (2, .pointer (some ⟨r2, 0, none⟩)), (3, .pointer (some ⟨r3, 0, none⟩)), (4, .int .i64 (i : Int))]) (fun i => [(r3, cO (cS a i)), (r2, lO z25), (r1, lO a)]) (fun _ _ _ => True) (fun i => 25 - i) 0 (Nat.zero_le _) (lK O) (List.Sublist.refl _) (fun _ _ h => h) ?_; intro i hi; refine Dk ?_; refine cD (fun g => ?_) fun g => ?_
 refine FR ?_; refine JK 11 m6 m6 (gr ?_); refine Ks mB (gr ?_); refine Ks mB (Ja O O O (JD (j := i % 5) (m := 1) (off' := i % 5) O O O O m5 m5 m5) (Ja O O O (Kf O (kn 0 O) O (Kt (by rw [(hck i).1]; omega))) (Nm ?_))); refine k7 ?_; refine Ja O O O (Kf O (kn 2 O) O (Kt (by rw [hal]; omega))) (Ja rfl rfl rfl (Qp (op := .xor) (b := (((cS a i).getD (i % 5) 0 ^^^ a.getD i 0 : Nat) : Int)) rfl rfl rfl ((hck i).get _) (ha.get _) rfl) (Ja rfl rfl rfl (JD (j := i % 5) (m := 1) (off' := i % 5) rfl rfl rfl rfl m5 m5 m5) (JS (KF (k := 0) (off := i % 5) (xs := (cS a i).map uV) (ys := (cS a (i + 1)).map uV) rfl rfl rfl rfl rfl rfl (by rw [List.length_map, (hck i).1]; omega) (QU rfl) rfl (Gu ?_))))); exact DN
 ·refine Dk ?_
  have hi25 : 25 = i := by omega
  subst hi25; rw [← hcc]; refine gk ?_; refine Jw (σ := Nat) (fun i => i ≤ 25) (fun i => [(1, .pointer (some ⟨r1, 0, none⟩)), (2, .pointer (some ⟨r2, 0, none⟩)), (3, .pointer (some ⟨r3, 0, none⟩)), (5, .int .i64 (i : Int))]) (fun i => [(r3, cO cc), (r2, lO z25), (r1, lO (mS cc a i))]) (fun _ _ _ => True) (fun i => 25 - i) 0 (Nat.zero_le _) (lK O) (List.Sublist.refl _) (fun _ _ h => h) ?_; intro i hi; refine Dk ?_; refine cD (fun g => ?_) fun g => ?_
  refine Jt 8 O (Jq mB (ki ?_)); refine JK 18 m6 m6 (k5 ?_); refine k7 ?_; refine Ja O O O (Kf O (kn 2 O) O (Kt (by rw [(hmk i).1]; omega))) (gr ?_); refine Ks nc (Nn ?_); refine Ks mZ (Ja O O O (JD (j := (i % 5 + 5 - 1) % 5) (m := 1) (off' := (i % 5 + 5 - 1) % 5) O O O O m5 m5 m5) (Ja O O O (Kf O (kn 0 O) O (Kt N9)) (Ja O O O (Qp (op := .xor) (b := (((mS cc a i).getD i 0 ^^^ cc.getD ((i % 5 + 5 - 1) % 5) 0 : Nat) : Int)) O O O ((hmk i).get _) (hc.get _) O) (gr ?_)))); refine Ks mI (Nn ?_); refine Ks mG (Ja O O O (JD (j := (i % 5 + 1) % 5) (m := 1) (off' := (i % 5 + 1) % 5) O O O O m5 m5 m5) (Ja O O O (Kf O (kn 0 O) O (Kt N9)) (KI O O O (enters_of Tryz.func266 m6 O) (zN (k := 1) (hc.get _) m7) (Ja O O O (Qp (op := .xor) (b := (((mS cc a i).getD i 0 ^^^ (cc.getD ((i % 5 + 5 - 1) % 5) 0 ^^^ Jp (cc.getD ((i % 5 + 1) % 5) 0) 1) : Nat) : Int)) O O O (Wa ((hmk i).get _) (hc.get _)) (jn (hc.get _) 1) (congrArg (fun z : Nat => (z : Int)) (Nat.xor_assoc _ _ _))) (k7 ?_))))); refine JS (KF (k := 2) (off := i) (xs := (mS cc a i).map uV) (ys := (mS cc a (i + 1)).map uV) O O O O O O (by rw [List.length_map, (hmk i).1]; omega) (QU rfl) rfl (Gu ?_)); exact DN
  ·refine NO ?_
   have hi25 : 25 = i := by omega
   subst hi25; refine HY ?_; refine LR O (Jd (xs := (mS cc a 25).map uV) (n := 25) O (kn 2 O) O O (by rw [List.length_map, (hmk 25).1])) (Jj (k := 1) (n := 25) (ys := (mS cc a 25).map uV) rfl rfl rfl rfl rfl (by rw [List.length_map, (hmk 25).1]) rfl (VC _) rfl (H6 ?_)); refine Jf O O (.cons (Js (vs := (mS cc a 25).map uV) O (kn 1 O) O (by rw [List.length_map, (hmk 25).1]; rfl)) .nil) (fun w1 hs1 => ?_); exact No
def tXY : Nat → Nat × Nat
 | 0 => (1, 0)
 | t + 1 => ((tXY t).2, (2 * (tXY t).1 + 3 * (tXY t).2) % 5)
def tX (t : Nat) : Nat := (tXY t).1
def tY (t : Nat) : Nat := (tXY t).2
theorem Js4 : ∀ t, tX t < 5 ∧ tY t < 5
 | 0 => by decide
 | t + 1 => ⟨(Js4 t).2, Nat.mod_lt _ m7⟩
def tS (a : List Nat) : Nat → List Nat
 | 0 => a
 | t + 1 => (tS a t).set (tX t + 5 * tY t) (Jp ((tS a t).getD (tX t + 5 * tY t) 0) ((t + 1) * (t + 2) / 2))
theorem Jl3 {a : List Nat} (h : SOk 25 a) : ∀ t, SOk 25 (tS a t)
 | 0 => h
 | t + 1 => (Jl3 h t).set _ (jn ((Jl3 h t).get _) _)
def bS (a : List Nat) : Nat → List Nat
 | 0 => z25
 | i + 1 => (bS a i).set (i / 5 + 5 * ((2 * (i % 5) + 3 * (i / 5)) % 5)) (a.getD i 0)
theorem J0v {a : List Nat} (h : SOk 25 a) : ∀ i, SOk 25 (bS a i)
 | 0 => Jin
 | i + 1 => (J0v h i).set _ (h.get _)
theorem Js5 (h : a.length = 25) : ∃ a0 a1 a2 a3 a4 a5 a6 a7 a8 a9 a10 a11 a12 a13 a14 a15 a16 a17 a18 a19 a20 a21 a22 a23 a24, a = [a0, a1, a2, a3, a4, a5, a6, a7, a8, a9, a10, a11, a12, a13, a14, a15, a16, a17, a18, a19, a20, a21, a22, a23, a24] := by
 match a, h with
 | [a0, a1, a2, a3, a4, a5, a6, a7, a8, a9, a10, a11, a12, a13, a14, a15, a16, a17, a18, a19, a20, a21, a22, a23, a24], _ => exact ⟨_, _, _, _, _, _, _, _, _, _, _, _, _, _, _, _, _, _, _, _, _, _, _, _, _, rfl⟩
theorem Jou (a0 a1 a2 a3 a4 a5 a6 a7 a8 a9 a10 a11 a12 a13 a14 a15 a16 a17 a18 a19 a20 a21 a22 a23 a24 : Nat) : rS [a0, a1, a2, a3, a4, a5, a6, a7, a8, a9, a10, a11, a12, a13, a14, a15, a16, a17, a18, a19, a20, a21, a22, a23, a24] turnsL 25 = [Jp a0 0, Jp a6 44, Jp a12 43, Jp a18 21, Jp a24 14, Jp a3 28, Jp a9 20, Jp a10 3, Jp a16 45, Jp a22 61, Jp a1 1, Jp a7 6, Jp a13 25, Jp a19 8, Jp a20 18, Jp a4 27, Jp a5 36, Jp a11 10, Jp a17 15, Jp a23 56, Jp a2 62, Jp a8 55, Jp a14 39, Jp a15 41, Jp a21 2] := by kernel_rfl
theorem Jjg (a0 a1 a2 a3 a4 a5 a6 a7 a8 a9 a10 a11 a12 a13 a14 a15 a16 a17 a18 a19 a20 a21 a22 a23 a24 : Nat) : tS [a0, a1, a2, a3, a4, a5, a6, a7, a8, a9, a10, a11, a12, a13, a14, a15, a16, a17, a18, a19, a20, a21, a22, a23, a24] 24 = [a0, Jp a1 1, Jp a2 190, Jp a3 28, Jp a4 91, Jp a5 36, Jp a6 300, Jp a7 6, Jp a8 55, Jp a9 276, Jp a10 3, Jp a11 10, Jp a12 171, Jp a13 153, Jp a14 231, Jp a15 105, Jp a16 45, Jp a17 15, Jp a18 21, Jp a19 136, Jp a20 210, Jp a21 66, Jp a22 253, Jp a23 120, Jp a24 78] := by
 have h1 : tS [a0, a1, a2, a3, a4, a5, a6, a7, a8, a9, a10, a11, a12, a13, a14, a15, a16, a17, a18, a19, a20, a21, a22, a23, a24] 1 = [a0, Jp a1 1, a2, a3, a4, a5, a6, a7, a8, a9, a10, a11, a12, a13, a14, a15, a16, a17, a18, a19, a20, a21, a22, a23, a24] := by
  show (tS [a0, a1, a2, a3, a4, a5, a6, a7, a8, a9, a10, a11, a12, a13, a14, a15, a16, a17, a18, a19, a20, a21, a22, a23, a24] 0).set (tX 0 + 5 * tY 0) (Jp ((tS [a0, a1, a2, a3, a4, a5, a6, a7, a8, a9, a10, a11, a12, a13, a14, a15, a16, a17, a18, a19, a20, a21, a22, a23, a24] 0).getD (tX 0 + 5 * tY 0) 0) ((0 + 1) * (0 + 2) / 2)) = _
  rw [show tS [a0, a1, a2, a3, a4, a5, a6, a7, a8, a9, a10, a11, a12, a13, a14, a15, a16, a17, a18, a19, a20, a21, a22, a23, a24] 0 = [a0, a1, a2, a3, a4, a5, a6, a7, a8, a9, a10, a11, a12, a13, a14, a15, a16, a17, a18, a19, a20, a21, a22, a23, a24] from rfl, show tX 0 + 5 * tY 0 = 1 from rfl]; rfl
 have h2 : tS [a0, a1, a2, a3, a4, a5, a6, a7, a8, a9, a10, a11, a12, a13, a14, a15, a16, a17, a18, a19, a20, a21, a22, a23, a24] 2 = [a0, Jp a1 1, a2, a3, a4, a5, a6, a7, a8, a9, Jp a10 3, a11, a12, a13, a14, a15, a16, a17, a18, a19, a20, a21, a22, a23, a24] := by
  show (tS [a0, a1, a2, a3, a4, a5, a6, a7, a8, a9, a10, a11, a12, a13, a14, a15, a16, a17, a18, a19, a20, a21, a22, a23, a24] 1).set (tX 1 + 5 * tY 1) (Jp ((tS [a0, a1, a2, a3, a4, a5, a6, a7, a8, a9, a10, a11, a12, a13, a14, a15, a16, a17, a18, a19, a20, a21, a22, a23, a24] 1).getD (tX 1 + 5 * tY 1) 0) ((1 + 1) * (1 + 2) / 2)) = _
  rw [h1, show tX 1 + 5 * tY 1 = 10 from rfl]; rfl
 have h3 : tS [a0, a1, a2, a3, a4, a5, a6, a7, a8, a9, a10, a11, a12, a13, a14, a15, a16, a17, a18, a19, a20, a21, a22, a23, a24] 3 = [a0, Jp a1 1, a2, a3, a4, a5, a6, Jp a7 6, a8, a9, Jp a10 3, a11, a12, a13, a14, a15, a16, a17, a18, a19, a20, a21, a22, a23, a24] := by
  show (tS [a0, a1, a2, a3, a4, a5, a6, a7, a8, a9, a10, a11, a12, a13, a14, a15, a16, a17, a18, a19, a20, a21, a22, a23, a24] 2).set (tX 2 + 5 * tY 2) (Jp ((tS [a0, a1, a2, a3, a4, a5, a6, a7, a8, a9, a10, a11, a12, a13, a14, a15, a16, a17, a18, a19, a20, a21, a22, a23, a24] 2).getD (tX 2 + 5 * tY 2) 0) ((2 + 1) * (2 + 2) / 2)) = _
  rw [h2, show tX 2 + 5 * tY 2 = 7 from rfl]; rfl
 have h4 : tS [a0, a1, a2, a3, a4, a5, a6, a7, a8, a9, a10, a11, a12, a13, a14, a15, a16, a17, a18, a19, a20, a21, a22, a23, a24] 4 = [a0, Jp a1 1, a2, a3, a4, a5, a6, Jp a7 6, a8, a9, Jp a10 3, Jp a11 10, a12, a13, a14, a15, a16, a17, a18, a19, a20, a21, a22, a23, a24] := by
  show (tS [a0, a1, a2, a3, a4, a5, a6, a7, a8, a9, a10, a11, a12, a13, a14, a15, a16, a17, a18, a19, a20, a21, a22, a23, a24] 3).set (tX 3 + 5 * tY 3) (Jp ((tS [a0, a1, a2, a3, a4, a5, a6, a7, a8, a9, a10, a11, a12, a13, a14, a15, a16, a17, a18, a19, a20, a21, a22, a23, a24] 3).getD (tX 3 + 5 * tY 3) 0) ((3 + 1) * (3 + 2) / 2)) = _
  rw [h3, show tX 3 + 5 * tY 3 = 11 from rfl]; rfl
 have h5 : tS [a0, a1, a2, a3, a4, a5, a6, a7, a8, a9, a10, a11, a12, a13, a14, a15, a16, a17, a18, a19, a20, a21, a22, a23, a24] 5 = [a0, Jp a1 1, a2, a3, a4, a5, a6, Jp a7 6, a8, a9, Jp a10 3, Jp a11 10, a12, a13, a14, a15, a16, Jp a17 15, a18, a19, a20, a21, a22, a23, a24] := by
  show (tS [a0, a1, a2, a3, a4, a5, a6, a7, a8, a9, a10, a11, a12, a13, a14, a15, a16, a17, a18, a19, a20, a21, a22, a23, a24] 4).set (tX 4 + 5 * tY 4) (Jp ((tS [a0, a1, a2, a3, a4, a5, a6, a7, a8, a9, a10, a11, a12, a13, a14, a15, a16, a17, a18, a19, a20, a21, a22, a23, a24] 4).getD (tX 4 + 5 * tY 4) 0) ((4 + 1) * (4 + 2) / 2)) = _
  rw [h4, show tX 4 + 5 * tY 4 = 17 from rfl]; rfl
 have h6 : tS [a0, a1, a2, a3, a4, a5, a6, a7, a8, a9, a10, a11, a12, a13, a14, a15, a16, a17, a18, a19, a20, a21, a22, a23, a24] 6 = [a0, Jp a1 1, a2, a3, a4, a5, a6, Jp a7 6, a8, a9, Jp a10 3, Jp a11 10, a12, a13, a14, a15, a16, Jp a17 15, Jp a18 21, a19, a20, a21, a22, a23, a24] := by
  show (tS [a0, a1, a2, a3, a4, a5, a6, a7, a8, a9, a10, a11, a12, a13, a14, a15, a16, a17, a18, a19, a20, a21, a22, a23, a24] 5).set (tX 5 + 5 * tY 5) (Jp ((tS [a0, a1, a2, a3, a4, a5, a6, a7, a8, a9, a10, a11, a12, a13, a14, a15, a16, a17, a18, a19, a20, a21, a22, a23, a24] 5).getD (tX 5 + 5 * tY 5) 0) ((5 + 1) * (5 + 2) / 2)) = _
  rw [h5, show tX 5 + 5 * tY 5 = 18 from rfl]; rfl
 have h7 : tS [a0, a1, a2, a3, a4, a5, a6, a7, a8, a9, a10, a11, a12, a13, a14, a15, a16, a17, a18, a19, a20, a21, a22, a23, a24] 7 = [a0, Jp a1 1, a2, Jp a3 28, a4, a5, a6, Jp a7 6, a8, a9, Jp a10 3, Jp a11 10, a12, a13, a14, a15, a16, Jp a17 15, Jp a18 21, a19, a20, a21, a22, a23, a24] := by
  show (tS [a0, a1, a2, a3, a4, a5, a6, a7, a8, a9, a10, a11, a12, a13, a14, a15, a16, a17, a18, a19, a20, a21, a22, a23, a24] 6).set (tX 6 + 5 * tY 6) (Jp ((tS [a0, a1, a2, a3, a4, a5, a6, a7, a8, a9, a10, a11, a12, a13, a14, a15, a16, a17, a18, a19, a20, a21, a22, a23, a24] 6).getD (tX 6 + 5 * tY 6) 0) ((6 + 1) * (6 + 2) / 2)) = _
  rw [h6, show tX 6 + 5 * tY 6 = 3 from rfl]; rfl
 have h8 : tS [a0, a1, a2, a3, a4, a5, a6, a7, a8, a9, a10, a11, a12, a13, a14, a15, a16, a17, a18, a19, a20, a21, a22, a23, a24] 8 = [a0, Jp a1 1, a2, Jp a3 28, a4, Jp a5 36, a6, Jp a7 6, a8, a9, Jp a10 3, Jp a11 10, a12, a13, a14, a15, a16, Jp a17 15, Jp a18 21, a19, a20, a21, a22, a23, a24] := by
  show (tS [a0, a1, a2, a3, a4, a5, a6, a7, a8, a9, a10, a11, a12, a13, a14, a15, a16, a17, a18, a19, a20, a21, a22, a23, a24] 7).set (tX 7 + 5 * tY 7) (Jp ((tS [a0, a1, a2, a3, a4, a5, a6, a7, a8, a9, a10, a11, a12, a13, a14, a15, a16, a17, a18, a19, a20, a21, a22, a23, a24] 7).getD (tX 7 + 5 * tY 7) 0) ((7 + 1) * (7 + 2) / 2)) = _
  rw [h7, show tX 7 + 5 * tY 7 = 5 from rfl]; rfl
 have h9 : tS [a0, a1, a2, a3, a4, a5, a6, a7, a8, a9, a10, a11, a12, a13, a14, a15, a16, a17, a18, a19, a20, a21, a22, a23, a24] 9 = [a0, Jp a1 1, a2, Jp a3 28, a4, Jp a5 36, a6, Jp a7 6, a8, a9, Jp a10 3, Jp a11 10, a12, a13, a14, a15, Jp a16 45, Jp a17 15, Jp a18 21, a19, a20, a21, a22, a23, a24] := by
  show (tS [a0, a1, a2, a3, a4, a5, a6, a7, a8, a9, a10, a11, a12, a13, a14, a15, a16, a17, a18, a19, a20, a21, a22, a23, a24] 8).set (tX 8 + 5 * tY 8) (Jp ((tS [a0, a1, a2, a3, a4, a5, a6, a7, a8, a9, a10, a11, a12, a13, a14, a15, a16, a17, a18, a19, a20, a21, a22, a23, a24] 8).getD (tX 8 + 5 * tY 8) 0) ((8 + 1) * (8 + 2) / 2)) = _
  rw [h8, show tX 8 + 5 * tY 8 = 16 from rfl]; rfl
 have h10 : tS [a0, a1, a2, a3, a4, a5, a6, a7, a8, a9, a10, a11, a12, a13, a14, a15, a16, a17, a18, a19, a20, a21, a22, a23, a24] 10 = [a0, Jp a1 1, a2, Jp a3 28, a4, Jp a5 36, a6, Jp a7 6, Jp a8 55, a9, Jp a10 3, Jp a11 10, a12, a13, a14, a15, Jp a16 45, Jp a17 15, Jp a18 21, a19, a20, a21, a22, a23, a24] := by
  show (tS [a0, a1, a2, a3, a4, a5, a6, a7, a8, a9, a10, a11, a12, a13, a14, a15, a16, a17, a18, a19, a20, a21, a22, a23, a24] 9).set (tX 9 + 5 * tY 9) (Jp ((tS [a0, a1, a2, a3, a4, a5, a6, a7, a8, a9, a10, a11, a12, a13, a14, a15, a16, a17, a18, a19, a20, a21, a22, a23, a24] 9).getD (tX 9 + 5 * tY 9) 0) ((9 + 1) * (9 + 2) / 2)) = _
  rw [h9, show tX 9 + 5 * tY 9 = 8 from rfl]; rfl
 have h11 : tS [a0, a1, a2, a3, a4, a5, a6, a7, a8, a9, a10, a11, a12, a13, a14, a15, a16, a17, a18, a19, a20, a21, a22, a23, a24] 11 = [a0, Jp a1 1, a2, Jp a3 28, a4, Jp a5 36, a6, Jp a7 6, Jp a8 55, a9, Jp a10 3, Jp a11 10, a12, a13, a14, a15, Jp a16 45, Jp a17 15, Jp a18 21, a19, a20, Jp a21 66, a22, a23, a24] := by
  show (tS [a0, a1, a2, a3, a4, a5, a6, a7, a8, a9, a10, a11, a12, a13, a14, a15, a16, a17, a18, a19, a20, a21, a22, a23, a24] 10).set (tX 10 + 5 * tY 10) (Jp ((tS [a0, a1, a2, a3, a4, a5, a6, a7, a8, a9, a10, a11, a12, a13, a14, a15, a16, a17, a18, a19, a20, a21, a22, a23, a24] 10).getD (tX 10 + 5 * tY 10) 0) ((10 + 1) * (10 + 2) / 2)) = _
  rw [h10, show tX 10 + 5 * tY 10 = 21 from rfl]; rfl
 have h12 : tS [a0, a1, a2, a3, a4, a5, a6, a7, a8, a9, a10, a11, a12, a13, a14, a15, a16, a17, a18, a19, a20, a21, a22, a23, a24] 12 = [a0, Jp a1 1, a2, Jp a3 28, a4, Jp a5 36, a6, Jp a7 6, Jp a8 55, a9, Jp a10 3, Jp a11 10, a12, a13, a14, a15, Jp a16 45, Jp a17 15, Jp a18 21, a19, a20, Jp a21 66, a22, a23, Jp a24 78] := by
  show (tS [a0, a1, a2, a3, a4, a5, a6, a7, a8, a9, a10, a11, a12, a13, a14, a15, a16, a17, a18, a19, a20, a21, a22, a23, a24] 11).set (tX 11 + 5 * tY 11) (Jp ((tS [a0, a1, a2, a3, a4, a5, a6, a7, a8, a9, a10, a11, a12, a13, a14, a15, a16, a17, a18, a19, a20, a21, a22, a23, a24] 11).getD (tX 11 + 5 * tY 11) 0) ((11 + 1) * (11 + 2) / 2)) = _
  rw [h11, show tX 11 + 5 * tY 11 = 24 from rfl]; rfl
 have h13 : tS [a0, a1, a2, a3, a4, a5, a6, a7, a8, a9, a10, a11, a12, a13, a14, a15, a16, a17, a18, a19, a20, a21, a22, a23, a24] 13 = [a0, Jp a1 1, a2, Jp a3 28, Jp a4 91, Jp a5 36, a6, Jp a7 6, Jp a8 55, a9, Jp a10 3, Jp a11 10, a12, a13, a14, a15, Jp a16 45, Jp a17 15, Jp a18 21, a19, a20, Jp a21 66, a22, a23, Jp a24 78] := by
  show (tS [a0, a1, a2, a3, a4, a5, a6, a7, a8, a9, a10, a11, a12, a13, a14, a15, a16, a17, a18, a19, a20, a21, a22, a23, a24] 12).set (tX 12 + 5 * tY 12) (Jp ((tS [a0, a1, a2, a3, a4, a5, a6, a7, a8, a9, a10, a11, a12, a13, a14, a15, a16, a17, a18, a19, a20, a21, a22, a23, a24] 12).getD (tX 12 + 5 * tY 12) 0) ((12 + 1) * (12 + 2) / 2)) = _
  rw [h12, show tX 12 + 5 * tY 12 = 4 from rfl]; rfl
 have h14 : tS [a0, a1, a2, a3, a4, a5, a6, a7, a8, a9, a10, a11, a12, a13, a14, a15, a16, a17, a18, a19, a20, a21, a22, a23, a24] 14 = [a0, Jp a1 1, a2, Jp a3 28, Jp a4 91, Jp a5 36, a6, Jp a7 6, Jp a8 55, a9, Jp a10 3, Jp a11 10, a12, a13, a14, Jp a15 105, Jp a16 45, Jp a17 15, Jp a18 21, a19, a20, Jp a21 66, a22, a23, Jp a24 78] := by
  show (tS [a0, a1, a2, a3, a4, a5, a6, a7, a8, a9, a10, a11, a12, a13, a14, a15, a16, a17, a18, a19, a20, a21, a22, a23, a24] 13).set (tX 13 + 5 * tY 13) (Jp ((tS [a0, a1, a2, a3, a4, a5, a6, a7, a8, a9, a10, a11, a12, a13, a14, a15, a16, a17, a18, a19, a20, a21, a22, a23, a24] 13).getD (tX 13 + 5 * tY 13) 0) ((13 + 1) * (13 + 2) / 2)) = _
  rw [h13, show tX 13 + 5 * tY 13 = 15 from rfl]; rfl
 have h15 : tS [a0, a1, a2, a3, a4, a5, a6, a7, a8, a9, a10, a11, a12, a13, a14, a15, a16, a17, a18, a19, a20, a21, a22, a23, a24] 15 = [a0, Jp a1 1, a2, Jp a3 28, Jp a4 91, Jp a5 36, a6, Jp a7 6, Jp a8 55, a9, Jp a10 3, Jp a11 10, a12, a13, a14, Jp a15 105, Jp a16 45, Jp a17 15, Jp a18 21, a19, a20, Jp a21 66, a22, Jp a23 120, Jp a24 78] := by
  show (tS [a0, a1, a2, a3, a4, a5, a6, a7, a8, a9, a10, a11, a12, a13, a14, a15, a16, a17, a18, a19, a20, a21, a22, a23, a24] 14).set (tX 14 + 5 * tY 14) (Jp ((tS [a0, a1, a2, a3, a4, a5, a6, a7, a8, a9, a10, a11, a12, a13, a14, a15, a16, a17, a18, a19, a20, a21, a22, a23, a24] 14).getD (tX 14 + 5 * tY 14) 0) ((14 + 1) * (14 + 2) / 2)) = _
  rw [h14, show tX 14 + 5 * tY 14 = 23 from rfl]; rfl
 have h16 : tS [a0, a1, a2, a3, a4, a5, a6, a7, a8, a9, a10, a11, a12, a13, a14, a15, a16, a17, a18, a19, a20, a21, a22, a23, a24] 16 = [a0, Jp a1 1, a2, Jp a3 28, Jp a4 91, Jp a5 36, a6, Jp a7 6, Jp a8 55, a9, Jp a10 3, Jp a11 10, a12, a13, a14, Jp a15 105, Jp a16 45, Jp a17 15, Jp a18 21, Jp a19 136, a20, Jp a21 66, a22, Jp a23 120, Jp a24 78] := by
  show (tS [a0, a1, a2, a3, a4, a5, a6, a7, a8, a9, a10, a11, a12, a13, a14, a15, a16, a17, a18, a19, a20, a21, a22, a23, a24] 15).set (tX 15 + 5 * tY 15) (Jp ((tS [a0, a1, a2, a3, a4, a5, a6, a7, a8, a9, a10, a11, a12, a13, a14, a15, a16, a17, a18, a19, a20, a21, a22, a23, a24] 15).getD (tX 15 + 5 * tY 15) 0) ((15 + 1) * (15 + 2) / 2)) = _
  rw [h15, show tX 15 + 5 * tY 15 = 19 from rfl]; rfl
 have h17 : tS [a0, a1, a2, a3, a4, a5, a6, a7, a8, a9, a10, a11, a12, a13, a14, a15, a16, a17, a18, a19, a20, a21, a22, a23, a24] 17 = [a0, Jp a1 1, a2, Jp a3 28, Jp a4 91, Jp a5 36, a6, Jp a7 6, Jp a8 55, a9, Jp a10 3, Jp a11 10, a12, Jp a13 153, a14, Jp a15 105, Jp a16 45, Jp a17 15, Jp a18 21, Jp a19 136, a20, Jp a21 66, a22, Jp a23 120, Jp a24 78] := by
  show (tS [a0, a1, a2, a3, a4, a5, a6, a7, a8, a9, a10, a11, a12, a13, a14, a15, a16, a17, a18, a19, a20, a21, a22, a23, a24] 16).set (tX 16 + 5 * tY 16) (Jp ((tS [a0, a1, a2, a3, a4, a5, a6, a7, a8, a9, a10, a11, a12, a13, a14, a15, a16, a17, a18, a19, a20, a21, a22, a23, a24] 16).getD (tX 16 + 5 * tY 16) 0) ((16 + 1) * (16 + 2) / 2)) = _
  rw [h16, show tX 16 + 5 * tY 16 = 13 from rfl]; rfl
 have h18 : tS [a0, a1, a2, a3, a4, a5, a6, a7, a8, a9, a10, a11, a12, a13, a14, a15, a16, a17, a18, a19, a20, a21, a22, a23, a24] 18 = [a0, Jp a1 1, a2, Jp a3 28, Jp a4 91, Jp a5 36, a6, Jp a7 6, Jp a8 55, a9, Jp a10 3, Jp a11 10, Jp a12 171, Jp a13 153, a14, Jp a15 105, Jp a16 45, Jp a17 15, Jp a18 21, Jp a19 136, a20, Jp a21 66, a22, Jp a23 120, Jp a24 78] := by
  show (tS [a0, a1, a2, a3, a4, a5, a6, a7, a8, a9, a10, a11, a12, a13, a14, a15, a16, a17, a18, a19, a20, a21, a22, a23, a24] 17).set (tX 17 + 5 * tY 17) (Jp ((tS [a0, a1, a2, a3, a4, a5, a6, a7, a8, a9, a10, a11, a12, a13, a14, a15, a16, a17, a18, a19, a20, a21, a22, a23, a24] 17).getD (tX 17 + 5 * tY 17) 0) ((17 + 1) * (17 + 2) / 2)) = _
  rw [h17, show tX 17 + 5 * tY 17 = 12 from rfl]; rfl
 have h19 : tS [a0, a1, a2, a3, a4, a5, a6, a7, a8, a9, a10, a11, a12, a13, a14, a15, a16, a17, a18, a19, a20, a21, a22, a23, a24] 19 = [a0, Jp a1 1, Jp a2 190, Jp a3 28, Jp a4 91, Jp a5 36, a6, Jp a7 6, Jp a8 55, a9, Jp a10 3, Jp a11 10, Jp a12 171, Jp a13 153, a14, Jp a15 105, Jp a16 45, Jp a17 15, Jp a18 21, Jp a19 136, a20, Jp a21 66, a22, Jp a23 120, Jp a24 78] := by
  show (tS [a0, a1, a2, a3, a4, a5, a6, a7, a8, a9, a10, a11, a12, a13, a14, a15, a16, a17, a18, a19, a20, a21, a22, a23, a24] 18).set (tX 18 + 5 * tY 18) (Jp ((tS [a0, a1, a2, a3, a4, a5, a6, a7, a8, a9, a10, a11, a12, a13, a14, a15, a16, a17, a18, a19, a20, a21, a22, a23, a24] 18).getD (tX 18 + 5 * tY 18) 0) ((18 + 1) * (18 + 2) / 2)) = _
  rw [h18, show tX 18 + 5 * tY 18 = 2 from rfl]; rfl
 have h20 : tS [a0, a1, a2, a3, a4, a5, a6, a7, a8, a9, a10, a11, a12, a13, a14, a15, a16, a17, a18, a19, a20, a21, a22, a23, a24] 20 = [a0, Jp a1 1, Jp a2 190, Jp a3 28, Jp a4 91, Jp a5 36, a6, Jp a7 6, Jp a8 55, a9, Jp a10 3, Jp a11 10, Jp a12 171, Jp a13 153, a14, Jp a15 105, Jp a16 45, Jp a17 15, Jp a18 21, Jp a19 136, Jp a20 210, Jp a21 66, a22, Jp a23 120, Jp a24 78] := by
  show (tS [a0, a1, a2, a3, a4, a5, a6, a7, a8, a9, a10, a11, a12, a13, a14, a15, a16, a17, a18, a19, a20, a21, a22, a23, a24] 19).set (tX 19 + 5 * tY 19) (Jp ((tS [a0, a1, a2, a3, a4, a5, a6, a7, a8, a9, a10, a11, a12, a13, a14, a15, a16, a17, a18, a19, a20, a21, a22, a23, a24] 19).getD (tX 19 + 5 * tY 19) 0) ((19 + 1) * (19 + 2) / 2)) = _
  rw [h19, show tX 19 + 5 * tY 19 = 20 from rfl]; rfl
 have h21 : tS [a0, a1, a2, a3, a4, a5, a6, a7, a8, a9, a10, a11, a12, a13, a14, a15, a16, a17, a18, a19, a20, a21, a22, a23, a24] 21 = [a0, Jp a1 1, Jp a2 190, Jp a3 28, Jp a4 91, Jp a5 36, a6, Jp a7 6, Jp a8 55, a9, Jp a10 3, Jp a11 10, Jp a12 171, Jp a13 153, Jp a14 231, Jp a15 105, Jp a16 45, Jp a17 15, Jp a18 21, Jp a19 136, Jp a20 210, Jp a21 66, a22, Jp a23 120, Jp a24 78] := by
  show (tS [a0, a1, a2, a3, a4, a5, a6, a7, a8, a9, a10, a11, a12, a13, a14, a15, a16, a17, a18, a19, a20, a21, a22, a23, a24] 20).set (tX 20 + 5 * tY 20) (Jp ((tS [a0, a1, a2, a3, a4, a5, a6, a7, a8, a9, a10, a11, a12, a13, a14, a15, a16, a17, a18, a19, a20, a21, a22, a23, a24] 20).getD (tX 20 + 5 * tY 20) 0) ((20 + 1) * (20 + 2) / 2)) = _
  rw [h20, show tX 20 + 5 * tY 20 = 14 from rfl]; rfl
 have h22 : tS [a0, a1, a2, a3, a4, a5, a6, a7, a8, a9, a10, a11, a12, a13, a14, a15, a16, a17, a18, a19, a20, a21, a22, a23, a24] 22 = [a0, Jp a1 1, Jp a2 190, Jp a3 28, Jp a4 91, Jp a5 36, a6, Jp a7 6, Jp a8 55, a9, Jp a10 3, Jp a11 10, Jp a12 171, Jp a13 153, Jp a14 231, Jp a15 105, Jp a16 45, Jp a17 15, Jp a18 21, Jp a19 136, Jp a20 210, Jp a21 66, Jp a22 253, Jp a23 120, Jp a24 78] := by
  show (tS [a0, a1, a2, a3, a4, a5, a6, a7, a8, a9, a10, a11, a12, a13, a14, a15, a16, a17, a18, a19, a20, a21, a22, a23, a24] 21).set (tX 21 + 5 * tY 21) (Jp ((tS [a0, a1, a2, a3, a4, a5, a6, a7, a8, a9, a10, a11, a12, a13, a14, a15, a16, a17, a18, a19, a20, a21, a22, a23, a24] 21).getD (tX 21 + 5 * tY 21) 0) ((21 + 1) * (21 + 2) / 2)) = _
  rw [h21, show tX 21 + 5 * tY 21 = 22 from rfl]; rfl
 have h23 : tS [a0, a1, a2, a3, a4, a5, a6, a7, a8, a9, a10, a11, a12, a13, a14, a15, a16, a17, a18, a19, a20, a21, a22, a23, a24] 23 = [a0, Jp a1 1, Jp a2 190, Jp a3 28, Jp a4 91, Jp a5 36, a6, Jp a7 6, Jp a8 55, Jp a9 276, Jp a10 3, Jp a11 10, Jp a12 171, Jp a13 153, Jp a14 231, Jp a15 105, Jp a16 45, Jp a17 15, Jp a18 21, Jp a19 136, Jp a20 210, Jp a21 66, Jp a22 253, Jp a23 120, Jp a24 78] := by
  show (tS [a0, a1, a2, a3, a4, a5, a6, a7, a8, a9, a10, a11, a12, a13, a14, a15, a16, a17, a18, a19, a20, a21, a22, a23, a24] 22).set (tX 22 + 5 * tY 22) (Jp ((tS [a0, a1, a2, a3, a4, a5, a6, a7, a8, a9, a10, a11, a12, a13, a14, a15, a16, a17, a18, a19, a20, a21, a22, a23, a24] 22).getD (tX 22 + 5 * tY 22) 0) ((22 + 1) * (22 + 2) / 2)) = _
  rw [h22, show tX 22 + 5 * tY 22 = 9 from rfl]; rfl
 have h24 : tS [a0, a1, a2, a3, a4, a5, a6, a7, a8, a9, a10, a11, a12, a13, a14, a15, a16, a17, a18, a19, a20, a21, a22, a23, a24] 24 = [a0, Jp a1 1, Jp a2 190, Jp a3 28, Jp a4 91, Jp a5 36, Jp a6 300, Jp a7 6, Jp a8 55, Jp a9 276, Jp a10 3, Jp a11 10, Jp a12 171, Jp a13 153, Jp a14 231, Jp a15 105, Jp a16 45, Jp a17 15, Jp a18 21, Jp a19 136, Jp a20 210, Jp a21 66, Jp a22 253, Jp a23 120, Jp a24 78] := by
  show (tS [a0, a1, a2, a3, a4, a5, a6, a7, a8, a9, a10, a11, a12, a13, a14, a15, a16, a17, a18, a19, a20, a21, a22, a23, a24] 23).set (tX 23 + 5 * tY 23) (Jp ((tS [a0, a1, a2, a3, a4, a5, a6, a7, a8, a9, a10, a11, a12, a13, a14, a15, a16, a17, a18, a19, a20, a21, a22, a23, a24] 23).getD (tX 23 + 5 * tY 23) 0) ((23 + 1) * (23 + 2) / 2)) = _
  rw [h23, show tX 23 + 5 * tY 23 = 6 from rfl]; rfl
 exact h24
theorem Jjh (a0 a1 a2 a3 a4 a5 a6 a7 a8 a9 a10 a11 a12 a13 a14 a15 a16 a17 a18 a19 a20 a21 a22 a23 a24 : Nat) : bS [a0, a1, a2, a3, a4, a5, a6, a7, a8, a9, a10, a11, a12, a13, a14, a15, a16, a17, a18, a19, a20, a21, a22, a23, a24] 25 = [a0, a6, a12, a18, a24, a3, a9, a10, a16, a22, a1, a7, a13, a19, a20, a4, a5, a11, a17, a23, a2, a8, a14, a15, a21] := by kernel_rfl
theorem Jov (h : SOk 25 a) : bS (tS a 24) 25 = rS a turnsL 25 := by
 obtain ⟨a0, a1, a2, a3, a4, a5, a6, a7, a8, a9, a10, a11, a12, a13, a14, a15, a16, a17, a18, a19, a20, a21, a22, a23, a24, rfl⟩ := Js5 h.1
 rw [Jou, Jjg, Jjh, Js0 (h.2 a0 List.mem_cons_self) rfl]; rfl
theorem Jgo (b : List Nat) (a0 a1 a2 a3 a4 a5 a6 a7 a8 a9 a10 a11 a12 a13 a14 a15 a16 a17 a18 a19 a20 a21 a22 a23 a24 : Nat) : xS b [a0, a1, a2, a3, a4, a5, a6, a7, a8, a9, a10, a11, a12, a13, a14, a15, a16, a17, a18, a19, a20, a21, a22, a23, a24] 25 = [WC b 0, WC b 1, WC b 2, WC b 3, WC b 4, WC b 5, WC b 6, WC b 7, WC b 8, WC b 9, WC b 10, WC b 11, WC b 12, WC b 13, WC b 14, WC b 15, WC b 16, WC b 17, WC b 18, WC b 19, WC b 20, WC b 21, WC b 22, WC b 23, WC b 24] := by kernel_rfl
theorem Jyl {a' : List Nat} (b : List Nat) (h : a.length = 25) (h' : a'.length = 25) : xS b a 25 = xS b a' 25 := by
 obtain ⟨_, _, _, _, _, _, _, _, _, _, _, _, _, _, _, _, _, _, _, _, _, _, _, _, _, rfl⟩ := Js5 h
 obtain ⟨_, _, _, _, _, _, _, _, _, _, _, _, _, _, _, _, _, _, _, _, _, _, _, _, _, rfl⟩ := Js5 h'
 rw [Jgo, Jgo]
theorem Jgp (ha : SOk 25 a) : Pure Tryz.prog 206 [.agg (a.map uV).toArray].toArray (.agg ((tS a 24).map uV).toArray) := by
 refine Jl Tryz.func206 O O fun w => JJ ?_
 have hal := ha.1
 have htk := fun i => Jl3 ha i
 refine kZ fun r1 r2 => ?_; refine JN 19 O (Jw (σ := Nat) (fun i => i ≤ 24) (fun i => [(1, .pointer (some ⟨r1, 0, none⟩)), (2, .pointer (some ⟨r2, 0, none⟩)), (3, .int .i64 (tX i : Int)), (4, .int .i64 (tY i : Int)), (5, .int .i64 (i : Int))]) (fun i => [(r2, lO z25), (r1, lO (tS a i))]) (fun _ _ _ => True) (fun i => 24 - i) 0 (Nat.zero_le _) (lK O) (List.Sublist.refl _) (fun _ _ h => h) ?_); intro i hi; refine Dk ?_; refine cD (fun g => ?_) fun g => ?_
 refine gk ?_
 have hxy := Js4 i
 obtain ⟨m, hm⟩ : ∃ m, m = (i + 1) * (i + 2) := ⟨_, rfl⟩
 have hmi : ((i + 1 : Nat) : Int) * ((i + 2 : Nat) : Int) = (m : Int) := by rw [hm, Int.natCast_mul]
 have hmb : m ≤ 25 * 26 := by rw [hm]; exact Nat.mul_le_mul m5 m5
 refine gZ ?_; refine Jq nl (Ff ?_); refine Jq na (HO ?_); refine Jq nl (Ff ?_); refine Jq na (FS ?_); refine LR O (Kf O (kn 1 O) O (Kt (by rw [(htk i).1]; omega))) (ko ?_); refine Jq (show _ = Value.int .i64 ((i + 1 : Nat) : Int) from congrArg (Value.int .i64) mc) (ko ?_); refine Jq (show _ = Value.int .i64 ((i + 2 : Nat) : Int) from congrArg (Value.int .i64) mc) (QN rfl (Jq (show _ = Value.int .i64 ((m : Nat) : Int) from congrArg (Value.int .i64) (by rw [hmi, wrap_i64 m5 m5])) (QN rfl ?_))); refine Jq (show _ = Value.int .i64 ((m / 2 : Nat) : Int) from congrArg (Value.int .i64) mH) (Jn rfl rfl rfl (enters_of Tryz.func266 m6 rfl) (zN (k := m / 2) ((htk i).get _) m5) (FS ?_)); refine KF (k := 1) (off := tX i + 5 * tY i) (xs := (tS a i).map uV) (ys := (tS a (i + 1)).map uV) O O O O O O (by rw [List.length_map, (htk i).1]; omega) (QU (by rw [hm]; rfl)) rfl (Gu ?_); refine Jq (show _ = Value.int .i64 ((2 * tX i : Nat) : Int) from congrArg (Value.int .i64) mc) (ko ?_); refine Jq (show _ = Value.int .i64 ((3 * tY i : Nat) : Int) from congrArg (Value.int .i64) mc) (Ff ?_); refine Jq (show _ = Value.int .i64 ((2 * tX i + 3 * tY i : Nat) : Int) from congrArg (Value.int .i64) mc) (Ff ?_); refine Jq (show _ = Value.int .i64 (((2 * tX i + 3 * tY i) % 5 : Nat) : Int) from congrArg (Value.int .i64) mi) (JH 18 rfl ?_); exact DN
 ·refine NO ?_
  have hi24 : 24 = i := by omega
  subst hi24; refine HY ?_; refine LR O (Jd (xs := (tS a 24).map uV) (n := 25) O (kn 1 O) O O (by rw [List.length_map, (htk 24).1])) (Jj (k := 0) (n := 25) (ys := (tS a 24).map uV) rfl rfl rfl rfl rfl (by rw [List.length_map, (htk 24).1]) rfl (VC _) rfl (H6 ?_)); refine Jf O O (.cons (Js (vs := (tS a 24).map uV) O (kn 0 O) O (by rw [List.length_map, (htk 24).1]; rfl)) .nil) (fun w1 hs1 => ?_); exact No
theorem Jgq (ha : SOk 25 a) : Pure Tryz.prog 205 [.agg (a.map uV).toArray].toArray (.agg ((bS a 25).map uV).toArray) := by
 refine Jl Tryz.func205 O O fun w => JJ ?_
 have hal := ha.1
 have hbk := fun i => J0v ha i
 refine kZ fun r1 r2 => ?_; refine Ge ?_; refine F1 fun r3 => ?_; refine H2 ?_; refine Jw (σ := Nat) (fun i => i ≤ 25) (fun i => [(1, .pointer (some ⟨r1, 0, none⟩)), (2, .pointer (some ⟨r2, 0, none⟩)), (3, .pointer (some ⟨r3, 0, none⟩)), (4, .int .i64 (i : Int))]) (fun i => [(r3, lO (bS a i)), (r2, lO z25), (r1, lO a)]) (fun _ _ _ => True) (fun i => 25 - i) 0 (Nat.zero_le _) (lK O) (List.Sublist.refl _) (fun _ _ h => h) ?_; intro i hi; refine Dk ?_; refine cD (fun g => ?_) fun g => ?_
 refine Jt 8 O (Jq mB (gY ?_)); refine Jq nj (gY ?_); refine Jq nh (ko ?_); refine Jq ni (Ff ?_); refine Jq n8 (Ff ?_); refine Jq mU (Ff ?_); refine Jq mV (Ff ?_); refine Jq mQ (Q1 O (LR O (JD (j := i) (m := 1) (off' := i) O O O O m5 m5 m5) ?_)); refine LR O (Kf O (kn 2 O) O (Kt (by rw [hal]; omega))) (LR rfl (JD (j := (i / 5 + 5 * ((2 * (i % 5) + 3 * (i / 5)) % 5))) (m := 1) (off' := (i / 5 + 5 * ((2 * (i % 5) + 3 * (i / 5)) % 5))) rfl rfl rfl rfl m5 m5 m5) (KF (k := 0) (off := i / 5 + 5 * ((2 * (i % 5) + 3 * (i / 5)) % 5)) (xs := (bS a i).map uV) (ys := (bS a (i + 1)).map uV) rfl rfl rfl rfl rfl rfl (by rw [List.length_map, (hbk i).1]; omega) (QU rfl) rfl (Gu ?_))); exact DN
 ·refine NO ?_
  have hi25 : 25 = i := by omega
  subst hi25; refine HY ?_; refine LR O (Jd (xs := (bS a 25).map uV) (n := 25) O (kn 0 O) O O (by rw [List.length_map, (hbk 25).1])) (Jj (k := 1) (n := 25) (ys := (bS a 25).map uV) rfl rfl rfl rfl rfl (by rw [List.length_map, (hbk 25).1]) rfl (VC _) rfl (H6 ?_)); refine Jf O O (.cons (Js (vs := (bS a 25).map uV) O (kn 1 O) O (by rw [List.length_map, (hbk 25).1]; rfl)) .nil) (fun w1 hs1 => ?_); exact No
theorem Jdd {m : List Nat} (hm : SOk 25 m) : Pure Tryz.prog 205 [.agg ((tS m 24).map uV).toArray].toArray (.agg ((rS m turnsL 25).map uV).toArray) := by
 rw [← Jov hm]; exact Jgq (Jl3 hm 24)
theorem zP (ha : SOk 25 a) : Pure Tryz.prog 149 [.agg (a.map uV).toArray].toArray (.agg ((qy a).map uV).toArray) := by
 refine Jl Tryz.func149 O O fun w => JJ ?_
 have hal := ha.1
 have hpk := fun i => XS ha i
 refine kZ fun r1 r2 => ?_; refine H2 ?_; refine Jw (σ := Nat) (fun i => i ≤ 24) (fun i => [(1, .pointer (some ⟨r1, 0, none⟩)), (2, .pointer (some ⟨r2, 0, none⟩)), (3, .int .i64 (i : Int))]) (fun i => [(r2, lO z25), (r1, lO (Xm a i))]) (fun _ _ _ => True) (fun i => 24 - i) 0 (Nat.zero_le _) (lK O) (List.Sublist.refl _) (fun _ _ h => h) ?_; intro i hi; refine Dk ?_; refine cD (fun g => ?_) fun g => ?_
 refine gk ?_
 obtain ⟨A, hA⟩ : ∃ A, A = Xm a i := ⟨_, rfl⟩
 have hAk : SOk 25 A := by rw [hA]; exact hpk i
 obtain ⟨B, hB⟩ : ∃ B, B = rS (Jcn A) turnsL 25 := ⟨_, rfl⟩
 have hBk : SOk 25 B := by rw [hB]; exact Jam _ (Zd hAk) 25
 have hxk := Jan hBk hAk 25
 have hstep : (xS B A 25).set 0 ((xS B A 25).getD 0 0 ^^^ numsL.getD i 0) = Xm a (i + 1) := by rw [Jyl B hAk.1 (Zd hAk).1, hB, hA]; rfl
 refine HY ?_; refine LR O (Jd (xs := (Xm a i).map uV) (n := 25) O (kn 1 O) O O (by rw [List.length_map, (hpk i).1])) ?_; rw [← hA]; refine Jn O O O (enters_of Tryz.func207 m6 O) (Jjf hAk) (Jn O O O (enters_of Tryz.func206 m6 O) (Jgp (Zd hAk)) (Jn O O O (enters_of Tryz.func205 m6 O) (Jdd (Zd hAk)) ?_)); rw [← hB]; refine F1 fun r3 => ?_; refine Jj (k := 0) (n := 25) (ys := (B).map uV) O O O O O (by rw [List.length_map, hBk.1]) rfl (VC _) rfl (H2 ?_); refine Jw (σ := Nat) (fun j => j ≤ 25) (fun j => [(1, .pointer (some ⟨r1, 0, none⟩)), (2, .pointer (some ⟨r2, 0, none⟩)), (3, .int .i64 (i : Int)), (4, .pointer (some ⟨r3, 0, none⟩)), (5, .int .i64 (j : Int))]) (fun j => [(r3, lO B), (r2, lO z25), (r1, lO (xS B A j))]) (fun _ _ _ => True) (fun j => 25 - j) 0 (Nat.zero_le _) (lK O) (by rw [hA]; exact List.Sublist.refl _) (fun _ _ h => h) ?_; intro j hj; refine Dk ?_; refine cD (fun g => ?_) fun g => ?_
 refine Jt 8 O (Jq (show _ = Value.int .i64 ((j % 5 : Nat) : Int) from congrArg (Value.int .i64) mi) (JH 8 rfl (Jq (show _ = Value.int .i64 ((j - j % 5 : Nat) : Int) from congrArg (Value.int .i64) mc) (ki ?_)))); refine JK 22 m6 m6 (k5 ?_); refine Ja O O O (JD (j := j) (m := 1) (off' := j) O O O O m5 m5 m5) (Et ?_); refine k5 ?_; refine Nn ?_; refine Ks (show _ = Value.int .i64 ((j % 5 + 1 : Nat) : Int) from congrArg (Value.int .i64) mc) (Nn ?_); refine Ks (show _ = Value.int .i64 (((j % 5 + 1) % 5 : Nat) : Int) from congrArg (Value.int .i64) mi) (Nn ?_); refine Ks (show _ = Value.int .i64 ((j - j % 5 + (j % 5 + 1) % 5 : Nat) : Int) from congrArg (Value.int .i64) mc) (Ja rfl rfl rfl (JD (j := (j - j % 5 + (j % 5 + 1) % 5)) (m := 1) (off' := (j - j % 5 + (j % 5 + 1) % 5)) rfl rfl rfl rfl m5 m5 m5) (Et ?_)); refine Ja O O O (Qp (op := .xor) (n := 18446744073709551615) (b := ((18446744073709551615 ^^^ B.getD (j - j % 5 + (j % 5 + 1) % 5) 0 : Nat) : Int)) O O O (hBk.get _) m7 (congrArg (fun z : Nat => (z : Int)) (Nat.xor_comm _ _))) (k5 ?_); refine Nn ?_; refine Ks (show _ = Value.int .i64 ((j % 5 + 2 : Nat) : Int) from congrArg (Value.int .i64) mc) (Nn ?_); refine Ks (show _ = Value.int .i64 (((j % 5 + 2) % 5 : Nat) : Int) from congrArg (Value.int .i64) mi) (Nn ?_); refine Ks (show _ = Value.int .i64 ((j - j % 5 + (j % 5 + 2) % 5 : Nat) : Int) from congrArg (Value.int .i64) mc) (Ja rfl rfl rfl (JD (j := (j - j % 5 + (j % 5 + 2) % 5)) (m := 1) (off' := (j - j % 5 + (j % 5 + 2) % 5)) rfl rfl rfl rfl m5 m5 m5) (Et ?_)); refine Ja O O O (Qp (op := .and) (b := (((18446744073709551615 ^^^ B.getD (j - j % 5 + (j % 5 + 1) % 5) 0) &&& B.getD (j - j % 5 + (j % 5 + 2) % 5) 0 : Nat) : Int)) O O O (Wa m7 (hBk.get _)) (hBk.get _) O) (Ja O O O (Qp (op := .xor) (b := ((WC B j : Nat) : Int)) O O O (hBk.get _) (yZ (hBk.get _)) O) (Ja O O O (JD (j := j) (m := 1) (off' := j) O O O O m5 m5 m5) (JS (KF (k := 2) (off := j) (xs := (xS B A j).map uV) (ys := (xS B A (j + 1)).map uV) O O O O O O (by rw [List.length_map, (Jan hBk hAk j).1]; omega) (QU rfl) rfl (Gu ?_))))); refine Nk ?_; exact Jo (j + 1) m5 m5 (lK O) (List.Sublist.refl _) (fun _ _ h => h)
 refine gk ?_
 have hj25 : 25 = j := by omega
 subst hj25; refine JK 6 m6 m6 ?_
 refine Dr ?_; refine Ja O O O (Kf O (kn 2 O) O (Kt (by rw [hxk.1]; omega))) (Nm ?_); refine KI O O O (enters_of Tryz.func208 m6 O) (xT (n := i) m5) (Ja O O O (Qp (op := .xor) (b := (((xS B A 25).getD 0 0 ^^^ numsL.getD i 0 : Nat) : Int)) O O O (hxk.get _) (numsL_ok.get _) O) ?_)
 refine Dr ?_; refine JS (KF (k := 2) (off := 0) (xs := (xS B A 25).map uV) (ys := (Xm a (i + 1)).map uV) O O O O O O (by rw [List.length_map, hxk.1]; omega) (QU hstep) rfl (Gu ?_)); refine Nk ?_; refine KU [1, 2] (L' := [_, _]) m7 O ?_; exact NE
 ·refine NO ?_
  have hi24 : 24 = i := by omega
  subst hi24; refine HY ?_; refine LR O (Jd (xs := (Xm a 24).map uV) (n := 25) O (kn 1 O) O O (by rw [List.length_map, (hpk 24).1])) (Jj (k := 0) (n := 25) (ys := (Xm a 24).map uV) rfl rfl rfl rfl rfl (by rw [List.length_map, (hpk 24).1]) rfl (VC _) rfl (H6 ?_)); refine Jf O O (.cons (Js (vs := (Xm a 24).map uV) O (kn 0 O) O (by rw [List.length_map, (hpk 24).1]; rfl)) .nil) (fun w1 hs1 => ?_); exact No
theorem Jgr (k : Nat) : (1 :: List.replicate (k + 1) 0 : List UInt8).map bV = (1 :: List.replicate k 0 : List UInt8).map bV ++ [.int .u8 0] := by
 rw [List.replicate_succ']; simp [bV]
theorem Jym {l : List UInt8} (h : j < l.length) : (l.map bV ++ sp)[j]? = some (.int .u8 ((l.getD j 0).toNat : Nat)) := by
 rw [List.getElem?_append_left M6, zK h]
theorem Jyn {l m : List UInt8} {x : UInt8} (h : j < l.length) (hm : l.set j x = m) : (l.map bV ++ sp).set j (bV x) = m.map bV ++ sp := by
 rw [List.set_append_left _ _ M6, ← hm, List.map_set]
theorem Jji {n : Nat} (hn : n ≤ 1099511627776) : Pure Tryz.prog 148 [.int .i64 (n : Int)].toArray (.tuple #[.string (bs (Ze n)), .int .i64 0]) := by
 refine Jl Tryz.func148 O O fun w => JJ ?_
 obtain ⟨K, hK⟩ : ∃ k, k = 135 - n % 136 := ⟨_, rfl⟩
 have hn1 : n % 136 < 136 := Nat.mod_lt _ m7
 obtain ⟨x, hx⟩ : ∃ x : UInt8, x = (1 :: List.replicate K 0 : List UInt8).getD K 0 := ⟨_, rfl⟩
 have hxl : x.toNat ≤ 1 := by
  rw [hx]
  cases K with
  | zero => decide
  | succ k => rw [show (1 :: List.replicate (k + 1) 0 : List UInt8).getD (k + 1) 0 = 0 from by simp [List.getD_eq_getElem?_getD]]; decide
 have hpl : (1 :: List.replicate K 0 : List UInt8).set K (UInt8.ofNat (x.toNat + 128)) = Ze n := by
  unfold Ze
  cases K with
  | zero => rw [if_pos m5, hx]; rfl
  | succ k =>
   rw [if_neg m5, hx]
   have e1 : (1 :: List.replicate (k + 1) 0 : List UInt8).getD (k + 1) 0 = 0 := by simp [List.getD_eq_getElem?_getD]
   rw [e1, show 134 - n % 136 = k from by omega]; simp only [List.set_cons_succ]
   congr 1
   exact FY
 refine JC 17 O (cD (fun g => ?_) fun g => ?_)
 refine GG ?_; refine Nl fun w1 hs1 => ?_
 first | (exact ⟨rfl, hs1.keep⟩) | (exfalso; omega)
 ·refine gZ ?_; refine kj fun r1 => ?_; refine JN 5 O (Jw (σ := Nat × Nat × Nat × List Value) (fun q => q.1 ≤ K ∧ rowOk 1 (q.1 + 1) ((1 :: List.replicate q.1 0 : List UInt8).map bV) (some q.2)) (fun q => [(0, .int .i64 (n : Int)), (4, .slice (some ⟨q.2.1, 0, none⟩) (q.1 + 1) q.2.2.1)]) (fun q => JE 5 ((1 :: List.replicate q.1 0 : List UInt8).map bV) (some q.2)) (fun _ _ _ => True) (fun q => K - q.1) (0, r1, 1, []) ⟨Nat.zero_le _, rfl, rfl⟩ (lK O) (List.Sublist.refl _) (fun _ _ h => h) ?_); rintro ⟨k, r, cap, sp⟩ ⟨hk, hrow⟩; simp only at hk hrow ⊢; refine EV ?_; refine Ff ?_; refine Jq (show _ = Value.int .i64 ((n + (k + 1) : Nat) : Int) from congrArg (Value.int .i64) mc) (Ff ?_); refine Jq (show _ = Value.int .i64 (((n + (k + 1)) % 136 : Nat) : Int) from congrArg (Value.int .i64) mi) (ki ?_); refine cD (fun g => ?_) fun g => ?_
  refine gn ?_; refine He fun r2 => ?_; refine JA (L0 := [_]) (xs := (1 :: List.replicate k 0 : List UInt8).map bV) (row := some (r, cap, sp)) (n := k + 1) (sz := 1) (b := 1) (news := [_]) (List.perm_append_comm (l₁ := [_])) O O O O (kn 0 O) O O O O O m7 O O O m7 hrow m5 m5 fun ra rcap rsp hra => H6 ?_; refine Jr (KU [0] (L' := [_]) m7 O ?_); exact Jo (k + 1, ra, rcap, rsp) ⟨by simp only; omega, by simp only; rw [Jgr]; exact hra⟩ mh (lK O) (by simp only; rw [Jgr]; exact List.Sublist.refl _) (fun _ _ h => h)
  ·refine NO ?_
   have hkK : K = k := by omega
   subst hkK; refine Gy ?_; refine kF ?_; refine Ff ?_; refine Jq np (ko ?_); refine kF ?_; refine Ff ?_; refine Jq np (LR O (JO (j := K) (m := 1) (off' := K) O O O O O m5 m5) (LR O (Kf O (kn 0 O) O (Jym ml)) ?_)); rw [← hx]; refine Ff ?_; refine Jq (show _ = bV (UInt8.ofNat (x.toNat + 128)) from (congrArg (Value.int .u8) (show IntKind.u8.wrap _ = ((x.toNat + 128 : Nat) : Int) from by rw [YX m5 m5]; omega)).trans (yN m5)) (LR rfl (JO (j := K) (m := 1) (off' := K) rfl rfl rfl rfl rfl m5 m5) (KF (k := 0) (off := K) (xs := (1 :: List.replicate K 0 : List UInt8).map bV ++ sp) (ys := (Ze n).map bV ++ sp) rfl rfl rfl rfl rfl rfl nU (Jyn ml hpl) rfl (kL ?_))); refine LR O (Kw (b := Ze n) (row := some (r, cap, sp)) (e := 5) (show _ = some (J9 (Ze n).length (some (r, cap, sp))) from by rw [Xn, show 136 - n % 136 = K + 1 from by omega]; rfl) (by obtain ⟨h1, h2⟩ := hrow; rw [Xn, show 136 - n % 136 = K + 1 from by omega]; exact ⟨by rw [List.length_map, Xn]; omega, h2⟩) (fun p hp => .inl mz) rfl rfl rfl) (gy ?_); refine Nl fun w1 hs1 => ?_
   first | (exact ⟨rfl, hs1.keep⟩) | (exfalso; omega)
theorem Jow (a : List Nat) (i : Nat) : (Yh a (i + 1)).map bV = (Yh a i).map bV ++ [bV (UInt8.ofNat (a.getD (i / 8) 0 / 2 ^ (i % 8 * 8) % 256))] := by rw [Yh]; simp
theorem Js6 {t : List UInt8} : (((t.getD (136 * j + i) 0).toNat : Nat) : Int) = (((t.drop (136 * j)).getD i 0).toNat : Nat) := by simp [List.getD_eq_getElem?_getD]
theorem Zn {s : List UInt8} (hs : s.length ≤ 1099511627776) : Pure Tryz.prog 93 [.string (bs s)].toArray (.string (bs (WN s))) := by
 refine Jl Tryz.func93 O O fun w => JJ ?_
 have hpl := Xn s.length
 obtain ⟨t, ht⟩ : ∃ t, t = s ++ Ze s.length := ⟨_, rfl⟩
 obtain ⟨N, hN⟩ : ∃ N, N = t.length / 136 := ⟨_, rfl⟩
 have htl : t.length = 136 * N := by have := zi s; rw [← ht] at this; omega
 have hlim : t.length ≤ 2199023255552 := by rw [ht, List.length_append]; omega
 have hkec : WN s = Yh (qz t N) 32 := by unfold WN; rw [← ht, ← hN]
 refine Jt 8 O (gt ?_); refine Jn O O O (enters_of Tryz.func148 m6 O) (Jji hs) (JH 11 O (LR O (KB O O m5) ?_)); rw [← ht]; refine kL ?_; refine KL (cs := (z25.map uV).toArray) O O O O fun r1 => H2 ?_; refine Jw (σ := Nat) (fun j => j ≤ N) (fun j => [(5, .string (bs t)), (6, .pointer (some ⟨r1, 0, none⟩)), (7, .int .i64 ((136 * j : Nat) : Int))]) (fun j => [(r1, lO (qz t j))]) (fun _ _ _ => True) (fun j => N - j) 0 (Nat.zero_le _) (lK O) (List.Sublist.refl _) (fun _ _ h => h) ?_; intro jj hjj; refine gn ?_; refine gt ?_; refine ki ?_; refine cD (fun g => ?_) fun g => ?_
 refine NO ?_
 obtain ⟨a, ha⟩ : ∃ a, a = qz t jj := ⟨_, rfl⟩
 have hak : SOk 25 a := by rw [ha]; exact q6 t jj
 obtain ⟨u, hu⟩ : ∃ u, u = t.drop (136 * jj) := ⟨_, rfl⟩
 have habk := zh u hak
 refine gk ?_; refine Jw (σ := Nat) (fun i => i ≤ 136) (fun i => [(5, .string (bs t)), (6, .pointer (some ⟨r1, 0, none⟩)), (7, .int .i64 ((136 * jj : Nat) : Int)), (8, .int .i64 (i : Int))]) (fun i => [(r1, lO (abS a u i))]) (fun _ _ _ => True) (fun i => 136 - i) 0 (Nat.zero_le _) (lK O) (by rw [show abS a u 0 = qz t jj from ha]; exact List.Sublist.refl _) (fun _ _ h => h) ?_; intro i hi; refine Dk ?_; refine cD (fun g => ?_) fun g => ?_
 refine FR ?_; refine JK 19 m6 m6 (gr ?_); refine Ks mp (gr ?_); refine Ks mp (Ja O O O (JD (j := (i / 8)) (m := 1) (off' := (i / 8)) O O O O m5 m5 m5) (Ja O O O (Kf O (kn 0 O) O (Kt (by rw [(habk i).1]; omega))) (k5 ?_))); refine gr ?_; refine Ks (show _ = Value.int .i64 ((136 * jj + i : Nat) : Int) from congrArg (Value.int .i64) mc) (Ja rfl rfl rfl (Y5 (j := 136 * jj + i) rfl rfl rfl rfl m5 Js6) ?_); rw [← hu]; refine Nn ?_; refine Ks mX (gr ?_); refine Ks mA (Nn ?_); refine Ks mC (Nn ?_); refine Ks nq (GC ?_); refine Ja O O O (JD (j := (i / 8)) (m := 1) (off' := (i / 8)) O O O O m5 m5 m5) (HT ?_); refine Gu ?_; exact DN
 refine gk ?_
 have hi136 : 136 = i := by omega
 subst hi136; refine Ez ?_; refine Jn O O O (enters_of Tryz.func149 m6 O) (zP (habk 136)) (Ee ?_); refine Gu ?_; refine Jq (show _ = Value.int .i64 ((136 * (jj + 1) : Nat) : Int) from congrArg (Value.int .i64) mc) (Dn ?_); exact Jo (jj + 1) m5 m5 (lK O) (by rw [show qz t (jj + 1) = qy (abS a u 136) from by rw [hu, ha]; rfl]; exact List.Sublist.refl _) (fun _ _ h => h)
 ·refine NO ?_
  have hjN : N = jj := by omega
  subst hjN
  obtain ⟨a, ha⟩ : ∃ a, a = qz t N := ⟨_, rfl⟩
  have hak : SOk 25 a := by rw [ha]; exact q6 t N
  have hkec2 : WN s = Yh a 32 := by rw [hkec, ha]
  refine JC 11 O (Jw (σ := Nat × List Value × QC) (fun q => q.1 ≤ 32 ∧ q.2.1 = (Yh a q.1).map bV ∧ rowOk 1 q.1 q.2.1 q.2.2) (fun q => [(6, .pointer (some ⟨r1, 0, none⟩)), (9, J9 q.1 q.2.2), (10, .int .i64 (q.1 : Int))]) (fun q => (r1, lO a) :: JE 5 q.2.1 q.2.2) (fun _ _ _ => True) (fun q => 32 - q.1) (0, [], none) ⟨by simp, rfl, ⟨rfl, rfl⟩⟩ (lK rfl) (by rw [ha]; exact List.Sublist.refl _) (fun _ _ h => h) ?_); rintro ⟨i, xs, row⟩ ⟨hi, hxs, hrow⟩; simp only at hi hxs hrow ⊢; refine Dk ?_; refine cD (fun g => ?_) fun g => ?_
  refine Jt 8 O (Jq mp (LR O (JD (j := (i / 8)) (m := 1) (off' := (i / 8)) O O O O m5 m5 m5) (LR O (Kf O (kn 0 O) O (Kt (by rw [hak.1]; omega))) (ko ?_)))); refine Jq mA (Ff ?_); refine Jq mC (QN O (Jq nq (LR O (jE (n := i % 8 * 8) O O O mM m5 (Za _ _)) ?_))); refine QN O (Jq (show _ = uV (a.getD (i / 8) 0 / 2 ^ (i % 8 * 8) % 256) from congrArg (Value.int .u64) (KT _ 256)) ?_); refine QN O (Jq (show _ = bV (UInt8.ofNat (a.getD (i / 8) 0 / 2 ^ (i % 8 * 8) % 256)) from Jcc (Nat.mod_lt _ m7)) ?_); refine kj fun r1 => ?_; refine JA (L0 := [_, _]) (xs := xs) (row := row) (n := i) (sz := 1) (b := 1) (news := [_]) (List.perm_append_comm (l₁ := [_, _])) O O O O (kn 0 O) O O O O O m7 O O O m7 hrow m5 m5 fun ra cap sp hra => D8 ?_; refine KU [2, 0] (L' := [_, _]) m7 O ?_; exact Jo (i + 1, xs ++ [bV (UInt8.ofNat (a.getD (i / 8) 0 / 2 ^ (i % 8 * 8) % 256))], some (ra, cap, sp)) ⟨by simp only; omega, by simp only; rw [Jow, hxs], hra⟩ mh (lK rfl) (List.Sublist.refl _) (fun _ _ h => h)
  ·refine NO ?_
   have hi32 : 32 = i := by omega
   subst hi32; refine kE ?_; refine LR O (Kw (b := Yh a 32) (row := row) (e := 5) (show _ = some (J9 (Yh a 32).length row) from by rw [Wb]; rfl) (by rw [Wb, ← hxs]; exact hrow) (fun p hp => .inl (by rw [hxs]; exact List.mem_cons_of_mem _ hp)) O O O) (gM ?_); exact I1
abbrev Wn (r : Nat) : Value := .pointer (some ⟨r, 0, none⟩)
def V1 (l : List BS) : List Value := l.map J5
theorem Jyo (l : List BS) : (V1 l).length = l.length := by unfold V1; rw [List.length_map]
theorem Zo {l : List BS} {s : BS} (h : l[i]? = some s) : (V1 l)[i]? = some (J5 s) := by unfold V1; rw [List.getElem?_map, h]; rfl
theorem Jyp (l : List BS) : (V1 l).all QE = true := by
 exact I4
theorem Jjj (n : Nat) (row : QC) : (J9 n row).cells = #[J9 n row] := by cases row <;> rfl
theorem Jox (n : Nat) (row : QC) : QE (J9 n row) = true := by cases row <;> rfl
theorem Jjk {s : BS} (h : s.length ≤ 32) : Pure Tryz.prog 222 [J5 s].toArray (J5 (jM s)) := by
 unfold jM
 refine Jl Tryz.func222 O O fun w => kV ?_; refine gt ?_
 refine Ff ?_; refine Jq (show _ = Value.int .i64 ((32 - s.length : Nat) : Int) from by rw [wrap_i64 m5 m5]; congr 1 <;> omega) ?_; refine Jn O O O (enters_of Tryz.func189 m6 O) (Jaz (n := 32 - s.length) m5) ?_; rw [zG]; refine LR O (KB (a := s) (b := List.replicate (32 - s.length) 0) O O (by rw [List.length_replicate]; omega)) ?_; exact NU
theorem Js7 {l : List BS} {p : Pl} (hl : l.length ≤ 100000) (hs : Seg R l.length (V1 l) p) :
  PureT (α := { row : QC // rowOk 1 l.length (V1 l) row }) Tryz.prog 223 [KA l.length p].toArray (fun x => J9 l.length x.1) [] (fun x => JE 9 (V1 l) x.1) R := by
 cases p with
 | none =>
  have h0 : l = [] := List.length_eq_zero_iff.1 hs
  subst h0; refine J4 Tryz.func223 O O fun w => HI ?_; refine cD (fun g => ?_) fun g => ?_
  exact Ho
  try exact Bool.noConfusion g
 | some q =>
  refine J4 Tryz.func223 O O fun w => HI ?_; refine J7 O (fun g => ?_) (fun g => ?_)
  try exact Bool.noConfusion g
  ·refine gZ ?_; refine XX O O O O fun r1 => Q1 O (zr (k := 0) (b := 16) (sz := 1) O O O O O O hs oR O O O O O m7 (by rw [Jyo, Nat.mul_one]) (Jyp l) m5 m5 fun row hrow => (J1 4 rfl ?_)); exact GX
theorem Jgs (n : Nat) (row : QC) : PureE (α := Nat) Tryz.prog 224 [J9 n row].toArray (fun r => .func (.func 306) #[] #[Wn r]) (fun r => [(r, .cells #[J9 n row] 184 (0, 0))]) := by
 refine Kq Tryz.func224 O O fun w => NH ?_; refine JX (cs := #[J9 n row]) O O O (Jjj n row) fun r1 => ?_; exact Fy
def J0w (l : List BS) : Nat → List Value → Jx → Nat → Prop := fun i v B i' => 2 * i + 1 < l.length ∧ i' = i + 1 ∧ v = [J5 (l.getD (2 * i) []), J5 (l.getD (2 * i + 1) [])] ∧ B = []
theorem Ja2 {l : List BS} : ∀ i v B i', J0w l i v B i' → v.length = 2 := by rintro _ _ _ _ ⟨_, _, rfl, _⟩; rfl
theorem Ya {l : List BS} (h : i < l.length) : l[i]? = some (l.getD i []) := by rw [List.getD_eq_getElem?_getD, List.getElem?_eq_getElem h]; rfl
theorem Jgt {l : List BS} (hl : l.length ≤ 1000000) (hrow : rowOk 1 l.length (V1 l) row) (r : Nat) :
    Jkf Tryz.prog 306 [Wn r] ((r, .cells #[J9 l.length row] 184 (0, 0)) :: JE 9 (V1 l) row) 0 (J0w l) (fun i => ¬ 2 * i + 1 < l.length) := by
  have hs : Seg ((r, .cells #[KA l.length (KY row)] 184 (0, 0)) :: JE 9 (V1 l) row) l.length (V1 l) (KY row) := (JQ hrow m7).mono fun q hq => List.mem_cons_of_mem _ hq
  rw [← QG _ _ hrow.zero]; refine wo Tryz.func306 O O fun q xids w2 XI XF hY => FA ?_; refine Jw (σ := Nat) (fun i => 2 * i ≤ l.length + 1) (fun i => [(0, .func (.yield q) #[] #[]), (1, Wn r), (3, .int .i64 ((2 * i : Nat) : Int))]) (fun _ => []) (fun i => XI i) (fun i => l.length + 1 - 2 * i) 0 m5 (lK O) (List.Sublist.refl _) (fun _ _ h => h) ?_; intro i hi1; refine gn ?_; refine Jq mO (gF ?_); refine ND ?_; refine ki ?_; refine cD (fun g => ?_) fun g => ?_
  · refine gk ?_; refine JK 10 m6 m6 (Nm ?_); refine Ja O O O (Je O (JF (k := 0) O) O O) (Nm ?_)
    refine Ja O O O (Jk (j := (2 * i)) O hs O O O me m5) (Ja O O O (Qz oR O hs m5 O (Zo (Ya (i := 2 * i) m5))) (Ja O O O (Je O (JF (k := 0) O) O O) (gr ?_))); refine Ks mO ?_
    refine Ja O O O (Jk (j := (2 * i + 1)) O hs O O O me m5) (Ja O O O (Qz oR O hs m5 O (Zo (Ya (i := 2 * i + 1) m5))) (JS (vi (B := []) (XT := XI (i + 1)) (XF := XF) O O O O (hY i [J5 (l.getD (2 * i) []), J5 (l.getD (2 * i + 1) [])] [] (i + 1) ⟨by omega, rfl, rfl, rfl⟩) oN ?_ ?_)))
    all_goals (
     refine D5 ?_; refine J7 O (fun g => ?_) (fun g => ?_)
     · try exact Bool.noConfusion g
       all_goals try simp only [ZZ] at g
       all_goals (
        exact Nr
        skip)
     · try exact Bool.noConfusion g
       all_goals try simp only [ZZ] at g
       all_goals (
        refine Gq ?_; refine Jq nA (Dn ?_); exact NE
        skip)
     skip)
  · refine gs fun w1 hs1 => ?_
    obtain ⟨xs1, hx1⟩ := hs1.now
    exact ⟨⟨_, rfl⟩, hs1.keep, .inl ⟨i, _, by omega, hx1⟩⟩
theorem Jde {k : Nat} : 2 ^ k < m ↔ k < lg m := by
 constructor
 ·intro h
  rcases Nat.lt_or_ge k (lg m) with h1 | h1
  ·exact h1
  ·have h2 := Jf2 m
   have h3 : 2 ^ lg m ≤ 2 ^ k := Nat.pow_le_pow_right m7 h1
   omega
 ·exact J0p
theorem vJ (l : List BS) : ∀ {i : Nat}, 2 * i + 1 < l.length → (SL.pairUp l).take (i + 1) = (SL.pairUp l).take i ++ [WN (l.getD (2 * i) [] ++ l.getD (2 * i + 1) [])] := by
 induction l using SL.pairUp.induct with
 | case1 a b l ih =>
  intro i hi
  cases i with
  | zero => rw [SL.pairUp]; rfl
  | succ i =>
   rw [SL.pairUp, List.take_succ_cons, List.take_succ_cons, ih (by simp only [List.length_cons] at hi; omega), show 2 * (i + 1) = 2 * i + 1 + 1 by omega, show 2 * i + 1 + 1 + 1 = 2 * i + 1 + 1 + 1 by rfl]
   rfl
 | case2 l h =>
  intro i hi
  match l, h with
  | [], _ => simp at hi
  | [a], _ => simp at hi
  | a :: b :: l, h => exact absurd O (h a b l)
theorem wy (l : List BS) (z : BS) : (QA l z).length % 2 = 0 := by rw [XZ]; omega
theorem zQ {l : List BS} {z : BS} (h : ∀ x ∈ l, x.length = 32) (hz : z.length = 32) : ∀ x ∈ QA l z, x.length = 32 := by
 intro x hx
 unfold QA at hx
 split at hx
 ·rcases List.mem_append.1 hx with hx | hx
  ·exact h x hx
  ·rw [List.mem_singleton.1 hx]; exact hz
 ·exact h x hx
theorem YE {l : List BS} (h : ∀ x ∈ l, x.length = 32) (hi : i < l.length) : (l.getD i []).length = 32 := h _ (List.mem_of_getElem? (Ya hi))
theorem zR {n : Nat} (h : n ≤ 65536) : IntKind.i64.wrap ((n : Int) * 2) = ((n * 2 : Nat) : Int) := by
 rw [wrap_i64 m5 m5]; omega
structure TreeI (l0 : List BS) (m : Nat) (k : Nat) (ls : List BS) (row : QC) (z : BS) : Prop where
  le : k ≤ lg m
  ok : rowOk 1 ls.length (V1 ls) row
  eq : We (lg m - k) ls z = QY l0 m
  len : ls.length ≤ 2 ^ (lg m - k)
  mem : ∀ x ∈ ls, x.length = 32
  zl : z.length = 32
set_option maxHeartbeats 1000000 in
theorem yu {l : List BS} {p : Pl} (hl : l.length ≤ m) (hm2 : m ≤ 65536) (hs : Seg R l.length (V1 l) p) (h32 : ∀ s ∈ l, s.length = 32) :
  PureR Tryz.prog 168 [KA l.length p, .int .i64 (m : Int)].toArray (J5 (QY l m)) R := by
 have hlg : lg m ≤ 16 := J0q (by simpa using hm2)
 have h0 := qG hl
 refine Jc Tryz.func168 O O fun w => Gi ?_; refine Kn O O O (enters_of Tryz.func223 m6 O) (Js7 m5 hs) oR fun x => ?_
 obtain ⟨row, hrow⟩ := x
 refine Kv (List.perm_append_comm (l₂ := [])) ?_; change HL _ _ ((11, J9 l.length row) :: _) (JE 9 (V1 l) row) _ _ _ _; refine kL ?_; refine Jn O O O Jr6 (Jjk (s := []) m7) (Jq (show _ = J5 z32 from rfl) (Ht ?_)); refine Jru (σ := Nat × List BS × QC × BS × List Nat) (fun q => q.2.2.2.2.map WR ++ []) (fun q => TreeI l m q.1 q.2.1 q.2.2.1 q.2.2.2.1) (fun q => [(0, J9 q.2.1.length q.2.2.1), (1, .int .i64 (m : Int)), (5, J5 q.2.2.2.1), (6, .int .i64 ((2 ^ q.1 : Nat) : Int))]) (fun q => Xz q.2.2.2.2 ++ JE 9 (V1 q.2.1) q.2.2.1) (fun _ _ _ => True) (fun q => lg m - q.1) (0, l, row, z32, []) O ⟨Nat.zero_le _, hrow, h0, Nat.le_trans hl (Jf2 m), h32, rfl⟩ (lK O) (List.Sublist.refl _) (fun _ _ h => h) ?_; rintro ⟨k, ls, row, z, Ds⟩ hi; refine inK ?_; simp only at hi; change HC _ (Ds.map WR ++ []) [(0, J9 ls.length row), (1, _), (5, J5 z), (6, .int .i64 ((2 ^ k : Nat) : Int))] (Xz Ds ++ JE _ (V1 ls) row) _ _ _; refine JC 8 O (cD (fun g => ?_) fun g => ?_)
 ·refine NO ?_
  have hk : k < lg m := Jde.1 m5
  obtain ⟨K, hK⟩ : ∃ K, lg m - k = K + 1 := ⟨lg m - k - 1, by omega⟩
  have heq := hi.eq
  have hlen := hi.len
  rw [hK, We] at heq; rw [hK, Nat.pow_succ] at hlen
  have hK16 : 2 ^ K ≤ 65536 := by have := Nat.pow_le_pow_right (n := 2) (i := K) (j := 16) m7 m5; simpa using this
  have hzl := hi.zl
  have hk16 : 2 ^ k ≤ 65536 := by have := Nat.pow_le_pow_right (n := 2) (i := k) (j := 16) m7 m5; simpa using this
  refine kE ?_; refine LR O (VW O hi.ok.zero O) (QN O (Jq (show _ = Value.int .i64 ((ls.length % 2 : Nat) : Int) from congrArg (Value.int .i64) (KT _ 2)) (JN 3 rfl ?_))); refine cD (fun g => ?_) fun g => ?_
  ·refine Gy ?_; refine kj fun r1 => ?_; refine JA (L0 := _ :: Xz Ds) (xs := V1 ls) (row := row) (n := ls.length) (sz := 1) (b := 16) (news := [_]) (List.perm_append_comm (l₁ := _ :: Xz Ds)) O O O O (kn 0 O) O O O O O m7 O O O m7 hi.ok m5 m5 fun ra cap sp hra => Gb ?_
   (have e : QA ls z = ls ++ [z] := by unfold QA; rw [if_pos m5]
    refine yr (List.perm_append_comm (l₁ := [_])) (qH (L' := Xz Ds ++ JE 9 (V1 ls ++ [J5 z]) (some (ra, cap, sp))) (.cons _ (List.Sublist.refl _)) ?_); change HC _ _ ((0, J9 (ls.length + 1) (some (ra, cap, sp))) :: _) _ _ _ _
    generalize hn2 : ls.length + 1 = n2 at hra ⊢
    generalize hc2 : V1 ls ++ [J5 z] = xs2 at hra ⊢
    generalize (some (ra, cap, sp) : QC) = row2 at hra ⊢
    obtain rfl : n2 = (QA ls z).length := by rw [e, ← hn2, List.length_append]; rfl
    obtain rfl : xs2 = V1 (QA ls z) := by rw [e, ← hc2]; unfold V1; rw [List.map_append]; rfl)
   have hm2e := zQ hi.mem hi.zl
   have hev := wy ls z
   have hl2 := XZ ls z
   obtain ⟨ls2, hls2⟩ : ∃ x, x = QA ls z := ⟨_, rfl⟩
   rw [← hls2] at hm2e hev hl2 hra heq ⊢
   have hl2b : ls2.length ≤ 2 ^ K * 2 := by omega
   refine HY ?_; refine LN O fun r1 => Gu ?_; refine G9 fun rb => ?_; refine Y4 (τ := Unit) (fun i (s : Nat × List Value × QC) => 2 * i ≤ ls2.length ∧ s.1 = i ∧ s.2.1 = V1 ((SL.pairUp ls2).take i) ∧ rowOk 1 i s.2.1 s.2.2) (fun s => (r1, .cells #[J9 s.1 s.2.2] 184 (0, 0)) :: JE 9 s.2.1 s.2.2) (fun _ _ => False) (fun _ => []) (Xz Ds ++ ((rb, .cells #[J9 ls2.length row2] 184 (0, 0)) :: JE 9 (V1 ls2) row2)) (0, [], none) O O (enters_of Tryz.func306 m6 O) (Jgt m5 hra rb) Ja2 O (fun q hq => .inl (List.mem_append_right _ hq)) O ⟨Nat.zero_le _, rfl, rfl, rfl, rfl⟩ ?_ ?_ ?_
   rintro q Xr Xb w3 i _ _ _ ⟨n, xs, row3⟩ ⟨hii, rfl, rfl, rfl⟩ ⟨h2i, hn, hxs, hr3⟩ Kr hKr; refine inR ?_
   simp only at hn hxs hr3; rw [← hn] at hr3; refine GG ?_; refine F2 ?_; clear hKr; exact Hj
   rintro D i ⟨n, xs, row3⟩ hfi ⟨h2i, hn, hxs, hr3⟩
   simp only at hn hxs hr3
   have hi2 : 2 * i = ls2.length := by omega
   exact GQ
   exact Gh
  ·refine GU ?_
   (have e : QA ls z = ls := by unfold QA; rw [if_neg m5]
    have hra := hi.ok
    generalize row = row2 at hra ⊢
    generalize hn2 : ls.length = n2 at hra ⊢
    generalize hc2 : V1 ls = xs2 at hra ⊢
    obtain rfl : n2 = (QA ls z).length := by rw [e, ← hn2]
    obtain rfl : xs2 = V1 (QA ls z) := by rw [e, ← hc2])
   have hm2e := zQ hi.mem hi.zl
   have hev := wy ls z
   have hl2 := XZ ls z
   obtain ⟨ls2, hls2⟩ : ∃ x, x = QA ls z := ⟨_, rfl⟩
   rw [← hls2] at hm2e hev hl2 hra heq ⊢
   have hl2b : ls2.length ≤ 2 ^ K * 2 := by omega
   refine HY ?_; refine LN O fun r1 => Gu ?_; refine G9 fun rb => ?_; refine Y4 (τ := Unit) (fun i (s : Nat × List Value × QC) => 2 * i ≤ ls2.length ∧ s.1 = i ∧ s.2.1 = V1 ((SL.pairUp ls2).take i) ∧ rowOk 1 i s.2.1 s.2.2) (fun s => (r1, .cells #[J9 s.1 s.2.2] 184 (0, 0)) :: JE 9 s.2.1 s.2.2) (fun _ _ => False) (fun _ => []) (Xz Ds ++ ((rb, .cells #[J9 ls2.length row2] 184 (0, 0)) :: JE 9 (V1 ls2) row2)) (0, [], none) O O (enters_of Tryz.func306 m6 O) (Jgt m5 hra rb) Ja2 O (fun q hq => .inl (List.mem_append_right _ hq)) O ⟨Nat.zero_le _, rfl, rfl, rfl, rfl⟩ ?_ ?_ ?_
   rintro q Xr Xb w3 i _ _ _ ⟨n, xs, row3⟩ ⟨hii, rfl, rfl, rfl⟩ ⟨h2i, hn, hxs, hr3⟩ Kr hKr; refine inR ?_
   simp only at hn hxs hr3; rw [← hn] at hr3; refine GG ?_; refine F2 ?_; clear hKr; exact Hj
   rintro D i ⟨n, xs, row3⟩ hfi ⟨h2i, hn, hxs, hr3⟩
   simp only at hn hxs hr3
   have hi2 : 2 * i = ls2.length := by omega
   exact GQ
   exact Gh
 ·refine Dk ?_
  have hkl : ¬ k < lg m := fun h => by have := Jde.2 h; omega
  obtain rfl : k = lg m := by have := hi.le; omega
  have heq := hi.eq
  have hlen := hi.len
  rw [Nat.sub_self] at heq hlen; refine kE ?_; refine LR O (VW O hi.ok.zero O) (ki ?_); refine cD (fun g => ?_) fun g => ?_
  refine GG ?_; refine zz Ds (Ni fun w1 hs1 => ?_)
  (obtain rfl : ls = [] := List.eq_nil_of_length_eq_zero m5
   rw [← heq]; rfl)
  ·refine GU ?_
   obtain ⟨s0, hls1⟩ : ∃ s0, ls = [s0] := by
    match ls, hlen with
    | [a], _ => exact ⟨a, rfl⟩
    | [], _ => exact absurd O m9
    | _ :: _ :: _, h => simp at h
   refine kE ?_; refine LR O (Jk (p := KY row) (j := 0) (show _ = some (KA ls.length (KY row)) from by rw [QG _ _ hi.ok.zero]; rfl) (JQ (e := 9) hi.ok m7) rfl rfl rfl rfl m5) (LR rfl (Qz (p := KY row) (fun q hq => Or.inl (List.mem_append_right _ hq)) rfl (JQ (e := 9) hi.ok m7) m5 rfl (Zo (show ls[0]? = some s0 from by rw [hls1]; rfl))) (gM ?_)); refine zz Ds (Ni fun w1 hs1 => ?_); rw [← heq, hls1]; rfl
abbrev fV1 (f : FuncId) : Value := .func (.func f) #[] #[]
def Yj (root : BS) (n : Nat) : BS := WN (root ++ jM (Y2 n 8))
theorem le8 {n : Nat} (h : n < 18446744073709551616) : jZ n 8 = (Y2 n 8, 0) := by
 unfold jZ
 rw [if_neg]
 ·rfl
 ·have := (Jl1 (n := n) (k := 8) h m7).2 Mh
  omega
theorem J5s {n : Nat} : jM (Y2 n 8) = yY [n, 0, 0, 0] 32 := by
 unfold jM yY
 rw [List.take_of_length_le MX, Qk]
 apply List.ext_getElem?
 intro i
 by_cases hi : i < 32
 ·rw [List.getElem?_reverse (by rw [Q2]; exact hi), Q2, wY _ m5, show 32 - 1 - (32 - 1 - i) = i by omega]
  by_cases h8 : i < 8
  ·rw [List.getElem?_append_left (by rw [Qk]; exact h8), Jku h8, Jjc h8]
  ·rw [List.getElem?_append_right (by rw [Qk]; omega), Qk, List.getElem?_replicate, if_pos m5, Jst m5 hi]; rfl
 ·rw [List.getElem?_eq_none (by simp [Qk]; omega), List.getElem?_eq_none (by rw [List.length_reverse, Q2]; omega)]
theorem Js8 (hr : root.length ≤ 1000) {n : Nat} (hn : n ≤ 9223372036854775807) : Pure Tryz.prog 163 [J5 root, .int .i64 (n : Int)].toArray (J5 (Yj root n)) := by
 have hk := zM (s := root ++ jM (Y2 n 8)) (by rw [List.length_append, qx Na]; omega)
 change Pure _ _ _ (J5 (Yj root n)) at hk
 have hp := qx (s := Y2 n 8) Na
 generalize Yj root n = z at hk
 refine Jl Tryz.func163 O O fun w => kV ?_; refine Jq (show _ = uV n from congrArg (Value.int .u64) (wrap_u64 (z := (n : Int)) m5 m5)) (Jn rfl rfl rfl Jxr (qM (n := n) m5 8) (Jq (show _ = Value.tuple #[J5 (Y2 n 8), .int .i64 0] from by rw [le8 m5]; rfl) (JH 11 rfl (Jn rfl rfl rfl Jr6 (Jjk (s := Y2 n 8) Na) (LR rfl (KB (a := root) (b := jM (Y2 n 8)) rfl rfl m5) (Jn rfl rfl rfl Ji3 hk ?_)))))); exact NU
theorem Js9 {w : List Nat} (hi : i < 32) : yY w (i + 1) = yY w i ++ [(Yw w 32).getD (31 - i) 0] := by
 unfold yY
 have hl : i < (Yw w 32).reverse.length := by rw [List.length_reverse, Q2]; exact hi
 rw [List.take_succ_eq_append_getElem hl]
 congr 2
 have h1 := List.getElem?_eq_getElem hl
 rw [List.getElem?_reverse (by rw [Q2]; exact hi), Q2] at h1; rw [List.getD_eq_getElem?_getD, show 31 - i = 32 - 1 - i by omega, h1]; rfl
theorem Jgu {v : List Nat} (hv : WOk v) {n : Nat} (hn : n ≤ 32) : Pure Tryz.prog 139 [Go.SL.wV v, .int .i64 (n : Int)].toArray (J5 (yY v n)) := by
 obtain ⟨a, b, c, d, rfl⟩ : ∃ a b c d, v = [a, b, c, d] := by
  match v, hv.1 with
  | [a, b, c, d], _ => exact ⟨a, b, c, d, rfl⟩
 have hlen := Q2 [a, b, c, d] 32
 have hsu := fun i hi => Js9 (w := [a, b, c, d]) (i := i) hi
 have hll := fun k hk => yj [a, b, c, d] (n := k) hk
 have hl0 : yY [a, b, c, d] 0 = [] := rfl
 have hfx := Vp hv
 refine Jl Tryz.func139 O O fun w => JJ ?_
 generalize hB : Yw [a, b, c, d] 32 = B at hlen hsu hfx
 generalize yY [a, b, c, d] = F at hsu hll hl0
 refine kE ?_; refine LN O fun r1 => kL ?_; refine LR O (Jz (vs := [_, _, _, _]) O (kn 0 O) O O O O) (Jn O O O wv hfx (JN 15 O (Jw (σ := Nat × List Value × QC) (fun q => q.1 ≤ n ∧ q.2.1 = (F q.1).map bV ∧ rowOk 1 q.1 q.2.1 q.2.2) (fun q => [(1, .int .i64 (n : Int)), (5, J5 B), (6, J9 q.1 q.2.2), (7, .int .i64 (q.1 : Int))]) (fun q => (r1, .cells #[uV a, uV b, uV c, uV d] 27 (0, 0)) :: JE 5 q.2.1 q.2.2) (fun _ _ _ => True) (fun q => n - q.1) (0, [], none) ⟨Nat.zero_le _, by rw [hl0]; rfl, rfl, rfl⟩ (lK rfl) (List.Sublist.refl _) (fun _ _ h => h) ?_))); rintro ⟨i, xs, row⟩ ⟨hi, hxs, hrow⟩; simp only at hi hxs hrow; change HC _ _ [(1, _), (5, _), (6, J9 i row), (7, .int .i64 (i : Int))] ((r1, _) :: JE _ xs row) _ _ _; refine JC 8 O (cD (fun g => ?_) fun g => ?_)
 ·refine Jt 9 O ?_; refine Jq (show _ = Value.int .i64 ((31 - i : Nat) : Int) from by rw [wrap_i64 m5 m5]; congr 1 <;> omega) ?_; refine LR O (Y5 (j := 31 - i) (n := ((B.getD (31 - i) 0).toNat : Int)) O O O O m5 O) ?_; refine Jq (show _ = bV (B.getD (31 - i) 0) from rfl) ?_; refine He fun r2 => ?_; refine JA (L0 := [_, _]) (xs := xs) (row := row) (n := i) (sz := 1) (b := 1) (news := [_]) (List.perm_append_comm (l₁ := [_, _])) O O O O (kn 0 O) O O O O O m7 O O O m7 hrow m5 m5 fun ra cap sp hra => ?_; refine D8 ?_; refine KU [2, 0] (L' := [_, _]) m7 O ?_; exact Jo (i + 1, xs ++ [bV (B.getD (31 - i) 0)], some (ra, cap, sp)) ⟨by simp only; omega, by simp only; rw [hsu i m5, hxs, List.map_append]; rfl, hra⟩ mh (lK rfl) (List.Sublist.refl _) (fun _ _ h => h)
 ·refine NO ?_
  obtain rfl : i = n := by omega
  refine kE ?_; refine LR O (Kw (b := F i) (row := row) (e := 5) (show _ = some (J9 (F i).length row) from by rw [hll i hn]; rfl) (by rw [hll i hn, ← hxs]; exact hrow) (fun p hp => .inl (by rw [hxs]; exact List.mem_cons_of_mem _ hp)) O O O) ?_; exact NU
theorem vK (hr : root.length ≤ 1000) {n : Nat} (hn : Wr n) : Pure Tryz.prog 140 [J5 root, uV n].toArray (J5 (Yj root n)) := by
 have hp := qx (s := Y2 n 8) Na
 have hk := Zn (s := root ++ jM (Y2 n 8)) mL
 change Pure _ _ _ (J5 (Yj root n)) at hk
 have hlow := Jgu (v := [n, 0, 0, 0]) (Jop hn) (n := 32) (Nat.le_refl _)
 rw [← J5s] at hlow
 generalize Yj root n = z at hk
 generalize jM (Y2 n 8) = q at hp hk hlow
 refine Jl Tryz.func140 O O fun w => kV ?_; refine kD ?_; refine Jn O O O Jf7 hlow (LR O (KB (a := root) (b := q) O O m5) (Jn O O O Jxt hk ?_)); exact NU
theorem Ja3 {W : Nat} {l : List BS} (hi : i < W) (hl : l.length ≤ W) : (vH W l).take (i + 1) = (vH W l).take i ++ [if i < l.length then l.getD i [] else z32] := by
 have hlen := zy hl
 rw [List.take_succ_eq_append_getElem m5]
 congr 2
 have h1 := List.getElem?_eq_getElem (l := vH W l) (i := i) m5
 have h2 : (vH W l)[i]? = some (if i < l.length then l.getD i [] else z32) := by
  unfold vH
  by_cases h : i < l.length
  ·rw [if_pos h, List.getElem?_append_left h, Ya h]
  ·rw [if_neg h, List.getElem?_append_right m5, List.getElem?_replicate, if_pos m5]
 rw [h1] at h2; exact Option.some.inj h2
theorem Wf (l : List BS) (s : BS) : V1 (l ++ [s]) = V1 l ++ [J5 s] := by unfold V1; rw [List.map_append]; rfl
set_option maxHeartbeats 1000000 in
theorem Zp {l : List BS} {p : Pl} (hl : l.length ≤ m) (hm2 : m ≤ 65536) (hs : Seg R l.length (V1 l) p) (h32 : ∀ s ∈ l, s.length = 32) :
  PureR Tryz.prog 142 [KA l.length p, .int .i64 (m : Int)].toArray (J5 (QY l m)) R := by
 have hlg : lg m ≤ 16 := J0q (by simpa using hm2)
 have hW16 : 2 ^ lg m ≤ 65536 := by have := Nat.pow_le_pow_right (n := 2) (i := lg m) (j := 16) m7 m5; simpa using this
 have hup := Jf2 m
 obtain ⟨res, hres⟩ : ∃ x, x = QY l m := ⟨_, rfl⟩
 rw [← hres]
 have hroot : qF (lg m) (vH (2 ^ lg m) l) = res := by rw [hres]; rfl
 have hpl : (vH (2 ^ lg m) l).length = 2 ^ lg m := zy m5
 have hpm := Jf3 (n := 2 ^ lg m) h32
 refine Jc Tryz.func142 O O fun w => HI ?_; refine Jw (σ := Nat) (fun k => k ≤ lg m) (fun k => [(0, KA l.length p), (1, .int .i64 (m : Int)), (5, .int .i64 ((2 ^ k : Nat) : Int))]) (fun _ => []) (fun _ _ _ => True) (fun k => lg m - k) 0 (Nat.zero_le _) (lK O) (List.Sublist.refl _) (fun _ _ h => h) ?_; intro k hk0; refine JC 8 O (cD (fun g => ?_) fun g => ?_)
 refine GU ?_
 have hk : k < lg m := Jde.1 m5
 have hk16 : 2 ^ k ≤ 65536 := by have := Nat.pow_le_pow_right (n := 2) (i := k) (j := 16) m7 m5; simpa using this
 refine Gy ?_; refine Jq mJ (H6 ?_); refine Jr ?_; exact Jo (k + 1) m5 m5 (lK O) (List.Sublist.refl _) (fun _ _ h => h)
 ·refine NO ?_
  have hkl : ¬ k < lg m := fun h => by have := Jde.2 h; omega
  obtain rfl : k = lg m := by omega
  obtain ⟨W, hW⟩ : ∃ W, W = 2 ^ lg m := ⟨_, rfl⟩
  rw [← hW] at hup hroot hpl hpm hW16 ⊢; refine JC 11 O (Jw (σ := Nat × List Value × QC) (fun q => q.1 ≤ W ∧ q.2.1 = V1 ((vH W l).take q.1) ∧ rowOk 1 q.1 q.2.1 q.2.2) (fun q => [(0, KA l.length p), (5, .int .i64 (W : Int)), (6, J9 q.1 q.2.2), (7, .int .i64 (q.1 : Int))]) (fun q => JE 9 q.2.1 q.2.2) (fun _ _ _ => True) (fun q => W - q.1) (0, [], none) ⟨Nat.zero_le _, rfl, rfl, rfl⟩ (lK O) (List.Sublist.refl _) (fun _ _ h => h) ?_); rintro ⟨i, xs, row⟩ ⟨hi, hxs, hrow⟩; simp only at hi hxs hrow; change HC _ _ [(0, _), (5, _), (6, J9 i row), (7, .int .i64 (i : Int))] (JE _ xs row) _ _ _; refine JC 8 O (cD (fun g => ?_) fun g => ?_)
  refine Jt 8 O (ND ?_); refine ki ?_; refine cD (fun g => ?_) fun g => ?_
  refine gZ ?_
  refine kT ?_; refine LR O (Qz oR O hs m5 O (Zo (Ya (i := i) m5))) (kj fun r1 => ?_); refine JA (L0 := [_]) (xs := xs) (row := row) (n := i) (sz := 1) (b := 16) (news := [_]) (List.perm_append_comm (l₁ := [_])) O O O O (kn 0 O) O O O O O m7 O O O m7 hrow m5 m5 fun ra cap sp hra => D8 ?_
  (refine KU [0] (L' := [_]) m7 O ?_
   exact Jo (i + 1, xs ++ [J5 (l.getD i [])], some (ra, cap, sp)) ⟨by simp only; omega, by simp only; rw [Ja3 m5 m5, if_pos m5, Wf, hxs], hra⟩ mh (lK rfl) (List.Sublist.refl _) (fun _ _ h => h))
  refine kE ?_; refine V2 (n := 32) (b := 1) O O O O O O O O O m7 m7 fun rm => LR O (Kw (b := z32) (row := some (rm, 32, [])) (e := 5) O ⟨rfl, rfl⟩ (fun p hp => .inl mz) O O O) (He fun r2 => ?_); refine JA (L0 := [_, _]) (xs := xs) (row := row) (n := i) (sz := 1) (b := 16) (news := [_]) (List.perm_append_comm (l₁ := [_, _])) O O O O (kn 0 O) O O O O O m7 O O O m7 hrow m5 m5 fun ra cap sp hra => D8 ?_
  (refine KU [0] (L' := [_]) m7 O ?_
   exact Jo (i + 1, xs ++ [J5 z32], some (ra, cap, sp)) ⟨by simp only; omega, by simp only; rw [Ja3 m5 m5, if_neg m5, Wf, hxs], hra⟩ mh (lK rfl) (List.Sublist.refl _) (fun _ _ h => h))
  ·refine Dk ?_
   obtain rfl : i = W := by omega
   rw [List.take_of_length_le m5] at hxs; subst hxs; refine Jw (σ := Nat × List BS × QC) (fun q => q.2.1.length = 2 ^ q.1 ∧ q.1 ≤ 16 ∧ qF q.1 q.2.1 = res ∧ rowOk 1 q.2.1.length (V1 q.2.1) q.2.2 ∧ ∀ x ∈ q.2.1, x.length = 32) (fun q => [(6, J9 q.2.1.length q.2.2)]) (fun q => JE 9 (V1 q.2.1) q.2.2) (fun _ _ _ => True) (fun q => q.1) (lg m, vH i l, row) ⟨hpl.trans hW, hlg, hroot, by simp only; rw [hpl]; exact hrow, hpm⟩ (.cons (by simp only; rw [hpl]; rfl) .nil) (List.Sublist.refl _) (fun _ _ h => h) ?_; rintro ⟨k, ls, row⟩ ⟨hlen, hk16, heq, hok, hmem⟩; simp only at hlen hk16 heq hok hmem; change HC _ _ [(6, J9 ls.length row)] (JE _ (V1 ls) row) _ _ _
   have hp16 : 2 ^ k ≤ 65536 := by have := Nat.pow_le_pow_right (n := 2) (i := k) (j := 16) m7 hk16; simpa using this
   refine gZ ?_; refine LR O (VW O hok.zero O) (ki ?_); refine cD (fun g => ?_) fun g => ?_
   ·refine FR ?_
    obtain ⟨K, rfl⟩ : ∃ K, k = K + 1 := by
     cases k with
     | zero => simp at hlen; omega
     | succ K => exact ⟨K, rfl⟩
    rw [qF] at heq; rw [Nat.pow_succ] at hlen; refine JC 11 O (Jw (σ := Nat × List Value × QC) (fun q => 2 * q.1 ≤ ls.length ∧ q.2.1 = V1 ((SL.pairUp ls).take q.1) ∧ rowOk 1 q.1 q.2.1 q.2.2) (fun q => [(6, J9 ls.length row), (8, J9 q.1 q.2.2), (9, .int .i64 ((2 * q.1 : Nat) : Int))]) (fun q => JE 9 (V1 ls) row ++ JE 9 q.2.1 q.2.2) (fun _ _ _ => True) (fun q => ls.length - 2 * q.1) (0, [], none) ⟨Nat.zero_le _, rfl, rfl, rfl⟩ (lK O) (by rw [show JE 9 [] none = [] from rfl, List.append_nil]; exact List.Sublist.refl _) (fun _ _ h => h) ?_); rintro ⟨i, xs, row3⟩ ⟨h2i, hxs, hr3⟩; simp only at h2i hxs hr3; change HC _ _ [(6, J9 ls.length row), (8, J9 i row3), (9, .int .i64 ((2 * i : Nat) : Int))] (JE _ (V1 ls) row ++ JE _ xs row3) _ _ _; refine gn ?_; refine LR O (VW O hok.zero O) (ki ?_); refine cD (fun g => ?_) fun g => ?_
    ·refine FR ?_
     have hg1 := YE hmem (i := 2 * i) m5
     have hg2 := YE hmem (i := 2 * i + 1) m5
     have hkc := Zn (s := ls.getD (2 * i) [] ++ ls.getD (2 * i + 1) []) mL
     obtain ⟨sv, hsv⟩ : ∃ x, x = WN (ls.getD (2 * i) [] ++ ls.getD (2 * i + 1) []) := ⟨_, rfl⟩
     rw [← hsv] at hkc
     refine ZM [] [(0, .pure), (1, .pure), (2, .pure), (3, .pure), (5, .pure), (6, .pure), (7, .pure), (8, .pure), (10, .pure), (11, .pure), (12, .act (yQ (slV 1) (.cells #[J5 sv] 9 (0, 0))))] 13 m6 m6 m8 (Du ?_); refine Du ?_; refine Du ?_; refine WU O O O O (fun _ hS => (Jk (p := KY row) (j := 2 * i) nI (JQ (e := 9) hok m7) O O O O m5)) (Jnz O O O O (Qz (p := KY row) (fun q hq => Or.inl (List.mem_append_left _ hq)) O (JQ (e := 9) hok m7) m5 O (Zo (Ya (i := 2 * i) m5))) (Du ?_)); refine Du ?_
     refine WU O O O O (fun _ hS => (J2 O O O)) (J3e mO (WU O O O O (fun _ hS => (Jk (p := KY row) (j := 2 * i + 1) nI (JQ (e := 9) hok m7) O O O O m5)) (Jnz O O O O (Qz (p := KY row) (fun q hq => Or.inl (List.mem_append_left _ hq)) O (JQ (e := 9) hok m7) m5 O (Zo (Ya (i := 2 * i + 1) m5))) (WU O O O O (fun _ hS => (KB (a := ls.getD (2 * i) []) (b := ls.getD (2 * i + 1) []) O O m5)) (yP O O O O Jxt hkc (VX (n := 1) (sz := 1) (vs := [_]) (zs := [_]) (r := [J5 sv]) O O O O O O O O O O mg O (fun _ h => nomatch h) fun rv => ?_)))))); refine yO (JA (L0 := _ :: JE 9 (V1 ls) row) (xs := xs) (row := row3) (n := i) (sz := 1) (b := 16) (news := [J5 sv]) (by rw [← List.cons_append]; exact List.perm_append_comm) O O O O (kn 0 O) O O O O O m7 O O O m7 hr3 m5 m5 fun ra cap sp hra => gY ?_); refine Jq nA (Dn ?_)
     refine wW (L' := _ :: (JE 9 (V1 ls) row ++ JE 9 (xs ++ [J5 sv]) (some (ra, cap, sp)))) (by
      refine (List.Perm.swap _ _ _).trans (List.Perm.cons _ ?_)
      exact (List.perm_append_comm (l₁ := [_]))) ?_
     exact Jo (i + 1, xs ++ [J5 sv], some (ra, cap, sp)) ⟨by simp only; omega, by simp only; rw [vJ ls m5, ← hsv, Wf, hxs], hra⟩ mh (lK rfl) (.cons _ (List.Sublist.refl _)) (fun _ _ h => h)
    refine gk ?_
    have hi2 : 2 * i = ls.length := by omega
    have hpl2 := Wl ls
    rw [List.take_of_length_le m5] at hxs
    obtain rfl : i = (SL.pairUp ls).length := by omega
    subst hxs; refine Kk 5 O (Jr (qI (L' := JE 9 (V1 (SL.pairUp ls)) row3) (List.sublist_append_right _ _) ?_)); exact Jo (K, SL.pairUp ls, row3) ⟨by simp only; omega, by simp only; omega, heq, hr3, Zl ls⟩ mh (.cons rfl .nil) (List.Sublist.refl _) (fun _ _ h => h)
   ·refine NO ?_
    obtain rfl : k = 0 := by
     cases k with
     | zero => rfl
     | succ K => have := Nat.two_pow_pos K; rw [Nat.pow_succ] at hlen; omega
    obtain ⟨s0, hls1⟩ : ∃ s0, ls = [s0] := by
     match ls, hlen with
     | [a], _ => exact ⟨a, rfl⟩
     | [], h => simp at h
     | _ :: _ :: _, h => simp at h
    have hlen1 : ls.length = 1 := by rw [hls1]; rfl
    refine kE ?_; refine LR O (Jk (p := KY row) (j := 0) nI (JQ (e := 9) hok m7) O O O O m5) (LR O (Qz (p := KY row) (fun q hq => Or.inl hq) O (JQ (e := 9) hok m7) m5 O (Zo (show ls[0]? = some s0 from by rw [hls1]; rfl))) (DE fun w1 hs1 => ?_)); rw [← heq, hls1]; rfl
theorem Xt (h : i < Y.length) : (Y.map bV)[i]? = some (bV (Y.getD i 0)) := by
 rw [List.getElem?_map, List.getD_eq_getElem?_getD, List.getElem?_eq_getElem h]; rfl
def Zq (xs : BS) : Nat → BS
 | 0 => xs
 | i + 1 => ((Zq xs i).set i ((Zq xs i).getD (xs.length - 1 - i) 0)).set (xs.length - 1 - i) ((Zq xs i).getD i 0)
theorem YF (xs : BS) : ∀ i, (Zq xs i).length = xs.length
 | 0 => rfl
 | i + 1 => by rw [Zq, List.length_set, List.length_set, YF xs i]
theorem getD_set {b : UInt8} (hi : i < Y.length) : (Y.set i b).getD j 0 = if i = j then b else Y.getD j 0 := by
 rw [List.getD_eq_getElem?_getD, List.getElem?_set, List.getD_eq_getElem?_getD]
 split
 ·first | rfl | (rw [if_pos hi]; rfl) | simp [hi]
 ·rfl
theorem qO (xs : BS) : ∀ {i j : Nat}, 2 * i ≤ xs.length → j < xs.length → (Zq xs i).getD j 0 = if j < i ∨ xs.length - 1 - j < i then xs.getD (xs.length - 1 - j) 0 else xs.getD j 0
 | 0, j, _, hj => by rw [Zq, if_neg m5]
 | i + 1, j, hi, hj => by
  have h1 := YF xs i
  have ga := qO xs (i := i) (j := xs.length - 1 - i) m5 m5
  have gb := qO xs (i := i) (j := i) m5 m5
  have gj := qO xs (i := i) (j := j) m5 hj
  rw [if_neg m5] at ga gb; rw [Zq, getD_set (by rw [List.length_set, h1]; omega), getD_set (by rw [h1]; omega), ga, gb, gj]
  by_cases e1 : xs.length - 1 - i = j
  ·rw [if_pos e1, if_pos m5]
   congr 1; omega
  ·rw [if_neg e1]
   by_cases e2 : i = j
   ·rw [if_pos e2, if_pos m5]
    congr 1; omega
   ·rw [if_neg e2]
    by_cases e3 : j < i ∨ xs.length - 1 - j < i
    ·rw [if_pos e3, if_pos m5]
    ·rw [if_neg e3, if_neg m5]
theorem Jgv {xs : BS} (h1 : 2 * i ≤ xs.length) (h2 : xs.length ≤ 2 * i + 1) : Zq xs i = xs.reverse := by
 apply List.ext_getElem?
 intro j
 by_cases hj : j < xs.length
 ·have e1 : (Zq xs i)[j]? = some ((Zq xs i).getD j 0) := by rw [List.getD_eq_getElem?_getD, List.getElem?_eq_getElem (by rw [YF]; exact hj)]; rfl
  rw [e1, qO xs h1 hj, List.getElem?_reverse hj]
  have e2 : xs[xs.length - 1 - j]? = some (xs.getD (xs.length - 1 - j) 0) := by rw [List.getD_eq_getElem?_getD, List.getElem?_eq_getElem m5]; rfl
  rw [e2]
  by_cases e3 : j < i ∨ xs.length - 1 - j < i
  ·rw [if_pos e3]
  ·rw [if_neg e3, show xs.length - 1 - j = j by omega]
 ·rw [List.getElem?_eq_none (by rw [YF]; omega), List.getElem?_eq_none (by rw [List.length_reverse]; omega)]
theorem YH {b : UInt8} (h : i < Y.length) : (Y.map bV ++ sp).toArray.setIfInBounds i (bV b) = ((Y.set i b).map bV ++ sp).toArray := by
 rw [List.setIfInBounds_toArray, List.set_append_left _ _ M6, List.map_set]
section
variable {c : Cx} {l : KQ} {L E : Jx} {X : XP} {Q : Exit → Act → World → Prop} {d : List Deferred}
variable {ops : Array Oper} {rest : List Nat} {i k : Nat} {v : Value} {o : Oper} {tb : jX} {S : Jx} {T : Jx → Act → Prop}
theorem jw {t : TypeId} {q r : Nat} {cs cs' : Array Value} {e : TypeId} (hko : X7 ops.toList k = some ⟨none, .store t x y, ty, ps, af, gd⟩) (hg : Kz l ops ⟨none, .store t x y, ty, ps, af, gd⟩ = some true) (hA : tb k = .turn)
  (hx : Kx l x = some (.pointer (some ⟨r, off, none⟩))) (hk : E[q]? = some (r, .cells cs e fr)) (hy : Kx l y = some v) (ht : Qg c.P t = some 1) (ho : QE v = true) (hfr : frB fr off = false) (hc : (cs[off]?).isSome = true)
  (hcs : cs.setIfInBounds off v = cs') (hL : E.set q (r, .cells cs' e fr) = E') (hS : SubS S E')
  (h : HB c d l E' X S ops tb rest T) : HB c d l E X S ops tb (k :: rest) T :=
 qw hko hg rfl hA (fun a w hf hs => ⟨w.setCell ⟨r, off, none⟩ v, by
  simp only [execOp]; rw [hf.eval hx, hf.eval hy]
  obtain ⟨old, hold⟩ := Option.isSome_iff_exists.1 hc
  have h1 := run_store c.P w ⟨r, off, none⟩ v .plain (by rw [X8]; exact ho)
  rw [VI (hs.get hk), hold, Y3 (hs.get hk) hfr] at h1
  have hcell : v.cells = #[v] := by cases v <;> first | rfl | cases ho
  simp [Instr.storeAt, Instr.sureAddr, Sem.run_bind, Result.andThen, storeVar, Vy ht, hcell, storeCells, Addr.add, h1], by
  subst hL; subst hcs
  exact hs.set hk (Keep.setCell r off v) (Go.SL.heap_setCell_same v (hs.get hk))⟩) hS h
end
section
variable {c : Cx} {l : KQ} {L : Jx} {X : XP} {d : List Deferred} {i : Nat} {ps : String} {af : Array Edge} {gd : Option (Nat × Bool)} {ty : TypeId}
theorem wz {b : List UInt8} {r n : Nat} {cs : Array Value} {e src dst : TypeId} (hx : Kx l x = some (.slice (some ⟨r, 0, none⟩) n cap)) (hk : known c L r (.cells cs e fr)) (hn : n = b.length) (ht : cs.toList.take b.length = b.map bV)
  (hs : KH c.P src = some e) (he : c.P.underlying e = some (.int .u8)) (hd : yJ c.P dst = true) :
  JM c d l L X ⟨some i, .convert src dst x, ty, ps, af, gd⟩ (.string (bs b)) := fun a' w hf hst => by
 subst hn; simp only [execOp]; rw [hf.eval hx]
 have hget := hst.known hk
 have hl := wh (P := c.P) (xs := b.map bV) hget (by rw [List.length_map]; exact ht)
 rw [List.length_map] at hl; simp only [Sem.run_bind]; rw [run_convert_bytes_string w src dst e _ _ _ (Ky hs) he (Vr hd)]; rw [run_bytesToString w _ _ _ (b.map fun x => ((x.toNat : Nat) : Int)) MD]
 have := jl b []
 rw [show (bs [] : ByteArray) = ByteArray.empty from rfl] at this; rw [this]
 rfl
end
theorem Joy {xs : BS} {r : Nat} (hfr : ∀ q, q < xs.length → frB fr q = false) (hc : xs.length ≤ cap) (hx : xs.length ≤ 9223372036854775807) : PureT (α := Unit) Tryz.prog 214 [.slice (some ⟨r, 0, none⟩) xs.length cap].toArray (fun _ => .tuple #[])
  [(r, .cells (xs.map bV ++ sp).toArray 5 fr)] (fun _ => [(r, .cells (xs.reverse.map bV ++ sp).toArray 5 fr)]) [] := by
 refine J4 Tryz.func214 O O fun w => JJ (Gy ?_); refine kF ?_; refine QN O (Jq (show _ = Value.int .i64 ((xs.length : Int) - 1) from congrArg (Value.int .i64) (wrap_i64 m5 m5)) (JN 5 rfl ?_)); refine Jw (σ := Nat) (fun i => 2 * i ≤ xs.length + 1 ∧ 2 * i ≤ xs.length) (fun i => [(0, .slice (some ⟨r, 0, none⟩) xs.length cap), (2, .int .i64 (i : Int)), (3, .int .i64 ((xs.length : Int) - 1 - (i : Int)))]) (fun i => [(r, .cells ((Zq xs i).map bV ++ sp).toArray 5 fr)]) (fun _ _ _ => True) (fun i => xs.length - i) 0 ⟨by omega, by omega⟩ (.cons rfl (.cons rfl (.cons MB .nil))) (List.Sublist.refl _) (fun _ _ h => h) ?_; rintro i ⟨hi1, hi2⟩; refine JC 8 O (cD (fun g => ?_) fun g => ?_)
 ·refine FR ?_
  have hii : i + 1 ≤ xs.length - i := by omega
  obtain ⟨Y, hY⟩ : ∃ Y, Y = Zq xs i := ⟨_, rfl⟩
  have hYl : Y.length = xs.length := by rw [hY]; exact YF xs i
  refine kw ?_; refine Jm (k := 6) O O O O O (fun _ _ => JO (j := (xs.length - 1 - i)) (m := 1) (off' := (xs.length - 1 - i)) O O O O m5 m5 m5) ?_; refine JY (k := 7) O O O O O (Je O (kn 0 O) O (Ym (xs := Y.map bV) (v := bV (Y.getD (xs.length - 1 - i) 0)) (Xt m5))) ?_; refine kU ?_; refine jw (k := 13) (q := 0) (cs' := ((Y.set i (Y.getD (xs.length - 1 - i) 0)).map bV ++ sp).toArray) O O O O O O O O (hfr _ m5) nU (YH m5) O (fun _ h => nomatch h) ?_; refine Jm (k := 14) O O O O O (fun _ _ => JO (j := (xs.length - 1 - i)) (m := 1) (off' := (xs.length - 1 - i)) O O O O m5 m5 m5) ?_; refine jw (k := 15) (q := 0) (cs' := ((Zq xs (i + 1)).map bV ++ sp).toArray) O O O O O O O O (hfr _ m5) nU MQ O (fun _ h => nomatch h) ?_; refine Ka ?_; refine Gu ?_; refine Ew ?_; refine JH 2 O ?_; refine Jq (show _ = Value.int .i64 ((xs.length : Int) - 1 - ((i + 1 : Nat) : Int)) from by rw [wrap_i64 m5 m5]; congr 1 <;> omega) ?_; exact DM
 ·refine gs fun w1 hs1 => ?_; exact ⟨(), rfl, by rw [← Jgv (xs := xs) (i := i) m5 m5]; exact hs1⟩
theorem J34 (w : List Nat) : yY w 32 = (Yw w 32).reverse := by unfold yY; rw [List.take_of_length_le MX]
theorem Jgw (t : Ty) (hv : v.In R) : Pure Tryz.prog 159 [t.val, v.val].toArray (J5 (yY v.num 32)) := by
 obtain ⟨k, n, p, ins⟩ := t
 cases hv with
 | @mk a b c d bits pb items pi pick ha hb hc hd hlb hsb hl hs hp hi =>
 have hw : WOk [a, b, c, d] := ⟨rfl, fun x hx => by simp at hx; rcases hx with rfl | rfl | rfl | rfl <;> assumption⟩
 show Pure _ _ _ (J5 (yY [a, b, c, d] 32))
 rw [J34]
 have hfx := Vs hw
 have hlen := Q2 [a, b, c, d] 32
 generalize Yw [a, b, c, d] 32 = B at hfx hlen
 refine Jl Tryz.func159 O O fun w => NB fun r1 r2 => ?_; refine FK ?_; refine Jn O O O Jf6 hfx (Yo O O O O O O fun rb kb => Gu ?_); refine QK (T := [(rb, .cells (B.map bV ++ List.replicate kb (Value.int .u8 0)).toArray 5 (B.length + kb, B.length + kb + 1))]) (L0 := [(r2, _), (r1, _)]) (Rl := []) (List.Perm.refl _) O O O (enters_of Tryz.func214 m6 O) (Joy (fun q hq => by simp [frB, Nat.blt, Nat.ble]; omega) m5 m5) oN fun u => ?_; change HL _ _ _ ((rb, _) :: (r2, _) :: (r1, _) :: []) _ _ _ _; refine kL ?_; refine LR O (wz (b := B.reverse) O (kn 0 O) (by rw [List.length_reverse]) Mb rfl rfl rfl) ?_; exact NU
def rootM : Array MapEntry := #[⟨.int .i64 1, .func (.func 159) #[] #[], 0⟩, ⟨.int .i64 2, .func (.func 159) #[] #[], 1⟩, ⟨.int .i64 3, .func (.func 160) #[] #[], 2⟩, ⟨.int .i64 4, .func (.func 162) #[] #[], 3⟩,
 ⟨.int .i64 5, .func (.func 164) #[] #[], 4⟩, ⟨.int .i64 6, .func (.func 166) #[] #[], 5⟩, ⟨.int .i64 7, .func (.func 167) #[] #[], 6⟩, ⟨.int .i64 8, .func (.func 170) #[] #[], 7⟩]
theorem Joz : ∀ e ∈ rootM.toList, isI e.key := by
 intro e he
 unfold rootM at he
 simp at he
 rcases he with rfl | rfl | rfl | rfl | rfl | rfl | rfl | rfl <;> exact ⟨_, rfl⟩
theorem YI {a b : Bool} (h : a = b) : Value.bool a = Value.bool b := by rw [h]
abbrev pB (own : Bool) (r : Nat) : Value := .pointer (if own then some ⟨r, 0, none⟩ else none)
def xU (r : Nat) (s : BS) (row : QC) (own : Bool) : Nat × Obj := (r, .cells #[pB own r, J9 s.length row] 243 (0, 0))
def X5 (r : Nat) (s : BS) (row : QC) (own : Bool) : Jx := xU r s row own :: JE 5 (s.map bV) row
def bOk (s : BS) (row : QC) : Prop := rowOk 1 s.length (s.map bV) row ∧ (s = [] → row = none)
theorem Jgx (r : Nat) (own : Bool) (v : Value) : PureT (α := Unit) Tryz.prog 303 [Wn r].toArray (fun _ => .tuple #[]) [(r, .cells #[pB own r, v] 243 (0, 0))] (fun _ => [(r, .cells #[pB true r, v] 243 (0, 0))]) [] := by
 cases own with
 | false =>
  refine J4 Tryz.func303 O O fun w => JJ (gn ?_); refine LR O (Je (v := .pointer none) O (kn 0 O) O O) (LR O (Jrw O O O O) (H9 ?_)); refine cD (fun g => ?_) fun g => ?_
  refine Gy ?_; refine LR O (Ji0 (sz := 2) O (kn 0 O) O O O m7 ml) (LR O (Ji1 O O (Tryz.func345) m6 O O O) (LR O (Jc3 O (kn 0 O) O O O m6) (JH 2 O (Ko (k := 0) (cs' := #[Wn r, v]) O O O O O O O O O O (J1 1 O ?_))))); exact FP
  try exact Bool.noConfusion g
 | true =>
  refine J4 Tryz.func303 O O fun w => JJ (gn ?_); refine LR O (Je (v := Wn r) O (kn 0 O) O O) (LR O (Jrx O O O O) (H9 ?_)); refine J7 O (fun g => ?_) (fun g => ?_)
  try exact Bool.noConfusion g
  ·refine gn ?_; refine LR O (Je (v := Wn r) O (kn 0 O) O O) (Q1 O (LR O (Jrv O O O O) (JN 2 O ?_))); refine J7 O (fun g => ?_) (fun g => ?_)
   try exact Bool.noConfusion g
   ·try simp only [ZZ] at g
    refine Kk 1 O ?_; exact FP
theorem Jdf (r : Nat) (s : BS) (row : QC) (own : Bool) : PureT (α := Unit) Tryz.prog 303 [Wn r].toArray (fun _ => .tuple #[]) [xU r s row own] (fun _ => [xU r s row true]) [] := Jgx r own _
theorem yv {r : Nat} {s s2 : BS} (hb : bOk s row) (hl : s.length + s2.length ≤ 1000000) :
  PureT (α := { x : QC // bOk (s ++ s2) x }) Tryz.prog 217 [Wn r, J5 s2].toArray (fun _ => .tuple #[.int .i64 (s2.length : Int), .nilIface]) (X5 r s row own) (fun x => X5 r (s ++ s2) x.1 true) [] := by
 refine J4 Tryz.func217 O O fun w => JJ ?_
 unfold X5
 refine Jt 9 O (QK (T := [xU r s row own]) (L0 := JE 5 (s.map bV) row) (Rl := []) (List.Perm.refl _) O O O (enters_of Tryz.func303 m6 O) (Jdf r s row own) oN fun u => ?_); change HL _ _ _ (xU r s row true :: JE 5 (s.map bV) row) _ _ _ _; refine JH 8 O (LR O (Je (v := J9 s.length row) O (kn 0 O) O O) (Q1 O (Jiz (e := 5) (s := s) (s2 := s2) (row := row) (L0 := [xU r s row true]) (List.perm_append_comm (l₁ := [_])) O O O O O O O O O hb.1 hb.2 m5 fun row2 h1 h2 => (Kv List.perm_append_comm ?_)))); change HL _ _ _ ((r, .cells #[pB true r, J9 s.length row] 243 (0, 0)) :: JE 5 ((s ++ s2).map bV) row2) _ _ _ _; refine JH 2 O (Ko (k := 0) (cs' := #[pB true r, J9 (s ++ s2).length row2]) O O O O O (Jox _ _) O O O O (kL ?_)); refine gt ?_; refine gy ?_; refine Nl fun w1 hs1 => ?_; exact ⟨⟨row2, h1, h2⟩, rfl, hs1⟩
theorem J18 (r : Nat) {s : BS} (own : Bool) (hb : bOk s row) : PureR Tryz.prog 246 [Wn r].toArray (.int .i64 (s.length : Int)) [xU r s row own] := by
 refine Jc Tryz.func246 O O fun w => JJ (Jt 10 O (LR O (Je (v := J9 s.length row) O (JF (k := 0) O) O O) (LR O (VW O hb.1.zero O) ?_))); exact NU
theorem Jjl {r : Nat} {s : BS} (hb : bOk s row) (hl : s.length ≤ 1000000) :
  PureT (α := Unit) Tryz.prog 219 [Wn r].toArray (fun _ => J5 s) (X5 r s row own) (fun _ => []) [] := by
 have hcap : ∀ q cap sp, row = some (q, cap, sp) → cap ≠ 0 := by
  rintro q cap sp rfl h0
  obtain ⟨⟨h1, h2⟩, h3⟩ := hb
  have h4 : s.length = 0 := by omega
  have := h3 (List.eq_nil_of_length_eq_zero h4)
  cases this
 refine J4 Tryz.func219 O O fun w => JJ ?_
 unfold X5
 refine NO ?_
 refine JI [] [(0, .pure), (1, .pure), (2, .pure), (4, .pure), (5, .pure), (6, .pure), (7, .pure), (9, .pure)] 10 [0, 1, 2, 3, 4, 5, 6, 7, 8, 9] m6 m6 m8 (Hk ?_); refine DP ?_; refine JY (k := 3) O O O O O (Je (v := J9 s.length row) O (kn 0 O) O O) (Jm (k := 4) O O O O O (fun _ _ => Jc2 O hcap) (Jm (k := 5) O O O O O (fun _ hS => (Jg O)) (Jm (k := 6) O O O O O (fun _ hS => (J2 O O O)) ?_)))
 refine HU ?_; refine JY (k := 8) O O O O O (Je (v := J9 s.length row) O (kn 0 O) O O) (Jm (k := 9) O O O O O (fun _ _ => VW O hb.1.zero O) (Ka (wJ (e := 5) (s := s) (row := row) (L0 := [xU r s row own]) (List.perm_append_comm (l₁ := [_])) O O O O O O hb.1 hb.2 m5 (gM ?_)))); refine NW fun w1 hs1 => ?_; exact ⟨(), rfl, hs1.weakL (List.nil_sublist _)⟩
theorem qP (x : Ty) : xR x = if VD x then KX x else 4 := rfl
theorem Jl4 (ht : t.In R) : PureR Tryz.prog 367 [t.val].toArray (.tuple #[.int .i64 (xR t), .bool (VD t)]) R := by
 have h1 := Jl0 ht
 have h2 := Jsp ht
 unfold ZA at h2
 rw [qP]
 generalize VD t = b at h1 h2 ⊢
 generalize KX t = z at h2 ⊢
 obtain ⟨k, n, p, ins⟩ := t
 refine Jc Tryz.func367 O O fun w => Nj fun r1 => ?_; refine gY ?_; refine Ns ?_; refine Ji O O O (enters_of Tryz.func304 m6 O) h1 oR (H9 ?_); refine cD (fun g => ?_) fun g => ?_
 refine kE ?_; refine Ns ?_; refine Ji O O O (enters_of Tryz.func221 m6 O) h2 oR (J1 6 O (NA fun w1 hs1 => ?_))
 simp_all [JB]
 ·refine D4 fun w1 hs1 => ?_
  simp_all [JB]
theorem J35 {k n : Int} {p : Pl} {ins : List Ty} {pick : Int} (ht : Ty.In R (.mk k n p ins)) (hp8 : k = 8 → 0 ≤ pick) (hx : W1 k pick i < ins.length) : PureR Tryz.prog 380 [Ty.val (.mk k n p ins), .int .i64 pick, .int .i64 (i : Int)].toArray (JT k pick ins i).val R := by
 have hty := Qi hx
 cases ht with
 | @mk k n p ins hk hn hlt hst hit =>
 obtain ⟨X, hX⟩ : ∃ X, X = JT k pick ins i := ⟨_, rfl⟩
 rw [← hX] at hty ⊢; refine Jc Tryz.func380 O O fun w => NB fun r1 r2 => ?_; refine Goc 16 [1] O O (cD (fun g => ?_) fun g => ?_)
 refine Qy 5 [1] O O (LR O (Jk (j := W1 k pick i) O hst O O O (by unfold W1; rw [if_pos m9]) hx) ?_); exact G4
 ·refine NO ?_; refine cD (fun g => ?_) fun g => ?_
  refine Qy 5 [1] O O (LR O (Jk (j := W1 k pick i) O hst O O O (by unfold W1; rw [if_neg m9, if_pos m9]; have := hp8 m9; omega) hx) ?_); exact G4
  ·refine Qy 7 [1] O O (LR O (Jk (j := W1 k pick i) O hst O O O (by unfold W1; rw [if_neg m9, if_neg m9]; rfl) hx) (LR rfl (KC oR rfl hst hty.1 rfl rfl) (Jj (k := 0) (n := 3) (ys := X.cells) rfl rfl rfl rfl rfl X.len rfl X.one rfl (H6 ?_)))); refine Jf O O (.cons (Js (vs := X.cells) O (kn 0 O) O (by rw [X.len]; rfl)) .nil) (fun w1 hs1 => ?_); exact No
def Wg (k : Int) (ins : List Ty) (m : Nat) : List Ty := (List.range m).map fun i => JT k 0 ins i
theorem Jgy : ∀ a b : List Ty, Vc (a ++ b) = Vc a + Vc b
 | [], b => by rw [List.nil_append, Vc, Int.zero_add]
 | x :: xs, b => by rw [List.cons_append, Vc, Vc, Jgy xs b, Int.add_assoc]
theorem vL (k : Int) (ins : List Ty) (i : Nat) : Vc (Wg k ins (i + 1)) = Vc (Wg k ins i) + xR (JT k 0 ins i) := by
 unfold Wg
 rw [List.range_succ, List.map_append, Jgy, List.map_cons, List.map_nil, Vc, Vc, Int.add_zero]
theorem Jdg (x : Ty) : 1 ≤ xR x ∧ xR x ≤ 2251799813685248 := by
 unfold xR
 split
 ·rename_i h
  obtain ⟨h1, h2⟩ := WY.1 h
  have h3 := vv x 0 (Int.le_refl _) h1 h2
  have h4 := Jcj (show (5 - (0 : Int)).toNat ≤ 5 by decide)
  omega
 ·omega
theorem qQ : ∀ l : List Ty, 0 ≤ Vc l ∧ Vc l ≤ 2251799813685248 * l.length
 | [] => by rw [Vc]; simp
 | x :: xs => by
  have h1 := Jdg x
  have h2 := qQ xs
  rw [Vc, List.length_cons]; omega
theorem qR (k : Int) (ins : List Ty) (m : Nat) : (Wg k ins m).length = m := by unfold Wg; rw [List.length_map, List.length_range]
def wM (r : Nat) (m : Int) : Nat × Obj := (r, .cells #[.int .i64 m] 3 (0, 0))
theorem Jl5 (t : Ty) (m : Int) : PureE (α := Nat × Nat) Tryz.prog 366 [t.val, .int .i64 m].toArray (fun p => .func (.func 379) #[] #[Wn p.2, Wn p.1]) (fun p => [wM p.2 m, WG p.1 t]) := by
 obtain ⟨k, n, p, ins⟩ := t
 refine Kq Tryz.func366 O O fun w => NB fun r1 r2 => ?_; refine kL ?_; refine kJ ?_; exact gu
def itV (k : Int) (ins : List Ty) (i : Nat) : List Value := [.int .i64 (i : Int), (JT k 0 ins i).val]
theorem Jl6 {k n : Int} {p : Pl} {ins : List Ty} (ht : Ty.In R (.mk k n p ins)) (hm : m ≤ 1000000) (hx : ∀ i, i < m → W1 k 0 i < ins.length) (rt ri : Nat) :
    ql Tryz.prog 379 [Wn ri, Wn rt] (wM ri m :: WG rt (.mk k n p ins) :: R) 0 (nxN (itV k ins) m) (xO m) := by
  refine VA Tryz.func379 O O fun q xids w2 XI XF hY => NH ?_; refine LR O (Je (v := .int .i64 (m : Int)) O (JF (k := 0) O) O O) (Gb ?_); refine Jw (σ := Nat) (fun i => i ≤ m) (fun i => [(0, .func (.yield q) #[] #[]), (1, Wn ri), (2, Wn rt), (5, .int .i64 (m : Int)), (6, .int .i64 (i : Int))]) (fun _ => []) (fun i => XI i) (fun i => m - i) 0 (Nat.zero_le _) (lK O) (List.Sublist.refl _) (fun _ _ h => h) ?_; intro i hi; refine NO ?_; refine cD (fun g => ?_) fun g => ?_
  · refine JC 11 O ?_
    have hil : i < m := by omega
    refine Gy ?_; refine LR O (Jd (xs := Ty.cells (.mk k n p ins)) (n := 3) O (JF (k := 1) O) O O (Ty.len _)) (Q1 O (Ji O O O (enters_of Tryz.func380 m6 O) (J35 ht (fun _ => Int.le_refl 0) (hx i hil)) (fun q hq => Or.inr (List.mem_cons_of_mem _ (List.mem_cons_of_mem _ hq))) ?_)); refine VV (XT := XI (i + 1)) (XF := XF) O O O O (hY i (itV k ins i) (i + 1) ⟨hil, rfl, rfl⟩) ?_ ?_
    all_goals (
     refine D5 ?_; refine J7 O (fun g => ?_) (fun g => ?_)
     · try exact Bool.noConfusion g
       all_goals try simp only [ZZ] at g
       all_goals (
        exact Nr
        skip)
     · try exact Bool.noConfusion g
       all_goals try simp only [ZZ] at g
       all_goals (
        refine gn ?_; refine NX ?_; exact NE
        skip)
     skip)
  · refine gs fun w1 hs1 => ?_
    obtain ⟨xs1, hx1⟩ := hs1.now
    exact ⟨⟨_, rfl⟩, hs1.keep, .inl ⟨i, _, (by show i = m; omega), hx1⟩⟩
theorem Jta {k n : Int} {p : Pl} {ins : List Ty} (ht : Ty.In R (.mk k n p ins)) (hm : m ≤ 600) (hx : ∀ i, i < m → W1 k 0 i < ins.length) : PureR Tryz.prog 365 [Ty.val (.mk k n p ins), .int .i64 (m : Int)].toArray (.int .i64 (Vc (Wg k ins m))) R := by
 have hti := fun i h => ht.sub _ (Qi (hx i h)).2
 refine Jc Tryz.func365 O O fun w => Nj fun r1 => ?_; refine kL ?_; refine LN O fun r2 => ?_
 refine NQ ?_; refine XG 7 [1] O O (Kj O O O (enters_of Tryz.func366 m6 O) (Jl5 (.mk k n p ins) (m : Int)) fun pp => ?_)
 obtain ⟨ra, rb⟩ := pp
 change HL _ _ _ (wM rb m :: WG ra (.mk k n p ins) :: _) _ _ _ _; refine ki ?_; refine Vz [2, 0, 1, 3] (L' := [_, _, _, _]) m7 O ?_
 refine WS (τ := Unit) (fun i (s : Nat) => i ≤ m ∧ i = s) (fun s => [(r2, .cells #[.int .i64 (Vc (Wg k ins s))] 3 (0, 0))]) (fun _ _ => False) (fun _ => []) [wM rb m, WG ra (.mk k n p ins), _] 0 O O (enters_of Tryz.func379 m6 O) (Jl6 ht m5 hx ra rb) mE O (fun q hq => by rcases List.mem_cons.1 hq with rfl | hq; exact .inl ml; rcases List.mem_cons.1 hq with rfl | hq; exact .inl ml; exact .inr hq) O ⟨Nat.zero_le _, rfl⟩ ?_ ?_ ?_
 rintro q Xr Xb w3 i _ _ s ⟨hii, rfl, rfl⟩ ⟨him, rfl⟩ Kr hKr; refine inR ?_
 have hti1 := hti i hii
 have hb1 := Jdg (JT k 0 ins i)
 have hb2 := qQ (Wg k ins i)
 rw [qR] at hb2
 unfold itV
 refine HY ?_; refine LN O fun r3 => Jj (k := 0) (n := 3) (ys := (JT k 0 ins i).cells) O O O O O (JT k 0 ins i).len O (JT k 0 ins i).one O (gE ?_); clear hKr; refine Gy ?_; refine EO ?_; refine JH 8 O (LR O (Je (v := .int .i64 (Vc (Wg k ins i))) O (kn 1 O) O O) (ko ?_)); refine Jq (show _ = Value.int .i64 (Vc (Wg k ins (i + 1))) from by rw [vL]; exact congrArg (Value.int .i64) (wrap_i64 m5 m5)) (Ko (k := 1) (cs' := #[.int .i64 (Vc (Wg k ins (i + 1)))]) O O O O O O O O O O (J1 2 O (KU [1] (L' := [_]) m7 O (Qa (i + 1) ⟨by omega, rfl⟩ rfl))))
 rintro D i s hfi ⟨him, rfl⟩
 obtain rfl : m = i := Eq.symm hfi
 refine gqo 4 O (LR O (Je (v := .int .i64 (Vc (Wg k ins m))) O (kn 1 O) O O) (gM ?_)); refine HK ?_; exact Nz
 ·exact Gh
theorem Jtb {s : BS} (hl : s.length ≤ 1000000) : Pure Tryz.prog 340 [J5 s].toArray (J5 s.reverse) := by
 refine Jl Tryz.func340 O O fun w => Gi ?_; refine Yo O O O O O O fun rb kb => ?_
 obtain ⟨sp, hsp⟩ : ∃ sp, sp = List.replicate kb (Value.int .u8 0) := ⟨_, rfl⟩
 rw [← hsp]
 obtain ⟨fr, hfr⟩ : ∃ fr : Nat × Nat, fr = (s.length + kb, s.length + kb + 1) := ⟨_, rfl⟩
 rw [← hfr]
 have hfz : ∀ q, q < s.length → frB fr q = false := fun q hq => by rw [hfr]; simp [frB, Nat.blt, Nat.ble]; omega
 refine gY ?_; refine kF ?_; refine QN O (Jq (show _ = Value.int .i64 ((s.length : Int) - 1) from congrArg (Value.int .i64) (wrap_i64 m5 m5)) (JN 5 rfl ?_)); refine Jw (σ := Nat) (fun i => 2 * i ≤ s.length + 1 ∧ 2 * i ≤ s.length) (fun i => [(3, .slice (some ⟨rb, 0, none⟩) s.length (s.length + kb)), (4, .int .i64 (i : Int)), (5, .int .i64 ((s.length : Int) - 1 - (i : Int)))]) (fun i => [(rb, .cells ((Zq s i).map bV ++ sp).toArray 5 fr)]) (fun _ _ _ => True) (fun i => s.length - i) 0 ⟨by omega, by omega⟩ (.cons rfl (.cons rfl (.cons MB .nil))) (List.Sublist.refl _) (fun _ _ h => h) ?_; rintro i ⟨hi1, hi2⟩; refine JC 8 O (cD (fun g => ?_) fun g => ?_)
 ·refine FR ?_
  have hii : i + 1 ≤ s.length - i := by omega
  obtain ⟨Y, hY⟩ : ∃ Y, Y = Zq s i := ⟨_, rfl⟩
  have hYl : Y.length = s.length := by rw [hY]; exact YF s i
  refine kw ?_; refine Jm (k := 6) O O O O O (fun _ _ => JO (j := (s.length - 1 - i)) (m := 1) (off' := (s.length - 1 - i)) O O O O m5 m5 m5) ?_; refine JY (k := 7) O O O O O (Je O (kn 0 O) O (Ym (xs := Y.map bV) (v := bV (Y.getD (s.length - 1 - i) 0)) (Xt m5))) ?_; refine kU ?_; refine jw (k := 13) (q := 0) (cs' := ((Y.set i (Y.getD (s.length - 1 - i) 0)).map bV ++ sp).toArray) O O O O O O O O (hfz _ m5) nU (YH m5) O (fun _ h => nomatch h) ?_; refine Jm (k := 14) O O O O O (fun _ _ => JO (j := (s.length - 1 - i)) (m := 1) (off' := (s.length - 1 - i)) O O O O m5 m5 m5) ?_; refine jw (k := 15) (q := 0) (cs' := ((Zq s (i + 1)).map bV ++ sp).toArray) O O O O O O O O (hfz _ m5) nU MQ O (fun _ h => nomatch h) ?_; refine Ka ?_; refine Gu ?_; refine Ew ?_; refine JH 2 O ?_; refine Jq (show _ = Value.int .i64 ((s.length : Int) - 1 - ((i + 1 : Nat) : Int)) from by rw [wrap_i64 m5 m5]; congr 1 <;> omega) ?_; exact DM
 ·refine NO ?_; rw [Jgv (xs := s) (i := i) m5 m5]; refine kE ?_; refine LR O (wz (b := s.reverse) O (kn 0 O) (by rw [List.length_reverse]) Mb rfl rfl rfl) ?_; exact NU
theorem Ja4 {b : UInt8} : (Y.map bV).toArray.setIfInBounds i (bV b) = ((Y.set i b).map bV).toArray := by
 rw [List.setIfInBounds_toArray, List.map_set]
theorem Jl7 (x : UInt8) (hm : m < 8) : Value.int .u8 ((x.toNat ||| 2 ^ m : Nat) : Int) = bV (UInt8.ofNat (x.toNat ||| 2 ^ m)) := yN (J0j (Xl x) hm)
theorem Jdh (hm : m < 8) : IntKind.u8.wrap (1 * ((2 ^ m : Nat) : Int)) = ((2 ^ m : Nat) : Int) := by
 have h : 2 ^ m ≤ 128 := Nat.pow_le_pow_right (n := 2) (i := m) (j := 7) m7 m5
 generalize 2 ^ m = q at h ⊢
 rw [Int.one_mul]; exact YX m5 m5
theorem Jtc {l : List Bool} (hl : l.length ≤ 1000000) (eg : Enters Tryz.prog g) (hg : ∀ i, i < l.length → PureR Tryz.prog g (Value.int .i64 (i : Int) :: caps).toArray (.bool (l.getD i false)) R) :
  PureR Tryz.prog 341 [.int .i64 (l.length : Int), .func (.func g) #[] caps.toArray].toArray (J5 (WB l)) R := by
 obtain ⟨N, hN⟩ : ∃ N, N = (l.length + 7) / 8 := ⟨_, rfl⟩
 have hpB : WB l = KJ l N l.length := by rw [hN]; rfl
 refine Jc Tryz.func341 O O fun w => kV ?_; refine GS fun rm => ?_; refine JN 11 O (Jw (σ := Nat) (fun i => i ≤ l.length) (fun i => [(1, .func (.func g) #[] caps.toArray), (5, .slice (some ⟨rm, 0, none⟩) N N), (12, .int .i64 (l.length : Int)), (13, .int .i64 (i : Int))]) (fun i => [(rm, .cells ((KJ l N i).map bV).toArray 5 (0, 0))]) (fun _ _ _ => True) (fun i => l.length - i) 0 (Nat.zero_le _) (lK O) (List.Sublist.refl _) (fun _ _ h => h) ?_); intro i hi1; refine NO ?_; refine cD (fun h7 => ?_) fun h7 => ?_
 ·refine gk ?_
  have hil : i < l.length := by omega
  have hi8 : i / 8 < N := by omega
  refine Jt 9 O (Ji O O O eg (hg i hil) oR (H9 ?_)); refine cD (fun h11 => ?_) fun h11 => ?_
  ·have hbt : l.getD i false = true := by assumption
   have hst1 : KJ l N (i + 1) = (KJ l N i).set (i / 8) (UInt8.ofNat (((KJ l N i).getD (i / 8) 0).toNat ||| 2 ^ (i % 8))) := by rw [KJ, if_pos hbt]
   obtain ⟨Y, hY⟩ : ∃ Y, Y = KJ l N i := ⟨_, rfl⟩
   have hYl : Y.length = N := by rw [hY]; exact Q9 l N i
   rw [← hY] at hst1 ⊢
   refine gI ?_; refine Qt mo (gN ?_); refine Qt mw (k6 ?_); refine NX ?_; exact NE
  ·refine gn ?_; refine NX ?_
   (have hst0 : KJ l N (i + 1) = KJ l N i := by rw [KJ, if_neg mt]
    exact Jo (i + 1) m5 m5 (lK O) (by rw [hst0]; exact List.Sublist.refl _) (fun _ _ h => h))
 ·refine NO ?_
  obtain rfl : i = l.length := by omega
  refine kE ?_; refine LR O (Kw (b := KJ l N l.length) (row := some (rm, N, [])) (e := 5) My ⟨by rw [List.length_map]; omega, by rw [Q9]; simp⟩ (fun p hp => .inl nC) rfl rfl rfl) (DE fun w1 hs1 => ?_); rw [hpB]; rfl
theorem J5t  {a : Nat} {bits : List Bool} {items : List Vl} {pick : Int} (hsb : Seg R bits.length (W9 bits) pb) (hl : bits.length ≤ 9223372036854775807) (rv : Nat) (hi : i < bits.length) :
  PureR Tryz.prog 342 [.int .i64 (i : Int), Wn rv].toArray (.bool (bits.getD i false)) (Xq rv (.mk a b c d bits pb items pi pick) :: R) := by
 have hsb := hsb.mono (R' := Xq rv (.mk a b c d bits pb items pi pick) :: R) fun q hq => List.mem_cons_of_mem _ hq
 have hy : bits[i]? = some (bits.getD i false) := by rw [List.getD_eq_getElem?_getD, List.getElem?_eq_getElem hi]; rfl
 generalize bits.getD i false = y at hy ⊢
 refine Jc Tryz.func342 O O fun w => Gi ?_; refine gF ?_; refine Fu ?_; exact NU
theorem J5u  {a : Nat} {bits : List Bool} {items : List Vl} {pick : Int} (hsb : Seg R bits.length (W9 bits) pb) (hl : bits.length ≤ 9223372036854775807) (rn rv : Nat) (hi : i < (bits ++ [true]).length) :
  PureR Tryz.prog 343 [.int .i64 (i : Int), Wn rn, Wn rv].toArray (.bool ((bits ++ [true]).getD i false)) (wM rn bits.length :: Xq rv (.mk a b c d bits pb items pi pick) :: R) := by
 have hsb := hsb.mono (R' := wM rn bits.length :: Xq rv (.mk a b c d bits pb items pi pick) :: R) fun q hq => List.mem_cons_of_mem _ (List.mem_cons_of_mem _ hq)
 rw [List.length_append] at hi; simp only [List.length_cons, List.length_nil] at hi
 by_cases he : i = bits.length
 have hv : (bits ++ [true]).getD i false = true := by rw [List.getD_eq_getElem?_getD, List.getElem?_append_right m5, he, Nat.sub_self]; rfl
 rw [hv]; refine Fh fun w => ?_; refine QN O (Jq (show _ = Value.bool true from YI (J1j (by rw [he]))) (J1 11 rfl ?_)); exact Nz
 ·have hy : bits[i]? = some (bits.getD i false) := by rw [List.getD_eq_getElem?_getD, List.getElem?_eq_getElem m5]; rfl
  have hv : (bits ++ [true]).getD i false = bits.getD i false := by rw [List.getD_eq_getElem?_getD, List.getElem?_append_left m5, List.getD_eq_getElem?_getD]
  rw [hv]
  generalize bits.getD i false = y at hy ⊢
  have hne : ((i : Int) == (bits.length : Int)) = false := by simp; omega
  refine Fh fun w => ?_; refine QN O (Jq (show _ = Value.bool false from YI (hne)) (JH 2 rfl ?_)); refine GR ?_; refine Fu ?_; refine gy ?_; exact Nz
theorem Jo0 {l : BS} (h : i < l.length) : l[i]? = some (l.getD i 0) := by rw [List.getD_eq_getElem?_getD, List.getElem?_eq_getElem h]; rfl
theorem Jgz {x : UInt8} (h : x.toNat + 2 ^ m < 256) : Value.int .u8 (IntKind.u8.wrap ((x.toNat : Int) + ((2 ^ m : Nat) : Int))) = bV (UInt8.ofNat (x.toNat + 2 ^ m)) := by
 rw [← Int.natCast_add]
 generalize x.toNat + 2 ^ m = q at h ⊢
 rw [YX m5 m5]; exact yN h
def Wh (l : List Bool) (N i : Nat) : BS := (KJ l N i).take ((i + 7) / 8)
def WH (l : List Bool) (N i : Nat) : BS := (KJ l N i).take (i / 8 + 1)
theorem Ja5 {l : List Bool} (h : (i + 7) / 8 ≤ N) : (Wh l N i).length = (i + 7) / 8 := by unfold Wh; rw [List.length_take, Q9]; omega
theorem Ja6 {l : List Bool} (h : i / 8 < N) : (WH l N i).length = i / 8 + 1 := by unfold WH; rw [List.length_take, Q9]; omega
theorem zS (l : List Bool) (h : i / 8 < N) : ((KJ l N i).getD (i / 8) 0).toNat < 2 ^ (i % 8) := by
 refine Nat.lt_pow_two_of_testBit _ fun j hj => ?_
 by_cases h8 : j < 8
 ·rw [Jal l N i (i / 8) j m5 h h8, decide_eq_false m5, Bool.false_and]
 ·exact Nat.testBit_lt_two_pow (Nat.lt_of_lt_of_le (Xl _) (Nat.pow_le_pow_right (n := 2) (i := 8) m7 m5))
theorem Jyq {l : List Bool} (h : i / 8 < N) (h8 : i % 8 = 0) : Wh l N i ++ [0] = WH l N i := by
 have h0 := zS l h
 rw [h8] at h0
 have h1 : (KJ l N i).getD (i / 8) 0 = 0 := by
  have : ((KJ l N i).getD (i / 8) 0).toNat = 0 := by simpa using h0
  exact UInt8.toNat_inj.1 (by rw [this]; rfl)
 unfold Wh WH
 rw [show (i + 7) / 8 = i / 8 by omega, List.take_succ, Jo0 (by rw [Q9]; exact h), h1]
 rfl
theorem Jl8 {l : List Bool} (h8 : i % 8 ≠ 0) : Wh l N i = WH l N i := by
 unfold Wh WH
 rw [show (i + 7) / 8 = i / 8 + 1 by omega]
theorem Jl9 (l : List Bool) (N i : Nat) : Wh l N (i + 1) = (KJ l N (i + 1)).take (i / 8 + 1) := by
 unfold Wh
 rw [show (i + 1 + 7) / 8 = i / 8 + 1 by omega]
theorem Jma {l : List Bool} (hN : i / 8 < N) (h : l.getD i false = true) : Wh l N (i + 1) = (WH l N i).set (i / 8) (UInt8.ofNat (((WH l N i).getD (i / 8) 0).toNat + 2 ^ (i % 8))) := by
 have h0 := zS l hN
 have hz : (WH l N i).getD (i / 8) 0 = (KJ l N i).getD (i / 8) 0 := by
  unfold WH
  rw [List.getD_eq_getElem?_getD, List.getElem?_take, if_pos m5, List.getD_eq_getElem?_getD]
 have ho : ((KJ l N i).getD (i / 8) 0).toNat ||| 2 ^ (i % 8) = ((KJ l N i).getD (i / 8) 0).toNat + 2 ^ (i % 8) := by
  have := Nat.two_pow_add_eq_or_of_lt h0 1
  rw [Nat.mul_one] at this; rw [Nat.add_comm, this, Nat.or_comm]
 rw [Jl9, KJ, if_pos h, hz, ← ho]
 unfold WH
 rw [List.take_set]
theorem Jmb {l : List Bool} (h : ¬ l.getD i false = true) : Wh l N (i + 1) = WH l N i := by
 rw [Jl9, KJ, if_neg h]; rfl
theorem Jg0 {l : List Bool} (hN : i / 8 < N) : ((WH l N i).getD (i / 8) 0).toNat + 2 ^ (i % 8) < 256 := by
 have h0 := zS l hN
 have hz : (WH l N i).getD (i / 8) 0 = (KJ l N i).getD (i / 8) 0 := by
  unfold WH
  rw [List.getD_eq_getElem?_getD, List.getElem?_take, if_pos m5, List.getD_eq_getElem?_getD]
 rw [hz]
 have h7 : 2 ^ (i % 8) ≤ 128 := Nat.pow_le_pow_right (n := 2) (j := 7) m7 m5
 omega
theorem vM {l : List Bool} {p : Pl} (hl : l.length ≤ 1000000) (hs : Seg R l.length (W9 l) p) : PureR Tryz.prog 144 [KA l.length p].toArray (J5 (WB l)) R := by
 obtain ⟨N, hN⟩ : ∃ N, N = (l.length + 7) / 8 := ⟨_, rfl⟩
 have hpB : WB l = Wh l N l.length := by unfold Wh; rw [← hN, List.take_of_length_le (by rw [Q9]; exact Nat.le_refl _), hN]; rfl
 rw [hpB]; refine Jc Tryz.func144 O O fun w => JJ (JC 17 O (Jw (σ := Nat × QC) (fun q => q.1 ≤ l.length ∧ rowOk 1 ((q.1 + 7) / 8) ((Wh l N q.1).map bV) q.2) (fun q => [(0, KA l.length p), (3, J9 ((q.1 + 7) / 8) q.2), (4, .int .i64 (q.1 : Int))]) (fun q => JE 5 ((Wh l N q.1).map bV) q.2) (fun _ _ _ => True) (fun q => l.length - q.1) (0, none) ⟨Nat.zero_le _, rfl, rfl⟩ (lK O) (List.Sublist.refl _) (fun _ _ h => h) ?_)); rintro ⟨i, row⟩ ⟨hi1, hrow⟩; simp only at hi1 hrow; change HC _ _ [(0, KA l.length p), (3, J9 ((i + 7) / 8) row), (4, .int .i64 (i : Int))] (JE _ ((Wh l N i).map bV) row) _ _ _; refine gn ?_; refine ND ?_; refine ki ?_; refine cD (fun g => ?_) fun g => ?_
 ·refine NO ?_
  have hil : i < l.length := by omega
  have hi8 : i / 8 < N := by omega
  have hyb : l[i]? = some (l.getD i false) := by rw [List.getD_eq_getElem?_getD, List.getElem?_eq_getElem hil]; rfl
  refine Gy ?_; refine Jq mw (ki ?_); refine cD (fun g => ?_) fun g => ?_
  ·refine kE ?_; refine kj fun r1 => ?_; refine JA (L0 := [_]) (xs := (Wh l N i).map bV) (row := row) (n := (i + 7) / 8) (sz := 1) (b := 1) (news := [_]) (List.perm_append_comm (l₁ := [_])) O O O O (kn 0 O) O O O O O m7 O O O m7 hrow m5 m5 fun ra cap sp hra => Gb ?_
   (have h80 : i % 8 = 0 := by omega
    have e : (Wh l N i).map bV ++ [Value.int .u8 0] = (WH l N i).map bV := by rw [← Jyq hi8 h80, List.map_append]; rfl
    have hn : (i + 7) / 8 + 1 = i / 8 + 1 := by omega
    change HC _ _ ((3, J9 ((i + 7) / 8 + 1) (some (ra, cap, sp))) :: _) _ _ _ _; rw [hn, e] at hra; rw [hn, e]; refine qH (L' := JE 5 ((WH l N i).map bV) (some (ra, cap, sp))) (List.sublist_append_left _ _) ?_
    generalize (some (ra, cap, sp) : QC) = row2 at hra ⊢)
   have hZl := Ja6 (l := l) hi8
   refine Gy ?_
   refine kT ?_; refine LR O (WV oR O hs hyb O) (H9 ?_); refine cD (fun g => ?_) fun g => ?_
   ·have hst1 := Jma hi8 m9
    have hlt8 := Jg0 (l := l) hi8
    obtain ⟨⟨rr, cap2, sp2⟩, rfl⟩ : ∃ q, row2 = some q := by
     cases row2 with
     | none => have := hra.1; omega
     | some q => exact ⟨q, rfl⟩
    exact Ec
   ·refine Gq ?_; refine NX ?_
    (have hst0 := Jmb (l := l) (N := N) (i := i) mt
     exact Jo (i + 1, row2) ⟨by simp only; omega, by simp only; rw [hst0, show (i + 1 + 7) / 8 = i / 8 + 1 by omega]; exact hra⟩ mh (.cons O (.cons ng (.cons O .nil))) MY (fun _ _ h => h))
  ·refine GU ?_
   (have h80 : i % 8 ≠ 0 := by omega
    have hra := hrow
    have hn : (i + 7) / 8 = i / 8 + 1 := by omega
    rw [Jl8 h80, hn] at hra; rw [Jl8 h80, hn]
    generalize row = row2 at hra ⊢)
   have hZl := Ja6 (l := l) hi8
   refine Gy ?_
   refine kT ?_; refine LR O (WV oR O hs hyb O) (H9 ?_); refine cD (fun g => ?_) fun g => ?_
   ·have hst1 := Jma hi8 m9
    have hlt8 := Jg0 (l := l) hi8
    obtain ⟨⟨rr, cap2, sp2⟩, rfl⟩ : ∃ q, row2 = some q := by
     cases row2 with
     | none => have := hra.1; omega
     | some q => exact ⟨q, rfl⟩
    exact Ec
   ·refine Gq ?_; refine NX ?_
    (have hst0 := Jmb (l := l) (N := N) (i := i) mt
     exact Jo (i + 1, row2) ⟨by simp only; omega, by simp only; rw [hst0, show (i + 1 + 7) / 8 = i / 8 + 1 by omega]; exact hra⟩ mh (.cons O (.cons ng (.cons O .nil))) MY (fun _ _ h => h))
 ·refine NO ?_
  obtain rfl : i = l.length := by omega
  refine kE ?_; refine LR O (Kw (b := Wh l N l.length) (row := row) (e := 5) (show _ = some (J9 (Wh l N l.length).length _) from by rw [Ja5 m5]; rfl) (by rw [Ja5 m5]; exact hrow) (fun p hp => .inl hp) O O O) ?_; exact NU
theorem qS {k : Int} (h8 : k ≠ 8) (pick : Int) (ins : List Ty) (i : Nat) : JT k pick ins i = JT k 0 ins i := by
 unfold JT W1; split
 ·rfl
 ·simp [h8]
theorem Jdi {k : Int} (h8 : k ≠ 8) (pick : Int) (ins : List Ty) : ∀ (l : List Vl) (i : Nat), Qr l k pick ins i = Qr l k 0 ins i
 | [], i => by rw [Qr, Qr]
 | x :: xs, i => by rw [Qr, Qr, Jdi h8 pick ins xs (i + 1), qS h8]
theorem Jg1 {k : Int} (ins : List Ty) : ∀ (l : List Vl) (i : Nat), (Qr l k 0 ins i).map Prod.fst = (List.range' i l.length).map fun j => JT k 0 ins j
 | [], i => by rw [Qr]; rfl
 | x :: xs, i => by
  rw [Qr, List.map_cons, Jg1 ins xs (i + 1), List.length_cons, List.range'_succ, List.map_cons]
theorem Jg2 (k : Int) (ins : List Ty) (l : List Vl) : (Qr l k 0 ins 0).map Prod.fst = Wg k ins l.length := by
 rw [Jg1]; unfold Wg; rw [List.range_eq_range']
theorem Jyr (A : List α) (x : α) (B : List α) : (A ++ x :: B).Perm (B ++ (A ++ [x])) := by
 rw [show A ++ x :: B = (A ++ [x]) ++ B by simp]; exact List.perm_append_comm
def wB (l : List (Ty × BS)) : Nat := (l.map fun p => p.2.length + 4).sum
theorem jP (p : Ty × BS) (l : List (Ty × BS)) : wB (p :: l) = p.2.length + 4 + wB l := by unfold wB; rw [List.map_cons, List.sum_cons]
theorem Jdj : bOk [] none := ⟨⟨rfl, rfl⟩, fun _ => rfl⟩
set_option maxHeartbeats 1000000 in
theorem J19 {k n : Int} {p : Pl} {ins : List Ty} {items : List Vl} {B : Nat} (ht : Ty.In R (.mk k n p ins)) (hs : Seg R items.length (Ql items) pi) (hl : items.length ≤ 600) (hx : ∀ i, i < items.length → W1 k 0 i < ins.length)
  (hb : ∀ (i : Nat) x, items[i]? = some x → PureR Tryz.prog 302 [(JT k 0 ins i).val, x.val].toArray (J5 (Vj x (JT k 0 ins i))) R) (hB : wB (Qr items k 0 ins 0) ≤ B) (hB2 : B ≤ 900000) :
  PureR Tryz.prog 344 [Ty.val (.mk k n p ins), KA items.length pi].toArray (J5 (YD (Vc (Wg k ins items.length)).toNat (Qr items k 0 ins 0) [] [])) R := by
 have hti := fun i h => ht.sub _ (Qi (hx i h)).2
 have hbg := Jta ht hl hx
 have hbl := qQ (Wg k ins items.length)
 rw [qR] at hbl
 obtain ⟨H, hH⟩ : ∃ H, H = (Vc (Wg k ins items.length)).toNat := ⟨_, rfl⟩
 have hHi : Vc (Wg k ins items.length) = (H : Int) := by omega
 have hHb : H ≤ 1351079888211148800 := by omega
 rw [hHi] at hbg; rw [← hH]
 obtain ⟨TOT, hTOT⟩ : ∃ T, T = YD H (Qr items k 0 ins 0) [] [] := ⟨_, rfl⟩
 rw [← hTOT]; refine Jc Tryz.func344 O O fun w => NB fun r1 r2 => ?_; refine kL ?_; refine LN O fun r3 => LN O fun r4 => XG 6 [3, 2] O O (ND ?_); refine Ji O O O (enters_of Tryz.func365 m6 O) hbg oR (LN O fun r5 => ?_)
 refine NQ ?_; refine XG 7 [4, 3] O O (ND ?_); refine Kj O O O (enters_of Tryz.func366 m6 O) (Jl5 (.mk k n p ins) (items.length : Int)) fun pp => ?_
 obtain ⟨ra, rb⟩ := pp
 change HL _ _ _ (wM rb items.length :: WG ra (.mk k n p ins) :: _) _ _ _ _; refine ki ?_; refine Vz [4, 3, 0, 1, 2, 5, 6] (L' := [xU r3 [] none false, xU r4 [] none false, wM rb items.length, WG ra (.mk k n p ins), _, _, _]) m7 O ?_
 refine WS (τ := Unit) (fun i (s : BS × BS × QC × QC × Bool × Bool) => i ≤ items.length ∧ YD H (Qr (items.drop i) k 0 ins i) s.1 s.2.1 = TOT ∧ bOk s.1 s.2.2.1 ∧ bOk s.2.1 s.2.2.2.1 ∧ s.1.length + s.2.1.length + wB (Qr (items.drop i) k 0 ins i) ≤ B) (fun s => X5 r3 s.1 s.2.2.1 s.2.2.2.2.1 ++ X5 r4 s.2.1 s.2.2.2.1 s.2.2.2.2.2) (fun _ _ => False) (fun _ => []) [wM rb items.length, WG ra (.mk k n p ins), _, _, _] ([], [], none, none, false, false) O O (enters_of Tryz.func379 m6 O) (Jl6 ht m5 hx ra rb) mE O (fun q hq => by rcases List.mem_cons.1 hq with rfl | hq; exact .inl ml; rcases List.mem_cons.1 hq with rfl | hq; exact .inl ml; exact .inr hq) O ⟨Nat.zero_le _, hTOT.symm, Jdj, Jdj, by simpa using hB⟩ ?_ ?_ ?_
 ·rintro q Xr Xb w3 i _ _ ⟨f, th, row1, row2, own1, own2⟩ ⟨hii, rfl, rfl⟩ ⟨him, hinv, hb1, hb2, hlen⟩ Kr hKr; refine inR ?_
  simp only at hinv hb1 hb2 hlen
  have hti1 := hti i hii
  have hix := V3 hii
  have hbi := hb i _ hix.1
  rw [VY hix.1, Qr, YD] at hinv; rw [VY hix.1, Qr, jP] at hlen
  obtain ⟨S, hS⟩ : ∃ S, S = Vj (X0 items i) (JT k 0 ins i) := ⟨_, rfl⟩
  simp only [← hS] at hinv hlen; rw [← hS] at hbi
  have hle4 := zI (H + th.length)
  unfold itV
  refine Gq ?_; refine gz fun r9 => ?_; refine gE ?_; clear hKr; refine JC 2 O (JK 7 m6 m6 (FN ?_)); refine Ja O O O (Je (v := KA items.length pi) O (JF (k := 3) O) O O) (Nm ?_)
  refine kW ?_; refine Ja O O O (QV (fun q hq => Or.inr (List.mem_append_right _ hq)) O hs hix.1 O O) (Vt O O O Jse hbi (fun q hq => Or.inr (List.mem_append_right _ hq)) (NP ?_)); refine kL ?_; refine EO ?_; refine JN 12 O (cD (fun g => ?_) fun g => ?_)
  refine Gy ?_; refine QK (T := X5 r3 f row1 own1) (L0 := (r9, .cells (JT k 0 ins i).cells.toArray 84 (0, 0)) :: X5 r4 th row2 own2) (Rl := []) List.perm_middle.symm O O O Jln (yv hb1 (s2 := S) m5) oN fun x => ?_
  obtain ⟨row1x, hb1x⟩ := x
  refine gy ?_
  (rw [if_pos m9] at hinv
   refine qI (L' := X5 r3 (f ++ S) row1x true ++ X5 r4 th row2 own2) ((List.Sublist.refl _).append (.cons _ (List.Sublist.refl _))) ?_
   exact Qa (f ++ S, th, row1x, row2, true, own2) ⟨by omega, hinv, hb1x, hb2, by simp only [List.length_append]; omega⟩ rfl)
  ·refine GU ?_; refine JK 10 m6 m6 (Ja O O O (Je (v := .int .i64 (H : Int)) O (JF (k := 2) O) O O) (Vt O O O (enters_of Tryz.func246 m6 O) (J18 r4 own2 hb2) (fun q hq => Or.inl (by rw [List.mem_singleton.1 hq]; exact List.mem_cons_of_mem _ (List.mem_append_right _ List.mem_cons_self))) ?_))
   refine Nn ?_; refine Ks nt (Nn ?_); refine Ks (show _ = uV (H + th.length) from congrArg (Value.int .u64) (wrap_u64 m5 m5)) (KI rfl rfl rfl Jxr (qM (n := H + th.length) m5 4) (Nm ?_)); refine Ja O O O (Kh O O) (Ja O O O (Kh O O) (HW ?_)); refine kL ?_; refine QK (T := X5 r3 f row1 own1) (L0 := (r9, .cells (JT k 0 ins i).cells.toArray 84 (0, 0)) :: X5 r4 th row2 own2) (Rl := []) List.perm_middle.symm O O O Jln (yv hb1 (s2 := (jZ (H + th.length) 4).1) m5) oN fun x => ?_
   obtain ⟨row1x, hb1x⟩ := x
   refine Ge ?_; refine QK (T := X5 r4 th row2 own2) (L0 := X5 r3 (f ++ (jZ (H + th.length) 4).1) row1x true ++ [(r9, .cells (JT k 0 ins i).cells.toArray 84 (0, 0))]) (Rl := []) (Jyr _ _ _) O O O Jln (yv hb2 (s2 := S) m5) oN fun x => ?_
   obtain ⟨row2x, hb2x⟩ := x
   refine J1 2 O ?_
   (rw [if_neg Mq] at hinv
    refine wW List.perm_append_comm (qI (L' := X5 r3 (f ++ (jZ (H + th.length) 4).1) row1x true ++ X5 r4 (th ++ S) row2x true) ((List.sublist_append_left _ _).append (List.Sublist.refl _)) ?_)
    exact Qa (f ++ (jZ (H + th.length) 4).1, th ++ S, row1x, row2x, true, true) ⟨by omega, hinv, hb1x, hb2x, by simp only [List.length_append]; omega⟩ rfl)
 rintro D i ⟨f, th, row1, row2, own1, own2⟩ hfi ⟨him, hinv, hb1, hb2, hlen⟩
 simp only at hinv hb1 hb2 hlen
 have hin : i = items.length := hfi
 rw [hin, List.drop_length, Qr, YD] at hinv; refine gqo 4 O (QK (T := X5 r3 f row1 own1) (L0 := _ :: (X5 r4 th row2 own2 ++ [wM rb items.length, WG ra (.mk k n p ins), _, _, _])) (Rl := []) (by rw [List.append_assoc]; exact List.perm_middle.symm) O O O Jr5 (Jjl hb1 m5) oN fun u1 => QK (T := X5 r4 th row2 own2) (L0 := _ :: [wM rb items.length, WG ra (.mk k n p ins), _, _, _]) (Rl := []) List.perm_middle.symm O O O Jr5 (Jjl hb2 m5) oN fun u2 => LR O (KB (a := f) (b := th) O O m5) (gM ?_)); refine HK ?_; refine NW fun w1 hs1 => ?_; exact ⟨by rw [← hinv]; rfl, hs1.keep⟩
 ·exact Gh
theorem Wv {a : Nat} {bits : List Bool} {items : List Vl} {pick k n : Int} {p : Pl} {ins : List Ty} (h : Qd (.mk a b c d bits pb items pi pick) (.mk k n p ins) = 0) :
  ¬ ((k = 4 ∧ n < items.length) ∨ (k = 6 ∧ n < bits.length)) ∧ ofT k n ins.length (.mk a b c d bits pb items pi pick) = true ∧ Vh items k pick ins 0 = 0 := by
 rw [Qd] at h
 split at h
 ·cases h
 ·rename_i h1
  split at h
  ·cases h
  ·rename_i h2
   exact ⟨h1, by simpa using h2, h⟩
theorem VG : ∀ {l : List Vl} {k pick : Int} {ins : List Ty} {i j : Nat} {x : Vl}, Vh l k pick ins i = 0 → l[j]? = some x → Qd x (JT k pick ins (i + j)) = 0
 | [], _, _, _, _, _, _, _, h => by simp at h
 | y :: ys, k, pick, ins, i, j, x, h0, h => by
  rw [Vh] at h0
  split at h0
  ·rename_i h1
   cases j with
   | zero => simp at h; subst h; exact h1
   | succ j =>
    rw [List.getElem?_cons_succ] at h
    have := VG h0 h
    rwa [show i + 1 + j = i + (j + 1) by omega] at this
  ·rename_i h1; exact absurd h0 h1
theorem Jtd : ∀ {l : List Vl} {x : Vl}, x ∈ l → Yy x ≤ wL l
 | y :: ys, x, h => by
  rw [wL]
  rcases List.mem_cons.1 h with rfl | h
  ·omega
  ·have := Jtd h; omega
theorem vN {a : Nat} {bits : List Bool} {items : List Vl} {pick : Int} {x : Vl} (h : x ∈ items) : Yy x ≤ Yy (.mk a b c d bits pb items pi pick) := by
 have := Jtd h
 rw [Yy]; omega
theorem zT (items : List Vl) (k pick : Int) (ins : List Ty) : ∀ (l : List Vl) (i : Nat), wB (Qr l k pick ins i) ≤ 40 * wL l
 | [], i => by rw [Qr, wL]; exact Nat.zero_le _
 | x :: xs, i => by
  rw [Qr, wL, jP]
  have h1 := qN x (JT k pick ins i)
  have h2 := zT items k pick ins xs (i + 1)
  simp only
  omega
theorem Ja7 {z : Int} (h1 : 0 ≤ z) (h2 : z < 256) : Value.int .u8 (IntKind.u8.wrap z) = bV (UInt8.ofNat z.toNat) := by
 rw [YX h1 m5, ← yN m5, Int.toNat_of_nonneg h1]
theorem Jmc {l : List Vl} {k pick : Int} {ins : List Ty} (h : l.length = 1) : ((Qr l k pick ins 0).headD (default, [])).2 = Vj (X0 l 0) (JT k pick ins 0) := by
 match l, h with
 | [x], _ => rw [Qr]; rfl
theorem qT {a : Nat} {bits : List Bool} {items : List Vl} {pick k n : Int} {p : Pl} {ins : List Ty} (hc : chk (.mk k n p ins) dp = 0) (h : Qd (.mk a b c d bits pb items pi pick) (.mk k n p ins) = 0) :
  items.length ≤ 512 ∧ bits.length ≤ 512 ∧ (k = 1 → 1 ≤ n ∧ n ≤ 32) ∧ (k = 8 → items.length = 1 ∧ 0 ≤ pick ∧ pick < ins.length ∧ ins.length ≤ 8) := by
 obtain ⟨h1, h2, _⟩ := Wv h
 obtain ⟨hk, hf, _, _⟩ := QZ hc
 rw [VQ k n ins.length a b c d bits pb items pi pick _ rfl] at h2; simp only [VE] at h2
 unfold Km at hf
 have h9 : k = 1 ∨ k = 2 ∨ k = 3 ∨ k = 4 ∨ k = 5 ∨ k = 6 ∨ k = 7 ∨ k = 8 := by omega
 rcases h9 with rfl | rfl | rfl | rfl | rfl | rfl | rfl | rfl
 all_goals generalize items.length = I at *
 all_goals generalize bits.length = J at *
 all_goals generalize ins.length = K at *
 all_goals simp at h1 h2 hf ⊢
 all_goals omega
section
variable {c : Cx} {l : KQ} {L E : Jx} {X : XP} {Q : Exit → Act → World → Prop} {d : List Deferred}
variable {ops : Array Oper} {rest : List Nat} {i k : Nat} {v : Value} {o : Oper} {tb : jX} {S : Jx} {T : Jx → Act → Prop}
theorem Va {t : TypeId} {n : Nat} {pa : List (Nat × Operand)} {vs : KQ} {r zs : List Value} (hk : X7 ops.toList k = some ⟨some i, .buildSlice t n pa.toArray, ty, ps, af, gd⟩) (hg : Kz l ops ⟨some i, .buildSlice t n pa.toArray, ty, ps, af, gd⟩ = some true) (hi : Nat.ble (i + 1) c.n = true)
  (hA : tb k = .grow (Vu (slV n) (.cells r.toArray e (0, 0))))
  (hp : XA l pa = some vs) (ht : KH c.P t = some e) (hz : QI c.P e = some z) (hs : Qg c.P e = some sz) (hzs : z.cells.size = sz) (hb : Nat.ble (n * sz) 16777216 = true) (h0 : Nat.ble 1 (n * sz) = true)
  (hmk : (madeCells z.cells (n * sz)).toList = zs) (hf : ZJ (fun i => some (i * sz, sz)) zs (QS vs) = some r)
  (h : ∀ q, HB c d ((i, .slice (some ⟨q, 0, none⟩) n n) :: l) ((q, .cells r.toArray e (0, 0)) :: E) X S ops tb rest T) : HB c d l E X S ops tb (k :: rest) T :=
 Jrb (V := slV n) hk hg rfl hi hA (fun a w hfr => by
  have h1 := VJ hfr hp
  have h2 : (pa.toArray.map fun (p : Nat × Operand) => (p.1, a.eval p.2)) = vs.toArray := by
   apply Array.toList_inj.1; rw [Array.toList_map]; simpa using h1
  rw [QQ] at hf; subst hmk
  have h3 := W6 ht hz hs hzs (Nat.le_of_ble_eq_true hb) (Nat.le_of_ble_eq_true h0) hf w
  rw [← h2] at h3; refine E6 ?_
  have h4 : (Instr.buildSlice t n (pa.toArray.map fun (i, x) => (i, a.eval x))).run c.P w = .ok (.slice (some ⟨w.heap.size, 0, none⟩) n n) (w.alloc (.cells r.toArray e)) := h3
  rw [h4]; rfl) h
end
section
variable {a b c d : Nat} {bits : List Bool} {pb : Pl} {items : List Vl} {pi : Pl} {pick k n : Int} {p : Pl} {ins : List Ty}
theorem Vf : Vj (.mk a b c d bits pb items pi pick) (.mk k n p ins) = if k = 1 then yY [a, b, c, d] n.toNat else if k = 2 then yY [a, b, c, d] 1 else if k = 5 then WB bits else if k = 6 then WB (bits ++ [true])
  else if k = 8 then UInt8.ofNat pick.toNat :: ((Qr items k pick ins 0).headD (default, [])).2 else YD (Vc ((Qr items k pick ins 0).map Prod.fst)).toNat (Qr items k pick ins 0) [] [] := by rw [Vj]; rfl
end
set_option maxHeartbeats 1000000 in
theorem Jys (hv : v.In R) : ∀ (t : Ty) (dp : Int), t.In R → chk t dp = 0 → Qd v t = 0 → Yy v ≤ 20000 → PureR Tryz.prog 302 [t.val, v.val].toArray (J5 (Vj v t)) R := by
 induction hv with
 | @mk a b c d bits pb items pi pick ha hb hc hd hlb hsb hl hs hp hi ih =>
 intro t dp ht hck hfit hw
 have ht0 := ht
 cases ht with
 | @mk k n p ins hk hn hlt hst hit =>
 obtain ⟨hk8, ho, h6, hci⟩ := QZ hck
 obtain ⟨hf1, hf2, hf3⟩ := Wv hfit
 obtain ⟨m1, m2, m3, m4⟩ := qT hck hfit
 have hxl : ∀ i, i < items.length → W1 k pick i < ins.length := fun i hi => Zm (v := .mk a b c d bits pb items pi pick) hck hf2 hi
 have hwd : WOk [a, b, c, d] := ⟨rfl, fun x hx => by simp at hx; rcases hx with rfl | rfl | rfl | rfl <;> assumption⟩
 have hfx := Vs hwd
 have hlen32 : (Yw [a, b, c, d] 32).reverse.length = 32 := by rw [List.length_reverse, Q2]
 have hpt := Jtb (s := Yw [a, b, c, d] 32) (by rw [Q2]; decide)
 have hle : ∀ m, yY [a, b, c, d] m = ((Yw [a, b, c, d] 32).reverse.take m).drop 0 := fun m => by rw [List.drop_zero]; rfl
 have hrow : ¬ k = 1 → ¬ k = 2 → ¬ k = 5 → ¬ k = 6 → ¬ k = 8 → PureR Tryz.prog 344 [Ty.val (.mk k n p ins), KA items.length pi].toArray (J5 (Vj (.mk a b c d bits pb items pi pick) (.mk k n p ins))) R := fun h1 h2 h5 h6 h8 => by
  have hx0 : ∀ i, i < items.length → W1 k 0 i < ins.length := fun i hi => by have := hxl i hi; unfold W1 at this ⊢; rw [if_neg h8] at this ⊢; exact this
  have hwl : wL items ≤ Yy (.mk a b c d bits pb items pi pick) := by rw [Yy]; omega
  have := J19 (B := 800000) ht0 hs m5 hx0 (fun i x hxi => by
   have hm := List.mem_of_getElem? hxi
   have hlt3 := (List.getElem?_eq_some_iff.1 hxi).1
   have hty := (Qi (hx0 i hlt3)).2
   have hg := VG hf3 hxi
   rw [Nat.zero_add, qS h8] at hg
   exact ih x hm _ (dp + 1) (hit _ hty) (hci _ hty) hg (Nat.le_trans (vN hm) hw)) (by have := zT items k 0 ins items 0; omega) m7
  rw [Vf, if_neg h1, if_neg h2, if_neg h5, if_neg h6, if_neg h8, Jdi h8, Jg2]; exact this
 refine Jc Tryz.func302 O O fun w => NB fun r1 r2 => ?_; refine FK ?_; refine LR O (Jy O hsb O) (LN O fun r3 => ?_)
 refine NQ ?_; refine Goc 16 [2] O O (cD (fun h6 => ?_) fun h6 => ?_)
 refine HS ?_
 have hn1 := m3 m9
 refine JK 8 m6 m6 ?_
 refine Hn ?_; refine Ja O O O (Jz (vs := [_, _, _, _]) O (kn 1 O) O O O O) (KI O O O Jf6 hfx (KI O O O (enters_of Tryz.func340 m6 O) hpt ?_))
 refine Hn ?_; refine Ja O O O (Je O (kn 2 O) O O) (Ja O O O (Y6 (kl := none) (kh := some (.i64, n)) (m := 0) (n := n.toNat) O O O O O (by show n = ((n.toNat : Nat) : Int); omega) (Nat.zero_le _) (by rw [hlen32]; omega) rfl) ?_); rw [← hle]; refine NP ?_; refine gy ?_; refine Ni fun w1 hs1 => ?_; rw [Vf, if_pos m9]; rfl
 ·refine NO ?_; refine cD (fun g => ?_) fun g => ?_
  refine Qy 4 [1] O O (Jn O O O Jf6 hfx (Jn O O O (enters_of Tryz.func340 m6 O) hpt (LR O (Y6 (kl := none) (kh := some (.i64, 1)) (m := 0) (n := 1) O O O O O (by show (1 : Int) = ((1 : Nat) : Int); omega) (Nat.zero_le _) (by rw [hlen32]; omega) rfl) ?_))); rw [← hle]; refine H5 fun w1 hs1 => ?_; rw [Vf, if_neg m9, if_pos m9]; rfl
  ·refine NO ?_; refine cD (fun g => ?_) fun g => ?_
   refine kE ?_; refine FT ?_; refine kJ ?_; refine Ji (Rl := Xq r2 (.mk a b c d bits pb items pi pick) :: R) O O O (enters_of Tryz.func341 m6 O) (Jtc (caps := [Wn r2]) m5 (enters_of Tryz.func342 m6 O) (fun i hi => J5t hsb m5 r2 hi)) (fun q hq => (List.mem_cons.1 hq).elim (fun h => .inl MG) .inr) ?_; exact I6
   ·refine NO ?_; refine cD (fun g => ?_) fun g => ?_
    refine gp ?_; refine Jq (show _ = Value.int .i64 (((bits ++ [true]).length : Nat) : Int) from by rw [wrap_i64 m5 m5]; congr 1; rw [List.length_append]; rfl) (kJ ?_)
    refine Ji (Rl := wM r3 bits.length :: Xq r2 (.mk a b c d bits pb items pi pick) :: R) O O O (enters_of Tryz.func341 m6 O) (Jtc (caps := [Wn r3, Wn r2]) (by rw [List.length_append]; simp; omega) (enters_of Tryz.func343 m6 rfl) (fun i hi => J5u hsb m5 r3 r2 hi)) (fun q hq => by rcases List.mem_cons.1 hq with rfl | hq; exact .inl List.mem_cons_self; rcases List.mem_cons.1 hq with rfl | hq; exact .inl (List.mem_cons_of_mem _ List.mem_cons_self); exact .inr hq) ?_; exact I3
    ·refine NO ?_; refine cD (fun g => ?_) fun g => ?_
     refine HS ?_
     have hk0 : k = 8 := by assumption
     have h81 := (m4 hk0).1
     have hx8 := V3 (l := items) (i := 0) m5
     have hty8 := Qi (hxl 0 m5)
     have hix8 : W1 k pick 0 = pick.toNat := by unfold W1; rw [if_neg m5, if_pos hk0]
     rw [hix8] at hty8
     have hg8 := VG hf3 hx8.1
     have hw8 := Nat.le_trans (vN (a := a) (b := b) (c := c) (d := d) (bits := bits) (pb := pb) (pi := pi) (pick := pick) hx8.2) hw
     have hrec := ih _ hx8.2 (JT k pick ins 0) (dp + 1) (hit _ hty8.2) (hci _ hty8.2) hg8 hw8
     have hpl8 := qN (X0 items 0) (JT k pick ins 0)
     refine gP ?_; refine JY (k := 1) O O O O O (Je O (kn 1 O) O O) (DB ?_); refine JY (k := 6) O O O O O (Je O (kn 2 O) O O) ?_
     refine HU ?_; refine JY (k := 8) O O O O O (Je O (kn 1 O) O O) (GK ?_); refine JY (k := 12) O O O O O (Je O (kn 1 O) O O) ?_
     refine Dt ?_; refine JW (k := 15) O O O O O Jse hrec oR (kz fun rv w1 hs1 => ?_); rfl
     ·refine gn ?_; refine LR O (Jz (vs := [_, _, _]) O (kn 2 O) O O O O) ?_
      refine LS 2 [1] O O (Ji O O O (enters_of Tryz.func344 m6 O) (hrow m9 m9 m9 m9 m9) oR (DE fun w1 hs1 => ?_))
      rfl
section
variable {c : Cx} {l : KQ} {L : Jx} {X : XP} {Q : Exit → Act → World → Prop} {d : List Deferred}
variable {ops : Array Oper} {rest : List Oper} {i : Nat} {v : Value} {t : TypeId} {ps : String} {af : Array Edge} {gd : Option (Nat × Bool)} {ty : TypeId}
theorem Jg3  {n : Nat} {p : Pl} {news xs : List Value}
  (hp : L.Perm (JE e xs row ++ L0)) (hg : Kz l ops ⟨some i, .call ⟨.builtin .append, #[x, y], #[t, t]⟩, ty, ps, af, gd⟩ = some true) (hi : Nat.ble (i + 1) c.n = true) (hx : Kx l x = some (J9 n row)) (hy : Kx l y = some (KA m p)) (hs : Seg R m news p) (hR : ∀ q ∈ R, known c L0 q.1 q.2)
  (ht : KH c.P t = some e) (hz : QI c.P e = some z) (hsz : Qg c.P e = some sz) (hb : Jb0 c.P e = some b) (hzs : z.cells.size = sz) (h0 : 0 < sz) (hcs : news.length = m * sz) (hone : news.all QE = true) (ho : rowOk sz n xs row) (h63 : n + m ≤ 9223372036854775807) (h47 : (n + m) * b ≤ 140737488355328)
  (h : ∀ row', rowOk sz (n + m) (xs ++ news) row' → HL c d ((i, J9 (n + m) row') :: l) (JE e (xs ++ news) row' ++ L0) X ops rest Q) : HL c d l L X ops (⟨some i, .call ⟨.builtin .append, #[x, y], #[t, t]⟩, ty, ps, af, gd⟩ :: rest) Q := by
 by_cases hm : m = 0
 ·subst hm
  have hn0 : news = [] := List.length_eq_zero_iff.1 (by rw [hcs, Nat.zero_mul])
  subst hn0
  have h2 := h row (by rw [List.append_nil, Nat.add_zero]; exact ho)
  rw [List.append_nil, Nat.add_zero] at h2; refine Kv hp ?_
  cases row with
  | none => exact jO hg hi (show _ = some (Value.slice none n 0) from by rw [hx, ho.1]; rfl) hy ht hsz (by rw [ho.1]; exact Nat.le_refl _) (by rw [ho.1] at h2 ⊢; exact h2)
  | some q =>
   obtain ⟨r, cap, sp⟩ := q
   refine jO hg hi hx hy ht hsz ?_ h2
   have h3 := ho.2
   exact Nat.le_of_mul_le_mul_right (by omega : n * sz ≤ cap * sz) h0
 ·cases p with
  | none => exact absurd hs hm
  | some q =>
   obtain ⟨⟨r2, o2, s2⟩, cap⟩ := q
   obtain ⟨hs1, hs2⟩ := hs
   obtain ⟨h3, all, e', fr, h4, h5⟩ := hs2 m5
   have h3 : s2 = none := h3
   subst h3; rw [hcs] at h5; refine JA hp hg hi hx hy (hR _ h4) ht hz hsz hb hzs h0 h5 hcs hone m5 ho h63 h47 fun r' cap' spare hok => ?_; exact h (some (r', cap', spare)) hok
end
theorem Zr (h : VF t v = 0) : chk t 0 = 0 ∧ Qd v t = 0 := by
 unfold VF at h
 split at h
 ·rename_i h1; exact ⟨h1, h⟩
 ·rename_i h1; exact absurd h h1
theorem Jyt (t : Ty) (h : Yy v ≤ 20000) : (Vj v t).length ≤ 800000 := by have := qN v t; omega
theorem J2a (ht : t.In R) (hv : v.In R) (hw : Yy v ≤ 20000) : PureR Tryz.prog 216 [t.val, v.val].toArray (Wm (Jyd t v)) R := by
 have h1 := Jsr ht hv
 have h2 := fun h => Jys hv t 0 ht (Zr (t := t) (v := v) h).1 (Zr h).2 hw
 have hlb := Jyt t hw
 unfold Jyd
 generalize VF t v = e at h1 h2 ⊢
 generalize Vj v t = s at h2 hlb ⊢
 obtain ⟨k, n, p, ins⟩ := t
 obtain ⟨a, b, c, d, bits, pb, items, pi, pick⟩ := v
 refine Jc Tryz.func216 O O fun w => NB fun r1 r2 => ?_; refine XG 9 [1, 0] O O (Ji O O O (enters_of Tryz.func99 m6 O) h1 oR (H2 ?_)); refine cD (fun g => ?_) fun g => ?_
 refine D4 fun w1 hs1 => ?_; rw [if_pos m5]; rfl
 ·refine Qy 6 [1, 0] O O (Ji O O O Jse (h2 m5) oR (gY ?_)); refine gt ?_; refine ki ?_; refine cD (fun g => ?_) fun g => ?_
  refine Dx fun w1 hs1 => ?_; rw [if_neg m5, if_pos m5]; rfl
  ·refine Kk 10 O (NA fun w1 hs1 => ?_); rw [if_neg m5, if_neg m5]; rfl
theorem Jte {n : Nat} (hn : n ≤ 4611686018427387904) : Pure Tryz.prog 264 [.int .i64 (n : Int)].toArray (J5 (jZ n 4).1) := by
 have h := zH (n := n) m5 4
 generalize jZ n 4 = q at h ⊢
 refine Jl Tryz.func264 O O fun w => kV ?_; refine Jq (show _ = uV n from congrArg (Value.int .u64) (wrap_u64 m5 m5)) (Jn rfl rfl rfl J10 h (J1 14 rfl ?_)); exact Nz
theorem Jtf {k n : Int} {p : Pl} {ins : List Ty} (ht : Ty.In R (.mk k n p ins)) (hv : v.In R) (h8 : k ≠ 8) (hm : m ≤ 600) (hx : ∀ i, i < m → W1 k 0 i < ins.length) : PureR Tryz.prog 262 [Ty.val (.mk k n p ins), v.val, .int .i64 (m : Int)].toArray (.int .i64 (Vc (Wg k ins m))) R := by
 have hti := fun i h => ht.sub _ (Qi (hx i h)).2
 have hin := fun i (h : i < m) => zC (v := v) (i := i) (y := JT k 0 ins i) ht hv (fun e => absurd e h8) nZ
 obtain ⟨a, b, c, d, bits, pb, items, pi, pick⟩ := v
 refine Jc Tryz.func262 O O fun w => NB fun r1 r2 => ?_; refine JN 15 O (Jw (σ := Nat) (fun i => i ≤ m) (fun i => [(2, .int .i64 (m : Int)), (3, Wn r1), (4, Wn r2), (7, .int .i64 (Vc (Wg k ins i))), (8, .int .i64 (i : Int))]) (fun _ => [Xq r2 (.mk a b c d bits pb items pi pick), WG r1 (.mk k n p ins)]) (fun _ _ _ => True) (fun i => m - i) 0 (Nat.zero_le _) (lK O) (List.Sublist.refl _) (fun _ _ h => h) ?_); intro i hi1; change HC _ _ _ ((r2, _) :: (r1, _) :: []) _ _ _; refine JC 8 O (cD (fun g => ?_) fun g => ?_)
 ·refine gk ?_
  have hil : i < m := by omega
  have hb1 := Jdg (JT k 0 ins i)
  have hb2 := qQ (Wg k ins i)
  rw [qR] at hb2; refine Qy 4 [1, 0] O O (Ji O O O Jr9 (hin i hil) oR (gz fun r9 => ?_)); refine Ge ?_; refine kH ?_; refine Ji O O O Jsa (ZT (hti i hil)) oR (H9 ?_); refine cD (fun g => ?_) fun g => ?_
  ·refine kE ?_; refine kH ?_; refine Ji O O O (enters_of Tryz.func203 m6 O) (zB (hti i hil)) oR (Ff ?_); refine Jq (show _ = Value.int .i64 (Vc (Wg k ins (i + 1))) from by rw [vL, qP, if_pos m9]; unfold ZA; rw [if_pos m9]; exact congrArg (Value.int .i64) (wrap_i64 N0 N0)) ?_; exact Em
  ·refine Gy ?_; refine Jq (show _ = Value.int .i64 (Vc (Wg k ins (i + 1))) from by rw [vL, qP, if_neg Mq]; exact congrArg (Value.int .i64) (wrap_i64 m5 m5)) ?_; exact Em
 ·refine NO ?_
  obtain rfl : m = i := by omega
  refine Kk 6 O ?_; exact Nz
theorem Jo1 (a b : List Bool) : W9 (a ++ b) = W9 a ++ W9 b := by unfold W9; rw [List.map_append]
theorem Jtg (l : List Bool) : (W9 l).length = l.length := by unfold W9; rw [List.length_map]
theorem Jo2 (l : List Bool) : (W9 l).all QE = true := by
 exact I4
set_option maxHeartbeats 1000000 in
theorem Jth (hv : v.In R) : ∀ (t : Ty) (dp : Int), t.In R → chk t dp = 0 → Qd v t = 0 → Yy v ≤ 20000 → PureR Tryz.prog 202 [t.val, v.val].toArray (J5 (Vj v t)) R := by
 have hv0 := hv
 induction hv with
 | @mk a b c d bits pb items pi pick ha hb hc hd hlb hsb hl hs hp hi ih =>
 intro t dp ht hck hfit hw
 have ht0 := ht
 cases ht with
 | @mk k n p ins hk hn hlt hst hit =>
 obtain ⟨hk8, ho, h6, hci⟩ := QZ hck
 obtain ⟨hf1, hf2, hf3⟩ := Wv hfit
 obtain ⟨m1, m2, m3, m4⟩ := qT hck hfit
 have hxl : ∀ i, i < items.length → W1 k pick i < ins.length := fun i hi => Zm (v := .mk a b c d bits pb items pi pick) hck hf2 hi
 have hwd : WOk [a, b, c, d] := ⟨rfl, fun x hx => by simp at hx; rcases hx with rfl | rfl | rfl | rfl <;> assumption⟩
 have hwl : wL items ≤ 20000 := by rw [Yy] at hw; omega
 have hrB := zT items k 0 ins items 0
 obtain ⟨TOT, hTOT⟩ : ∃ T, T = YD (Vc (Wg k ins items.length)).toNat (Qr items k 0 ins 0) [] [] := ⟨_, rfl⟩
 refine Jc Tryz.func202 O O fun w => NB fun r1 r2 => ?_; refine Goc 17 [1] O O (cD (fun g => ?_) fun g => ?_)
 refine Qy 6 [0, 1] O O (Jn O O O Jf7 (by rw [show n = ((n.toNat : Nat) : Int) by have := m3 m9; omega]; exact Jgu hwd (n := n.toNat) (by have := m3 m9; omega)) (H5 fun w1 hs1 => ?_)); rw [Vf, if_pos m9]; rfl
 ·refine NO ?_; refine cD (fun h8 => ?_) fun h8 => ?_
  refine gp ?_; refine Jn O O O Jf7 (Jgu hwd (n := 1) m7) (H5 fun w1 hs1 => ?_); rw [Vf, if_neg m9, if_pos m9]; rfl
  ·refine NO ?_; refine cD (fun g => ?_) fun g => ?_
   refine gp ?_; refine Ji O O O Jaw (vM m5 hsb) oR ?_; exact I6
   ·refine NO ?_; refine cD (fun g => ?_) fun g => ?_
    refine Qy 10 [0] O O (Jg3 (e := 4) (L0 := [_, _]) (xs := []) (row := none) (n := 0) (sz := 1) (b := 1) (List.Perm.refl _) O O O O hsb oR O O O O O m7 (by rw [Jtg, Nat.mul_one]) (Jo2 _) ⟨rfl, rfl⟩ m5 m5 fun row1 hr1 => ?_); rw [Nat.zero_add, List.nil_append] at hr1; rw [Nat.zero_add, List.nil_append]; refine Gu ?_; refine J0 (vs := [_]) (zs := [_]) (r := [_]) O O O O O O O O O mg O fun r3 => JA (L0 := _ :: [_, _]) (xs := W9 bits) (row := row1) (n := bits.length) (sz := 1) (b := 1) (news := [_]) List.perm_middle.symm O O O O (kn 0 O) O O O O O m7 O O O m7 hr1 m5 m5 fun ra cap sp hra => Jq (show _ = KA (bits ++ [true]).length (KY (some (ra, cap, sp))) from by rw [List.length_append]; rfl) (Ji (Rl := JE 4 (W9 bits ++ [Value.bool true]) (some (ra, cap, sp))) rfl rfl rfl Jaw (vM (l := bits ++ [true]) (by rw [List.length_append]; simp; omega) (by rw [Jo1, List.length_append]; exact JQ hra m7)) (fun q hq => .inl mY) ?_); exact I3
    ·refine NO ?_; refine cD (fun g => ?_) fun g => ?_
     refine HS ?_
     have hk0 : k = 8 := by assumption
     have h81 := (m4 hk0).1
     have hx8 := V3 (l := items) (i := 0) m5
     have hty8 := Qi (hxl 0 m5)
     have hix8 : W1 k pick 0 = pick.toNat := by unfold W1; rw [if_neg m5, if_pos hk0]
     rw [hix8] at hty8
     have hg8 := VG hf3 hx8.1
     have hw8 := Nat.le_trans (vN (a := a) (b := b) (c := c) (d := d) (bits := bits) (pb := pb) (pi := pi) (pick := pick) hx8.2) hw
     have hrec := ih _ hx8.2 (hi _ hx8.2) (JT k pick ins 0) (dp + 1) (hit _ hty8.2) (hci _ hty8.2) hg8 hw8
     have hpl8 := qN (X0 items 0) (JT k pick ins 0)
     refine gP ?_; refine JY (k := 1) O O O O O (Je O (kn 0 O) O O) (DB ?_); refine JY (k := 6) O O O O O (Je O (kn 1 O) O O) ?_
     refine HU ?_; refine JY (k := 8) O O O O O (Je O (kn 0 O) O O) (GK ?_); refine JY (k := 12) O O O O O (Je O (kn 0 O) O O) ?_
     refine Dt ?_; refine JW (k := 15) O O O O O Jr4 hrec oR (kz fun rv w1 hs1 => ?_); rfl
     ·refine FR ?_
      have h8 : ¬ k = 8 := by assumption
      have hx0 : ∀ i, i < items.length → W1 k 0 i < ins.length := fun i hi => by have := hxl i hi; unfold W1 at this ⊢; rw [if_neg h8] at this ⊢; exact this
      have hput : Vj (.mk a b c d bits pb items pi pick) (.mk k n p ins) = TOT := by rw [Vf, if_neg m9, if_neg m9, if_neg m9, if_neg m9, if_neg h8, Jdi h8, Jg2]; exact hTOT.symm
      have hbg := Jtf (m := items.length) ht0 hv0 h8 m5 hx0
      have hbl := qQ (Wg k ins items.length)
      rw [qR] at hbl
      obtain ⟨H, hH⟩ : ∃ H, H = (Vc (Wg k ins items.length)).toNat := ⟨_, rfl⟩
      have hHi : Vc (Wg k ins items.length) = (H : Int) := by omega
      rw [hHi] at hbg; rw [← hH] at hTOT
      have hHb : H ≤ 1351079888211148800 := by omega
      refine Qy 15 [1, 0, 0] O O (ND ?_); refine Ji O O O (enters_of Tryz.func262 m6 O) hbg oR (Ht ?_); refine Jw (σ := Nat × BS × BS) (fun q => q.1 ≤ items.length ∧ YD H (Qr (items.drop q.1) k 0 ins q.1) q.2.1 q.2.2 = TOT ∧ q.2.1.length + q.2.2.length + wB (Qr (items.drop q.1) k 0 ins q.1) ≤ 800000) (fun q => [(2, Wn r1), (3, Wn r2), (6, J5 q.2.1), (7, J5 q.2.2), (8, .int .i64 (H : Int)), (9, .int .i64 (q.1 : Int))]) (fun _ => [Xq r2 (.mk a b c d bits pb items pi pick), WG r1 (.mk k n p ins)]) (fun _ _ _ => True) (fun q => items.length - q.1) (0, [], []) ⟨Nat.zero_le _, hTOT.symm, by show 0 + 0 + wB (Qr items k 0 ins 0) ≤ 800000; omega⟩ (lK rfl) (List.Sublist.refl _) (fun _ _ h => h) ?_; rintro ⟨i, f, th⟩ ⟨hi1, hinv, hlen⟩; simp only at hi1 hinv hlen; change HC _ _ [(2, _), (3, _), (6, J5 f), (7, J5 th), (8, _), (9, .int .i64 (i : Int))] ((r2, _) :: (r1, _) :: []) _ _ _; refine Gw ?_; refine cD (fun g => ?_) fun g => ?_
      ·refine gk ?_
       have hii : i < items.length := by omega
       have hti1 := ht0.sub _ (Qi (hx0 i hii)).2
       have hix := V3 hii
       have hin := zC (v := .mk a b c d bits pb items pi pick) (i := i) (y := JT k 0 ins i) ht0 hv0 (fun e => absurd e h8) (by have := (Qi (hx0 i hii)).1; unfold W1 at this ⊢; rw [if_neg h8] at this ⊢; exact this)
       have hbi : PureR Tryz.prog 202 [(JT k 0 ins i).val, (X0 items i).val].toArray (J5 (Vj (X0 items i) (JT k 0 ins i))) R := by
        have hty := (Qi (hx0 i hii)).2
        have hg := VG hf3 hix.1
        rw [Nat.zero_add, qS h8] at hg; exact ih _ hix.2 (hi _ hix.2) _ (dp + 1) (hit _ hty) (hci _ hty) hg (Nat.le_trans (vN hix.2) hw)
       rw [VY hix.1, Qr, YD] at hinv; rw [VY hix.1, Qr, jP] at hlen
       obtain ⟨S, hS⟩ : ∃ S, S = Vj (X0 items i) (JT k 0 ins i) := ⟨_, rfl⟩
       simp only [← hS] at hinv hlen; rw [← hS] at hbi
       have hle4 := zI (H + th.length)
       refine Qy 4 [1, 0] O O (Ji O O O Jr9 hin oR (gz fun r9 => ?_)); refine ki ?_; refine JK 8 m6 m6 (FN ?_)
       refine Hn ?_; refine Ja O O O (Je O (kn 1 O) O O) (Nm ?_)
       refine kW ?_; refine Ja O O O (QV oR O hs hix.1 O O) (Vt O O O Jr4 hbi oR (NP ?_)); refine Ge ?_; refine kH ?_; refine Ji O O O Jsa (ZT hti1) oR (H9 ?_); refine cD (fun g => ?_) fun g => ?_
       ·refine Gy ?_; refine LR O (KB (a := f) (b := S) O O m5) (gY ?_); refine NX ?_
        (rw [if_pos m9] at hinv
         exact Jo (i + 1, f ++ S, th) ⟨by simp only; omega, hinv, by simp only [List.length_append]; omega⟩ mh (lK rfl) (.cons _ (List.Sublist.refl _)) (fun _ _ h => h))
       ·refine gn ?_; refine gt ?_
        refine Ff ?_; refine Jq nt (Jn O O O (enters_of Tryz.func264 m6 O) (Jte (n := H + th.length) m5) (LR O (KB (a := f) (b := (jZ (H + th.length) 4).1) O O m5) (Gu ?_))); refine LR O (KB (a := th) (b := S) O O m5) (gY ?_); refine NX ?_
        (rw [if_neg Mq] at hinv
         exact Jo (i + 1, f ++ (jZ (H + th.length) 4).1, th ++ S) ⟨by simp only; omega, hinv, by simp only [List.length_append]; omega⟩ mh (lK rfl) (.cons _ (List.Sublist.refl _)) (fun _ _ h => h))
      ·refine NO ?_
       have hin : i = items.length := by omega
       rw [hin, List.drop_length, Qr, YD] at hinv; refine Gy ?_; refine LR O (KB (a := f) (b := th) O O m5) (DE fun w1 hs1 => ?_); rw [hput, ← hinv]; rfl
end Go.Proofs.YtfaagelglpgpkaaGreatDoor
