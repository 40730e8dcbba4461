import Derived.Test.YteceenlfegnigaaGreatDoorZtBackf
set_option maxRecDepth 100000
namespace Go.Proofs.YteceenlfegnigaaGreatDoor
set_option linter.all false
open Go.SL Go.RowKit Go.Shelf
open Go.Proofs (Enters enters_of)
theorem L_StateBack {R : Jo} {s : StL} (hs : s.In R) (b : BS) : PureR Tryz.prog 7 [s.val, J3 b].toArray (.bool true) R := by
  have f1 := Juh hs
  have g1 := fun h : Jbn s.er = true => ZU hs (fun hc => Jq9 h hc)
  have k1 := Jla (l := s.er)
  have k2 := fun (h : Jbn s.er = true) (h2 : (Qs s.er).2 = 0) => Jez h2 (Jgk hs (yU h2).1) (Jq9 h (yU h2).1)
  have k3 := Jlb (s := b)
  have k4 := Je0 (s := b)
  have g3 := qQ b
  generalize Jbn s.er = b1 at f1 g1 k2
  generalize hbe : Qs s.er = p1 at g1 k1 k2
  obtain ⟨bt, be⟩ := p1
  simp only at k1 k2
  have g2 := qQ bt
  generalize Vf bt = p2 at g2 k2
  generalize Vf b = p3 at g3 k3 k4
  refine Je Tryz.func7 rfl rfl fun w => ?_; refine sR fun K1 hK1 => ?_; refine Va (cs := (s).cells.toArray) rfl rfl rfl rfl fun r1 => ?_; refine Ji rfl (nK hK1 ?_); clear hK1 K1; refine sR fun K2 hK2 => ?_; refine JF rfl rfl rfl (enters_of Tryz.func11 (by kernel_rfl) rfl) Jk9 ?_; refine Ji rfl (nK hK2 ?_); clear hK2 K2; refine sQ fun K3 hK3 => sR fun K4 hK4 => ?_; refine LS 2 [] rfl rfl (nK hK4 ?_); clear hK4 K4; refine Jc rfl (fun h5 => ?_) (fun h5 => ?_)
  try exact Bool.noConfusion h5
  · try simp only [ZZ] at h5
    refine Jg (hK3 ?_); clear hK3 K3; refine sR fun K7 hK7 => ?_; refine LR rfl (Jq (xs := (s).cells) (n := 1) rfl (kn 0 rfl) rfl rfl rfl) ?_; refine Jh rfl rfl rfl (enters_of Tryz.func12 (by kernel_rfl) rfl) f1 (fun q hq => Or.inr hq) ?_; refine Ji rfl (nK hK7 ?_); clear hK7 K7; refine sQ fun K8 hK8 => sR fun K9 hK9 => ?_; refine LS 3 [] rfl rfl ?_
    refine J6 22 rfl (fun hb10 => ?_) (fun hb10 => ?_) <;> (try simp only [ZZ] at hb10) <;> first | (refine Ji rfl ?_) | (refine LK rfl ?_)
    all_goals first
      | (refine LR rfl (Ke rfl rfl) ?_)
      | (refine LK rfl ?_)
    all_goals refine LW 2 [] rfl rfl ?_
    all_goals refine Jf ?_
    all_goals (
     refine hK9 ?_; clear hK9 K9; refine Jc rfl (fun h13 => ?_) (fun h13 => ?_)
     try simp only [ZZ] at h13
     refine sR fun K14 hK14 => LS 2 [] rfl rfl (nK hK14 ?_); clear hK14 K14; refine Jb (Jd ?_); clear hK8 K8; refine pT rfl rfl rfl fun w1 hs1 => ?_; exact ⟨rfl, hs1.keep⟩
     · try exact Bool.noConfusion h13
       all_goals try simp only [ZZ] at h13
       all_goals (
        refine Jg (hK8 ?_); clear hK8 K8; refine sR fun K15 hK15 => ?_; refine LR rfl (Jq (xs := (s).cells) (n := 1) rfl (kn 0 rfl) rfl rfl rfl) ?_; refine Jh rfl rfl rfl Jrp (g1 (by simp_all)) (fun q hq => Or.inr hq) ?_; refine LS 5 [] rfl rfl (nK hK15 ?_); clear hK15 K15; refine sR fun K16 hK16 => Ji rfl (Qd (Rl := []) rfl rfl rfl Jv3 (g2) (fun q hq => nomatch hq) fun x => (KC List.perm_append_comm ?_))
        obtain ⟨xs, xe, xL, xok, xeq⟩ := x
        change HL _ _ ((35, .tuple #[xs.val, .int .i64 xe]) :: _) (_ :: xL) _ _ _ _
        have xok : xs.In xL := by simpa using xok
        have k5 : be = 0 → xs.er = s.er ∧ xe = 0 := fun h => Prod.mk.inj (xeq.trans (k2 (by simp_all) h))
        refine LS 3 [] rfl rfl ?_; refine LN rfl fun r1 => ?_; refine Jz (k := 0) (n := 1) (ys := (xs).cells) rfl rfl rfl rfl rfl rfl rfl rfl rfl ?_; refine Ji rfl (nK hK16 ?_); clear hK16 K16; refine sQ fun K17 hK17 => sR fun K18 hK18 => ?_; refine LS 3 [] rfl rfl ?_
        refine J6 40 rfl (fun hb19 => ?_) (fun hb19 => ?_) <;> (try simp only [ZZ] at hb19) <;> first | (refine Ji rfl ?_) | (refine LK rfl ?_)
        all_goals first
          | (refine LR rfl (Y2 (a := bt) (b := []) rfl rfl) ?_; refine Jy (Zy (show (!decide (bt = [])) = false from by rw [k1 (by simp_all)]; rfl)) ?_)
          | (refine LK rfl ?_)
        all_goals refine LW 2 [] rfl rfl ?_
        all_goals (refine Ji rfl ?_)
        all_goals (refine JY rfl ?_)
        all_goals (refine Ji rfl ?_)
        all_goals (refine J6 47 rfl (fun hb24 => ?_) (fun hb24 => ?_) <;> (try simp only [ZZ] at hb24) <;> first | (refine Ji rfl ?_) | (refine LK rfl ?_))
        all_goals refine LW 2 [] rfl rfl ?_
        all_goals first
          | (refine LK rfl ?_)
          | (refine J6 50 rfl (fun hb27 => ?_) (fun hb27 => ?_) <;> (try simp only [ZZ] at hb27) <;> first | (refine LR rfl (Jq (xs := (s).cells) (n := 1) rfl (kn 1 rfl) rfl rfl rfl) ?_) | (refine LK rfl ?_))
        all_goals first
          | (refine LR rfl (Jq (xs := (xs).cells) (n := 1) rfl (kn 0 rfl) rfl rfl rfl) ?_)
          | (refine LK rfl ?_)
        all_goals first
          | (refine Jh (Rl := xL ++ R) rfl rfl rfl Jv2 (yP (R := xL ++ R) (hs.mono fun q hq => List.mem_append_right _ hq) (xok.mono fun q hq => List.mem_append_left _ hq)) (fun q hq => by simp only [List.mem_append] at hq; rcases hq with h | h <;> first | exact Or.inr h | exact Or.inl (by simp [h])) ?_; refine Jy (Zy (show decide (s.er = xs.er) = true from decide_eq_true ((k5 (by simp_all)).1).symm)) ?_)
          | (refine LK rfl ?_)
        all_goals refine LW 3 [] rfl rfl ?_
        all_goals (refine LR rfl (j4 rfl rfl) ?_)
        all_goals refine Jf ?_
        all_goals (
         refine hK18 ?_; clear hK18 K18; refine Jc rfl (fun h33 => ?_) (fun h33 => ?_)
         · try exact Bool.noConfusion h33
           all_goals try simp only [ZZ] at h33
           all_goals (
            refine sR fun K34 hK34 => Ji rfl (nK hK34 ?_); clear hK34 K34; refine Jb (Jd ?_); clear hK17 K17; refine pT rfl rfl rfl fun w1 hs1 => ?_; exact absurd (k5 (by assumption)).2 (by assumption)
            skip)
         · try exact Bool.noConfusion h33
           all_goals try simp only [ZZ] at h33
           all_goals (
            refine Jg (hK17 ?_); clear hK17 K17; refine sR fun K35 hK35 => Ji rfl (Qd (Rl := []) rfl rfl rfl Jv3 (g3) (fun q hq => nomatch hq) fun y => (KC (yT _ [_, _] _) ?_))
            obtain ⟨ys, ye, yL, yok, yeq⟩ := y
            change HL _ _ ((60, .tuple #[ys.val, .int .i64 ye]) :: _) (_ :: _ :: (yL ++ xL)) _ _ _ _
            have yok : ys.In yL := by simpa using yok
            subst yeq
            dsimp only at k3 k4
            have hl : b.length ≤ 2500 := by omega
            have k6 : ye = 0 → Qs ys.er = (b, 0) ∧ Qa ys.er = 0 ∧ wV (VI ys.er) ≤ 20000 := fun h => k4 h hl
            have k7 : Qa ys.er = 0 → wV (VI ys.er) ≤ 20000 := fun hc => (Classical.em (ye = 0)).elim (fun h => (k6 h).2.2) (fun h => by rw [k3 h]; decide +kernel)
            refine LS 3 [] rfl rfl ?_; refine LN rfl fun r2 => ?_; refine Jz (k := 0) (n := 1) (ys := (ys).cells) rfl rfl rfl rfl rfl rfl rfl rfl rfl ?_; refine Ji rfl (nK hK35 ?_); clear hK35 K35; refine sR fun K36 hK36 => ?_; refine LR rfl (Jq (xs := (ys).cells) (n := 1) rfl (kn 0 rfl) rfl rfl rfl) ?_; refine Jh (Rl := yL) rfl rfl rfl Jrp (ZU (R := yL) yok k7) (fun q hq => .inl (by simp [hq])) ?_; obtain ⟨⟨ct, ce⟩, hct⟩ : ∃ p, p = Qs ys.er := ⟨_, rfl⟩; rw [← hct]; refine LS 5 [] rfl rfl (nK hK36 ?_); clear hK36 K36; refine sR fun K37 hK37 => LS 5 [] rfl rfl ?_
            refine J6 72 rfl (fun hb41 => ?_) (fun hb41 => ?_) <;> (try simp only [ZZ] at hb41) <;> first | (refine Ji rfl ?_) | (refine LK rfl ?_)
            all_goals refine LW 2 [] rfl rfl ?_
            all_goals first
              | (refine LK rfl ?_)
              | (refine J6 75 rfl (fun hb44 => ?_) (fun hb44 => ?_) <;> (try simp only [ZZ] at hb44) <;> first | (refine Ji rfl ?_) | (refine LK rfl ?_))
            all_goals refine LW 1 [] rfl rfl ?_
            all_goals first
              | (refine LR rfl (VD (a := ct) (b := b) rfl rfl) ?_; refine Jy (Zy (show decide (ct = b) = true from decide_eq_true (by have h := (k6 (by simp_all)).1; rw [← hct] at h; exact (Prod.mk.inj h).1))) ?_)
              | (refine LK rfl ?_)
            all_goals refine LW 2 [] rfl rfl ?_
            all_goals first
              | (refine LR rfl (Jq (xs := (ys).cells) (n := 1) rfl (kn 0 rfl) rfl rfl rfl) ?_)
              | (refine LK rfl ?_)
            all_goals first
              | (refine Jh (Rl := yL) rfl rfl rfl Jfh (WC (R := yL) yok) (fun q hq => .inl (by simp [hq])) ?_; refine Jy (congrArg (Value.int .i64) (show Qa ys.er = 0 from (k6 (by simp_all)).2.1)) ?_)
              | (refine LK rfl ?_)
            all_goals refine LW 3 [] rfl rfl ?_
            all_goals (refine LR rfl (j3 rfl rfl) ?_)
            all_goals refine LW 4 [] rfl rfl ?_
            all_goals first
              | (refine LK rfl ?_)
              | (refine J6 90 rfl (fun hb57 => ?_) (fun hb57 => ?_) <;> (try simp only [ZZ] at hb57) <;> first | (refine LR rfl (Jq (xs := (ys).cells) (n := 1) rfl (kn 0 rfl) rfl rfl rfl) ?_) | (refine LK rfl ?_))
            all_goals first
              | (refine LR rfl (JK (r := [_]) rfl rfl) ?_)
              | (refine LK rfl ?_)
            all_goals first
              | (refine Jh (Rl := yL) rfl rfl rfl Jv2 (yP (R := yL) yok (t := st0L) qB) (fun q hq => .inl (by simp [hq])) ?_; refine Jy (Zy (show decide (ys.er = []) = true from decide_eq_true (k3 (by simp_all)))) ?_)
              | (refine LK rfl ?_)
            all_goals refine LW 3 [] rfl rfl ?_
            all_goals refine Jf ?_
            all_goals (
             refine hK37 ?_; clear hK37 K37; refine Jb (pT rfl rfl rfl fun w1 hs1 => ?_)
             first
               | exact ⟨rfl, hs1.keep⟩
               | exact absurd (show be = 0 by assumption) (by assumption)
               | exact absurd (congrArg Prod.snd (hct.trans (k6 (by assumption)).1)) (by assumption)
             skip)
            skip)
         skip)
        skip)
     skip)
end Go.Proofs.YteceenlfegnigaaGreatDoor
