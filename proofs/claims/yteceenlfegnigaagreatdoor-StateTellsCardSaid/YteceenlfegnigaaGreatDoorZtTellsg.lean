import Derived.Test.YteceenlfegnigaaGreatDoorZtTellsf
set_option maxRecDepth 100000
namespace Go.Proofs.YteceenlfegnigaaGreatDoor
set_option linter.all false
open Go.SL Go.RowKit Go.Shelf
open Go.Proofs (Enters enters_of)
theorem L_StateTells {R : Jr} {s o : StL} (hs : s.In R) (ho : o.In R) (addr key : BS) : PureR Tryz.prog 3 [s.val, o.val, J2 addr, J2 key].toArray (.bool true) R := by
  have g1 := Jpa hs addr
  have g2 := Js0 hs addr
  have ha := Jgz hs addr
  generalize VD s addr = a at g1 g2 ha
  generalize VS s addr = fb at g1 g2
  have g3 := Jpn hs
  have g4 := Wx hs
  generalize Qv s.er = ce at g3 g4
  have g5 := Js2 hs ho
  have g6 := Jdq hs ho
  generalize decide (s.er = o.er) = sm at g5 g6
  have g7 := Jsz ha key
  have g8 := Jfh ha key
  generalize KX a.er key = sl at g7 g8
  have f1 := Jh6 hs
  have f2 := Jh6 ho
  generalize Jpe s.er = b1 at f1
  generalize Jpe o.er = b2 at f2
  have g9 : PureR Tryz.prog 16 [a.val, a.val].toArray (.bool true) R := by have := Y6 ha ha; rw [decide_eq_true rfl] at this; exact this
  refine Je Tryz.func3 rfl rfl fun w => ?_; refine sR fun _ hK1 => ?_; refine Qi (cs := (s).cells.toArray) rfl rfl rfl rfl fun r1 => ?_; refine Qi (cs := (o).cells.toArray) rfl rfl rfl rfl fun r2 => ?_; refine Ji rfl (nK hK1 ?_); refine sR fun _ hK2 => ?_; refine JD rfl rfl rfl (enters_of Tryz.func11 (by kernel_rfl) rfl) Jj7 ?_; refine Ji rfl (nK hK2 ?_); refine sQ fun _ hK3 => sR fun _ hK4 => ?_; refine LS 2 [] rfl rfl (nK hK4 ?_); refine Jc rfl (fun h5 => ?_) (fun h5 => ?_)
  try exact Bool.noConfusion h5
  · try simp only [ZZ] at h5
    refine Jf (hK3 ?_); refine sR fun _ hK7 => ?_; refine LR rfl (Jq (xs := (s).cells) (n := 1) rfl (kn 1 rfl) rfl rfl rfl) ?_; refine Jh rfl rfl rfl (enters_of Tryz.func12 (by kernel_rfl) rfl) f1 (fun q hq => Or.inr hq) ?_; refine Ji rfl ?_
    refine JA 24 rfl (fun hb8 => ?_) (fun hb8 => ?_) <;> (try simp only [ZZ] at hb8) <;> first | (refine LR rfl (Jq (xs := (o).cells) (n := 1) rfl (kn 0 rfl) rfl rfl rfl) ?_) | (refine LK rfl ?_)
    all_goals first
      | (refine Jh rfl rfl rfl (enters_of Tryz.func12 (by kernel_rfl) rfl) f2 (fun q hq => Or.inr hq) ?_)
      | (refine LK rfl ?_)
    all_goals refine LW 2 [] rfl rfl ?_
    all_goals refine Jg ?_
    all_goals (
     refine hK7 (sQ fun _ hK10 => ?_); refine sR fun _ hK11 => LS 3 [] rfl rfl ?_
     first
       | (refine LK rfl ?_)
       | (refine JA 30 rfl (fun hb12 => ?_) (fun hb12 => ?_) <;> (try simp only [ZZ] at hb12) <;> first | (refine Ji rfl ?_) | (refine LK rfl ?_))
     all_goals first
       | (refine LR rfl (JT rfl rfl) ?_)
       | (refine LK rfl ?_)
     all_goals refine LW 3 [] rfl rfl ?_
     all_goals first
       | (refine LK rfl ?_)
       | (refine JA 35 rfl (fun hb15 => ?_) (fun hb15 => ?_) <;> (try simp only [ZZ] at hb15) <;> first | (refine Ji rfl ?_) | (refine LK rfl ?_))
     all_goals first
       | (refine LR rfl (JT rfl rfl) ?_)
       | (refine LK rfl ?_)
     all_goals refine LW 2 [] rfl rfl ?_
     all_goals refine Jg ?_
     all_goals (
      refine hK11 ?_; refine Jc rfl (fun h18 => ?_) (fun h18 => ?_)
      try simp only [ZZ] at h18
      refine sR fun _ hK19 => LS 2 [] rfl rfl (nK hK19 ?_); refine Jb (Jd ?_); refine pT rfl rfl rfl fun w1 hs1 => ?_; exact ⟨rfl, hs1.keep⟩
      · try exact Bool.noConfusion h18
        all_goals try simp only [ZZ] at h18
        all_goals (
         refine Jf (hK10 ?_); refine sR fun _ hK20 => ?_; refine LR rfl (Jq (xs := (s).cells) (n := 1) rfl (kn 1 rfl) rfl rfl rfl) ?_; refine Jh rfl rfl rfl (enters_of Tryz.func13 (by kernel_rfl) rfl) g3 (fun q hq => Or.inr hq) ?_; refine Ji rfl (nK hK20 ?_); refine sR fun _ hK21 => ?_; refine LR rfl (Jq (xs := (s).cells) (n := 1) rfl (kn 1 rfl) rfl rfl rfl) ?_; refine Ji rfl (Jh rfl rfl rfl (enters_of Tryz.func14 (by kernel_rfl) rfl) g1 (fun q hq => Or.inr hq) (LS 3 [] rfl rfl ?_)); refine LN rfl fun r1 => ?_; refine Jz (k := 0) (n := 8) (ys := (a).cells) rfl rfl rfl rfl rfl rfl rfl rfl rfl ?_; refine Ji rfl (nK hK21 ?_); refine sR fun _ hK22 => ?_; refine LR rfl (Jq (xs := (s).cells) (n := 1) rfl (kn 2 rfl) rfl rfl rfl) ?_; refine Ji rfl (Jh rfl rfl rfl (enters_of Tryz.func15 (by kernel_rfl) rfl) g2 (fun q hq => Or.inr hq) (LS 3 [] rfl rfl ?_)); refine LN rfl fun r2 => ?_; refine Jz (k := 0) (n := 8) (ys := (a).cells) rfl rfl rfl rfl rfl rfl rfl rfl rfl ?_; refine Ji rfl (nK hK22 ?_); refine sR fun _ hK23 => ?_; refine LR rfl (Jq (xs := (a).cells) (n := 8) rfl (kn 1 rfl) rfl rfl rfl) ?_; refine LR rfl (Jq (xs := (a).cells) (n := 8) rfl (kn 0 rfl) rfl rfl rfl) ?_; refine Jh rfl rfl rfl Jqj g9 (fun q hq => Or.inr hq) ?_; refine Ji rfl (nK hK23 ?_); refine sR fun _ hK24 => ?_; refine LR rfl (Jq (xs := (a).cells) (n := 8) rfl (kn 0 rfl) rfl rfl rfl) ?_; refine Ji rfl (Jh rfl rfl rfl (enters_of Tryz.func17 (by kernel_rfl) rfl) g7 (fun q hq => Or.inr hq) (Ji rfl ?_)); refine nK hK24 (sR fun _ hK25 => ?_); refine LR rfl (Jq (xs := (s).cells) (n := 1) rfl (kn 3 rfl) rfl rfl rfl) ?_; refine LR rfl (Jq (xs := (o).cells) (n := 1) rfl (kn 2 rfl) rfl rfl rfl) ?_; refine Jh rfl rfl rfl (enters_of Tryz.func18 (by kernel_rfl) rfl) g5 (fun q hq => Or.inr hq) ?_; refine Ji rfl (nK hK25 ?_); refine sR fun _ hK26 => LS 2 [] rfl rfl ?_; refine LR rfl (Jq (xs := (s).cells) (n := 1) rfl (kn 3 rfl) rfl rfl rfl) ?_; refine Jh rfl rfl rfl Jed g4 (fun q hq => Or.inr hq) ?_; refine LS 2 [] rfl rfl ?_; refine Jy (Zi (show (ce == ce) = true from by simp)) ?_; refine LS 8 [] rfl rfl ?_; refine Jy (Zi (show (fb == fb) = true from by simp)) ?_; refine LS 2 [] rfl rfl ?_; refine LR rfl (Jq (xs := (a).cells) (n := 8) rfl (kn 1 rfl) rfl rfl rfl) ?_; refine Ji rfl (Jh rfl rfl rfl Jul g8 (fun q hq => Or.inr hq) ?_); refine Ji rfl (LR rfl (QT (a := sl) (b := sl) rfl rfl) (Jy (Zi (show (decide (sl = sl)) = true from by simp)) ?_)); refine LS 2 [] rfl rfl ?_; refine LR rfl (Jq (xs := (s).cells) (n := 1) rfl (kn 3 rfl) rfl rfl rfl) ?_; refine LR rfl (Jq (xs := (o).cells) (n := 1) rfl (kn 2 rfl) rfl rfl rfl) ?_; refine Jh rfl rfl rfl (enters_of Tryz.func21 (by kernel_rfl) rfl) g6 (fun q hq => Or.inr hq) ?_; refine LS 2 [] rfl rfl ?_; refine Jy (Zi (show (sm == sm) = true from by simp)) ?_; refine LS 2 [] rfl rfl (nK hK26 ?_); refine Jb (pT rfl rfl rfl fun w1 hs1 => ?_); exact ⟨rfl, hs1.keep⟩
         skip)
      skip)
     skip)
end Go.Proofs.YteceenlfegnigaaGreatDoor
