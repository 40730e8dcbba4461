import Derived.Test.YtfaagelglpgpkaaGreatDoorZtClaimsh
set_option maxRecDepth 100000
namespace Go.Proofs.YtfaagelglpgpkaaGreatDoor
set_option linter.all false
open Go.SL Go.RowKit Go.Shelf
variable {g : FuncId} {R : Jx} {xs : List AcL} {w : World}
theorem L_GenesisClaims {g : GenL} (hg : g.In R) : PureR Tryz.prog 4 [g.val].toArray (.bool true) R := by
  have hacs := hg.st.seg
  obtain ⟨⟨hv, hi⟩, hh⟩ : ∃ p, p = vg g.ts g.time g.rc g.ac := ⟨_, rfl⟩
  obtain ⟨⟨cv, cj⟩, hc⟩ : ∃ p, p = Z0 g.ts g.time g.rc g.ac := ⟨_, rfl⟩
  refine Jc Tryz.func4 O O fun w => gD fun r1 => ?_; refine kL ?_; refine Ji O O O (enters_of Tryz.func9 m6 O) Jp3 oR (Ht ?_); refine J7 O (fun h5 => ?_) (fun h5 => ?_)
  try exact Bool.noConfusion h5
  · try simp only [ZZ] at h5
    refine gZ ?_; refine kN ?_; refine Ji O O O (enters_of Tryz.func10 m6 O) (J20 hg) oR (JH 9 O ?_)
    refine Jv 20 O (fun gb => ?_) (fun gb => ?_) <;> (try simp only [ZZ] at gb) <;> first | (refine LR O (J6 O O O) ?_) | (refine LK O ?_)
    all_goals refine HP ?_
    all_goals first | refine LR O (Jy O hacs O) ?_ | refine LK O ?_
    all_goals refine Fs ?_
    all_goals first | refine LK O ?_ | (refine Jv 25 O (fun gb => ?_) (fun gb => ?_) <;> (try simp only [ZZ] at gb) <;> first | (refine LR O (J6 O O O) ?_) | (refine LK O ?_))
    all_goals refine HP ?_
    all_goals first | refine LR O (Jy O hacs O) ?_ | refine LK O ?_
    all_goals (
     refine HX ?_; refine J7 O (fun h20 => ?_) (fun h20 => ?_)
     · try exact Bool.noConfusion h20
       all_goals try simp only [ZZ] at h20
       all_goals (
        refine GG ?_; exact Nz
        skip)
     · try exact Bool.noConfusion h20
       all_goals try simp only [ZZ] at h20
       all_goals (
        refine GU ?_
        have hfw : Jvw g = true := by simp_all
        have hf : je g.ac = true := (Bool.and_eq_true_iff.1 hfw).1
        have hl := jh hf
        refine HY ?_; refine kN ?_; refine Ji O O O (enters_of Tryz.func14 m6 O) (Jwf hg hf) oR (Jq (congrArg Wm hh.symm) (JH 9 O (kN ?_))); refine Ji O O O (enters_of Tryz.func15 m6 O) (J0a hg hf) oR (Jq (congrArg Wm hh.symm) (JH 9 O (kN ?_))); refine Ji O O O (enters_of Tryz.func16 m6 O) (Jnl hg hf) oR (Jq (congrArg Wm hc.symm) (JH 9 O (kN ?_))); refine Ji O O O (enters_of Tryz.func17 m6 O) (Jwg hg hf) oR (Jq (congrArg Wm hc.symm) (JH 13 O (LR O (W7 O O) (Jq (show _ = Value.bool true from YI (decide_eq_true rfl)) (LS 5 [] rfl rfl (Jq (show _ = Value.bool true from YI (J1j rfl)) (LS 4 [] rfl rfl (LR rfl (W7 rfl rfl) (Jq (show _ = Value.bool true from YI (decide_eq_true rfl)) (LS 5 [] rfl rfl (Jq (show _ = Value.bool true from YI (J1j rfl)) (gy ?_)))))))))))); exact Nz
        skip)
     skip)
end Go.Proofs.YtfaagelglpgpkaaGreatDoor
