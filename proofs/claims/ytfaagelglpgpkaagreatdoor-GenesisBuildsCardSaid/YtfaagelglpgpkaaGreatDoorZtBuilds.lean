import Derived.Test.YtfaagelglpgpkaaGreatDoorZtBuildsg
set_option maxRecDepth 100000
namespace Go.Proofs.YtfaagelglpgpkaaGreatDoor
set_option linter.all false
open Go.SL Go.RowKit Go.Shelf
theorem L_GenesisBuilds {R : Jm} {g : GenL} (hg : g.In R) : PureR Tryz.prog 3 [g.val].toArray (.bool true) R := by
 refine Jb Tryz.func3 rfl rfl fun w => ?_; refine JD ?_; refine Jq 2 rfl ?_; refine JR (cs := g.cells.toArray) rfl rfl rfl rfl fun r1 => ?_; refine JJ 5 rfl ?_; refine Ji rfl rfl rfl (enters_of Tryz.func9 (by kernel_rfl) rfl) Jmj oR ?_; refine JI 10 rfl ?_; refine J0 rfl (fun h5 => ?_) (fun h5 => ?_)
 try exact Bool.noConfusion h5
 ·try simp only [ZZ] at h5
  refine Jq 4 rfl ?_; refine LR rfl (Jd (xs := g.cells) (n := 20) rfl (kn 0 rfl) rfl rfl rfl) ?_; refine Ji rfl rfl rfl (enters_of Tryz.func10 (by kernel_rfl) rfl) (Jza hg) oR ?_; refine JI 10 rfl ?_; refine cD (fun h10 => ?_) fun h10 => ?_
  refine Kh 8 rfl ?_; refine pT rfl rfl rfl fun w1 hs1 => ?_; exact ⟨rfl, hs1.keep⟩
  ·refine JK 3 rfl ?_
   have hfw : Jrv g = true := by simp_all
   have hf : ZP g.ac = true := (Bool.and_eq_true_iff.1 hfw).1
   have hl := yA hf
   refine Jq 1 rfl ?_; refine LR rfl (Jd (xs := g.cells) (n := 20) rfl (kn 0 rfl) rfl rfl rfl) ?_; refine Ke rfl rfl rfl Jf3 (Y9 hg (by omega)) oR fun x => ?_; refine Kk List.perm_append_comm ?_; change HL _ _ ((20, .tuple #[x.s.val, .int .i64 x.f, .int .i64 x.err]) :: _) ((r1, _) :: x.L) _ _ _ _; refine LS 4 [] rfl rfl ?_; refine LN rfl fun r5 => ?_; refine Jh (k := 0) (n := 1) (ys := x.s.cells) rfl rfl rfl rfl rfl rfl rfl rfl rfl ?_; refine JJ 6 rfl ?_; refine LR rfl (Jd (xs := g.cells) (n := 20) rfl (kn 1 rfl) rfl rfl rfl) ?_; refine Ke rfl rfl rfl (enters_of Tryz.func12 (by kernel_rfl) rfl) (Jsh hg (by omega)) oR fun y => ?_; refine Kk (Qz y.L [_, _] (x.L)) ?_; change HL _ _ ((25, y.bv) :: _) ((r5, _) :: (r1, _) :: (y.L ++ (x.L))) _ _ _ _
   obtain ⟨e1, e23⟩ := Prod.mk.inj (x.eq.trans y.eq.symm)
   obtain ⟨e2, e3⟩ := Prod.mk.inj e23
   refine LN rfl fun r8 => ?_; refine Jh (k := 0) (n := 3) (ys := y.cs) rfl rfl rfl rfl rfl rfl rfl rfl rfl ?_; refine JJ 4 rfl ?_; refine LR rfl (Jd (xs := x.s.cells) (n := 1) rfl (kn 1 rfl) rfl rfl rfl) ?_
   refine LS 2 [0] rfl rfl ?_; refine J3 (show _ = y.s.val from rfl) ?_; refine Ji rfl rfl rfl (enters_of Tryz.func13 (by kernel_rfl) rfl) (Jvs (R := y.L ++ (x.L ++ R)) (x.ok.mono fun q hq => List.mem_append_right _ hq) (y.ok.mono fun q hq => (List.mem_append.1 hq).elim (fun h => List.mem_append_left _ h) fun h => List.mem_append_right _ (List.mem_append_right _ h))) (fun q hq => (List.mem_append.1 hq).elim (fun h => Or.inl (List.mem_cons_of_mem _ (List.mem_cons_of_mem _ (List.mem_cons_of_mem _ (List.mem_append_left _ h))))) (fun hq => (List.mem_append.1 hq).elim (fun h => Or.inl (List.mem_cons_of_mem _ (List.mem_cons_of_mem _ (List.mem_cons_of_mem _ (List.mem_append_right _ h))))) (fun hq => Or.inr hq))) ?_; refine J3 (Jvq (decide_eq_true e1)) ?_; refine Xf 14 [0] rfl rfl ?_; refine J3 (show _ = Value.bool true from jK (Jxl e2)) ?_; refine Xf 6 [0] rfl rfl ?_; refine J3 (show _ = Value.bool true from jK (Jxl e3)) ?_; refine Jx 5 rfl ?_; refine pT rfl rfl rfl fun w1 hs1 => ?_; exact ⟨rfl, hs1.keep⟩
end Go.Proofs.YtfaagelglpgpkaaGreatDoor
