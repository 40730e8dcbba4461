import Derived.Test.YtfaagelglpgpkaaGreatDoorZtSealedf
set_option maxRecDepth 100000
namespace Go.Proofs.YtfaagelglpgpkaaGreatDoor
set_option linter.all false
open Go.SL Go.RowKit Go.Shelf
theorem Jku {v : Int} {a b c : BS} {n : Nat} (ha : a.length = 32) (hb : b.length = 32) (hc : c.length = 32) (h : v = 0 ∧ n = 0 ∨ v = 1) : (VU v [a, b, c] n).2 = 0 := by
 have e : (VC v [a, b, c] n).2 = 0 := by
  unfold VC
  rw [if_neg (by omega), if_neg]
  rintro (h1 | h1)
  ·simp [yO, ha, hb, hc] at h1
  ·omega
 unfold VU
 rw [if_pos e]
theorem L_GenesisSealed {R : Ji} {g : GenL} (hg : g.In R) : PureR Tryz.prog 5 [g.val].toArray (.bool true) R := by
  have hacs := hg.st.seg
  have hn0 : g.rc.number < 18446744073709551616 := hg.rc.1
  obtain ⟨⟨hv, hi⟩, hh⟩ : ∃ p, p = qu g.ts g.time g.rc g.ac := ⟨_, rfl⟩
  obtain ⟨⟨cv, cj⟩, hc⟩ : ∃ p, p = YD g.ts g.time g.rc g.ac := ⟨_, rfl⟩
  refine Ja Tryz.func5 rfl rfl fun w => ?_; refine J9 ?_; refine Jq 2 rfl ?_; refine Kk (cs := g.cells.toArray) rfl rfl rfl rfl fun r1 => ?_; refine JF 5 rfl ?_; refine Je rfl rfl rfl (enters_of Tryz.func9 (by kernel_rfl) rfl) Jkt oR ?_; refine JN 10 rfl ?_; refine J0 rfl (fun h5 => ?_) (fun h5 => ?_)
  try exact Bool.noConfusion h5
  · try simp only [ZZ] at h5
    refine Jq 4 rfl ?_; refine LR rfl (Jf (xs := g.cells) (n := 20) rfl (kn 0 rfl) rfl rfl rfl) ?_; refine Je rfl rfl rfl (enters_of Tryz.func10 (by kernel_rfl) rfl) (Jw9 hg) oR ?_; refine JF 9 rfl ?_
    refine JB 30 rfl (fun gb => ?_) (fun gb => ?_) <;> (try simp only [ZZ] at gb) <;> first | (refine LR rfl (JG rfl rfl rfl) ?_) | (refine LK rfl ?_)
    all_goals refine LW 1 [0] rfl rfl ?_
    all_goals first | refine LR rfl (J5 rfl hacs rfl) ?_ | refine LK rfl ?_
    all_goals (
     refine LW 2 [] rfl rfl (Jx 1 rfl (Zn 1 rfl ?_)); refine J0 rfl (fun h14 => ?_) (fun h14 => ?_)
     try simp only [ZZ] at h14
     refine Kn 8 rfl ?_; refine pT rfl rfl rfl fun w1 hs1 => ?_; exact ⟨rfl, hs1.keep⟩
     · try exact Bool.noConfusion h14
       all_goals try simp only [ZZ] at h14
       all_goals (
        refine JP 3 rfl ?_
        have hfw : Jpx g = true := by simp_all
        have hf : Zt g.ac = true := (Bool.and_eq_true_iff.1 hfw).1
        have hl := wu hf
        refine Jq 1 rfl ?_; refine LR rfl (Jf (xs := g.cells) (n := 20) rfl (kn 0 rfl) rfl rfl rfl) ?_; refine Kq rfl rfl rfl Jei (Ym hg (by omega)) oR fun x => ?_; refine Km List.perm_append_comm ?_; change HL _ _ ((39, .tuple #[x.s.val, .int .i64 x.f, .int .i64 x.err]) :: _) ((r1, _) :: x.L) _ _ _ _; refine LS 4 [] rfl rfl ?_; refine LN rfl fun r5 => ?_; refine Jn (k := 0) (n := 1) (ys := x.s.cells) rfl rfl rfl rfl rfl rfl rfl rfl rfl ?_; refine JF 6 rfl ?_; refine LR rfl (Jf (xs := g.cells) (n := 20) rfl (kn 1 rfl) rfl rfl rfl) ?_; refine Je rfl rfl rfl (enters_of Tryz.func14 (by kernel_rfl) rfl) (Jqh hg hf) oR ?_; refine Jw (congrArg Wt hh.symm) ?_; refine JF 9 rfl ?_; refine LR rfl (Jf (xs := g.cells) (n := 20) rfl (kn 1 rfl) rfl rfl rfl) ?_; refine Je rfl rfl rfl (enters_of Tryz.func16 (by kernel_rfl) rfl) (Jim hg hf) oR ?_; refine Jw (congrArg Wt hc.symm) ?_; refine JN 14 rfl ?_; refine cD (fun h21 => ?_) fun h21 => ?_
        refine JP 1 rfl ?_
        have hb := jQ x.eq (by omega)
        obtain ⟨rfl, rfl⟩ : hv = [] ∧ hi = x.err := Prod.mk.inj (hh.trans hb.1)
        obtain ⟨rfl, rfl⟩ : cv = [] ∧ cj = x.err := Prod.mk.inj (hc.trans hb.2)
        refine Jq 6 rfl ?_; refine Jw (show _ = Value.bool true from Wk (Jvk rfl)) ?_; refine LS 5 [] rfl rfl ?_; refine Jw (show _ = Value.bool true from Wk (Jvk rfl)) ?_; refine LS 3 [] rfl rfl ?_; refine LR rfl (W7 rfl rfl) ?_; refine Jw (show _ = Value.bool true from Wk (decide_eq_true rfl)) ?_; refine LS 3 [] rfl rfl ?_; refine LR rfl (W7 rfl rfl) ?_; refine Jw (show _ = Value.bool true from Wk (decide_eq_true rfl)) ?_; refine Jx 6 rfl ?_; refine pT rfl rfl rfl fun w1 hs1 => ?_; exact ⟨rfl, hs1.keep⟩
        refine JP 3 rfl ?_
        have he : x.err = 0 := by omega
        have hok := Jfh x he
        obtain ⟨hck, hw⟩ := Jfg hok hf
        obtain ⟨hck2, hw2⟩ := Jc9 (Jml hok.wr)
        obtain ⟨rt, hrt, hrl⟩ := jv hck (YE x.ok)
        obtain ⟨st, hst, hsl⟩ := jv hck2 (by rw [← XU x.s 0]; exact YE (xA (jd x.ok A0) 0))
        have hC := hc.trans (yW x.eq he hrt hst)
        obtain ⟨hva, hia⟩ := Prod.mk.inj (hh.trans (Jda x.eq he hrt))
        have hvl : hv.length = 32 := by rw [hva]; exact Jko _ _
        rw [← hva] at hC; subst hia
        obtain ⟨v, hvv⟩ : ∃ v, v = wt x.f := ⟨_, rfl⟩
        have hv01 := Jqg x.f
        rw [← hvv] at hC hv01
        have hnum0 : v ≠ 1 → ju x.f g.rc = 0 := fun h => by unfold ju; rw [← hvv, if_neg h]
        have hnum1 : v = 1 → ju x.f g.rc = g.rc.number := fun h => by unfold ju; rw [← hvv, if_pos h]
        have hj0 : cj = 0 := by
          have := Jku hrl hsl hvl (v := v) (n := ju x.f g.rc) (by rcases hv01 with h | h; exact .inl ⟨h, hnum0 (by omega)⟩; exact .inr h)
          rw [← hC] at this; exact this
        subst hj0
        refine JM [] [(3, .pure), (4, .pure), (5, .pure), (6, .grow (VG zo (.cells #[.string ⟨#[]⟩, .int .u64 0, .int .u64 0, .int .u64 0, .int .u64 0, .int .u64 0, .string ⟨#[]⟩, .slice none 0 0] 48 (0, 0)))), (7, .turn), (8, .pure)] 9 [0, 1, 2, 3, 4, 5, 6, 7, 8] (by kernel_rfl) (by kernel_rfl) (by first | exact (fun _ h => absurd h List.not_mem_nil) | simp [SubS] | (intro p hp; simp [hp])) ?_; refine KA (k := 0) rfl rfl rfl rfl rfl (Jf (xs := x.s.cells) (n := 1) rfl (kn 0 rfl) rfl rfl rfl) ?_; refine KH (k := 1) rfl rfl rfl rfl rfl Jr2 (P_Addr0.toR) (fun q hq => .inr hq) ?_; refine KH (k := 2) rfl rfl rfl rfl rfl Jvv (Jey (R := x.L ++ R) x.ok A0) (fun q hq => (List.mem_append.1 hq).elim (fun h => Or.inl (List.mem_cons_of_mem _ (List.mem_cons_of_mem _ h))) (fun hq => Or.inr hq)) ?_; refine Jl (k := 3) rfl rfl rfl rfl rfl (fun _ hS => (Jg rfl)) ?_; refine Jl (k := 4) rfl rfl rfl rfl rfl (fun _ hS => (JX rfl rfl)) ?_; refine Jl (k := 5) rfl rfl rfl rfl rfl (fun _ hS => (JX rfl rfl)) ?_; refine XA (k := 6) (cs := #[_, _, _, _, _, _, _, _]) rfl rfl rfl rfl rfl rfl fun r9 => ?_; refine Wf (k := 7) (q := 0) (n := 8) (ys := (Qm x.s A0).cells) rfl rfl rfl rfl rfl rfl rfl rfl rfl rfl rfl (fun _ h => absurd h List.not_mem_nil) ?_; refine Jl (k := 8) rfl rfl rfl rfl rfl (fun _ hS => (J7 rfl)) ?_; refine Ko ?_; refine JF 4 rfl ?_; refine LR rfl (Jf (xs := x.s.cells) (n := 1) rfl (kn 1 rfl) rfl rfl rfl) ?_; refine Je rfl rfl rfl Jm2 (YC (R := x.L ++ R) x.ok (fun _ => hw)) (fun q hq => (List.mem_append.1 hq).elim (fun h => Or.inl (List.mem_cons_of_mem _ (List.mem_cons_of_mem _ (List.mem_cons_of_mem _ h)))) (fun hq => Or.inr hq)) ?_; refine Jw (congrArg Wt hrt) ?_; refine JF 9 rfl ?_; refine LR rfl (Jf (xs := (Qm x.s A0).cells) (n := 8) rfl (kn 0 rfl) rfl rfl rfl) ?_; refine JH (n := 1) (sz := 8) (vs := [_]) (zs := [_, _, _, _, _, _, _, _]) (r := (Qm x.s A0).cells) rfl rfl rfl rfl rfl rfl rfl rfl rfl (by rw [Kf]; exact rfl) rfl fun rv => ?_; refine LR rfl (Jr (r := [_]) rfl rfl) ?_; refine Je (v := Wt (Ql (StL.er ⟨[Qm x.s A0], some (⟨rv, 0, none⟩, 1)⟩))) rfl rfl rfl Jm2 (YC (xA (jd x.ok A0) rv) (fun _ => by rw [XU]; exact hw2)) (fun q hq => (List.mem_cons.1 hq).elim (fun h => .inl (by rw [h]; exact List.mem_cons_self)) fun hq => (List.mem_append.1 hq).elim (fun h => Or.inl (List.mem_cons_of_mem _ (List.mem_cons_of_mem _ (List.mem_cons_of_mem _ (List.mem_cons_of_mem _ h))))) (fun hq => Or.inr hq)) ?_; refine Jw (congrArg Wt ((congrArg Ql (XU x.s rv)).trans hst)) ?_; refine JF 10 rfl ?_; refine Jm rfl rfl rfl (enters_of Tryz.func21 (by kernel_rfl) rfl) (Ju5 x.f 5) ?_; refine Jw (show _ = Value.tuple #[.int .i64 v, .int .i64 (Jh9 (vl x.f 5))] from by rw [hvv]; rfl) ?_; refine JN 19 rfl ?_; refine cD (fun h40 => ?_) fun h40 => ?_
        refine X6 13 [3] rfl rfl ?_; refine LR rfl (Jr (r := [_, _, _]) rfl rfl) ?_; refine QI rfl ?_
        first | (refine Jm rfl rfl rfl Jbq (QW (p := [rt, st, hv]) rfl (n := 0) (by decide) v) ?_; refine Jw (congrArg Wt (hC.trans (by rw [hnum0 (by omega)])).symm) ?_) | (refine Jm rfl rfl rfl Jbq (QW (p := [rt, st, hv]) rfl (n := g.rc.number) hn0 v) ?_; refine Jw (congrArg Wt (hC.trans (by rw [hnum1 (by omega)])).symm) ?_)
        refine JF 25 rfl ?_; refine LR rfl (W7 rfl rfl) ?_; refine Jw (show _ = Value.bool true from Wk (decide_eq_true rfl)) ?_; refine Jx 5 rfl ?_; refine pT rfl rfl rfl fun w1 hs1 => ?_; exact ⟨rfl, hs1.keep⟩
        refine Jq 8 rfl ?_; refine LR rfl (Jr (r := [_, _, _]) rfl rfl) ?_; refine QI rfl ?_
        first | (refine Jm rfl rfl rfl Jbq (QW (p := [rt, st, hv]) rfl (n := 0) (by decide) v) ?_; refine Jw (congrArg Wt (hC.trans (by rw [hnum0 (by omega)])).symm) ?_) | (refine Jm rfl rfl rfl Jbq (QW (p := [rt, st, hv]) rfl (n := g.rc.number) hn0 v) ?_; refine Jw (congrArg Wt (hC.trans (by rw [hnum1 (by omega)])).symm) ?_)
        refine JF 25 rfl ?_; refine LR rfl (W7 rfl rfl) ?_; refine Jw (show _ = Value.bool true from Wk (decide_eq_true rfl)) ?_; refine Jx 5 rfl ?_; refine pT rfl rfl rfl fun w1 hs1 => ?_; exact ⟨rfl, hs1.keep⟩
        skip)
     skip)
end Go.Proofs.YtfaagelglpgpkaaGreatDoor
