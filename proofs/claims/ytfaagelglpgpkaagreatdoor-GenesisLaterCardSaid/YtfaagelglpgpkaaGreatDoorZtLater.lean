import Derived.Test.YtfaagelglpgpkaaGreatDoorZtLaterf
set_option maxRecDepth 100000
namespace Go.Proofs.YtfaagelglpgpkaaGreatDoor
set_option linter.all false
open Go.SL Go.RowKit Go.Shelf
theorem yB : ∀ {n : Nat} {f : Int} {r : Rec}, r.ok → (W9 n f r).ok
 | 0, _, _, h => h
 | n + 1, f, r, h => by rw [W9]; exact yB (vr h)
theorem Jg9 {f g : Int} {r : Rec} (h : r.ok) : (Wd f g r).1.ok := by
 unfold Wd
 split
 ·exact Zl
 split
 ·exact Zl
 ·exact yB h
theorem Jha {f g : Int} {r : Rec} (h : (Wd f g r).2 = 0) : f ≤ g := by
 unfold Wd at h
 split at h
 ·cases h
 ·rename_i h1
  have := Decidable.not_not.1 h1
  unfold SL.Way at this; omega
def J3w (g : GenL) (t : Nat) : GenL := ⟨g.ts, g.tp, t, rec0, [], none⟩
def J3x (g : GenL) (t : Nat) : GenL := ⟨g.ts, g.tp, t, g.rc, g.accts, g.ap⟩
def Jz6 (g : GenL) (t : Nat) (r : Rec) : GenL := ⟨g.ts, g.tp, t, r, g.accts, g.ap⟩
theorem L_GenesisLater {R : Jm} {g : GenL} (hg : g.In R) {t : Nat} (ht : VK t) : PureR Tryz.prog 8 [g.val, uV t].toArray (.bool true) R := by
  have hg0 : (J3w g t).In R := ⟨hg.tlen, hg.tseg, hg.tu, ht, Zl, Jfx⟩
  refine Ja Tryz.func8 rfl rfl fun w => ?_; refine J8 ?_; refine Jo 2 rfl ?_; refine JS (cs := g.cells.toArray) rfl rfl rfl rfl fun r1 => ?_; refine JC 5 rfl ?_; refine Jg rfl rfl rfl (enters_of Tryz.func9 (by kernel_rfl) rfl) Jmt oR ?_; refine JI 10 rfl ?_; refine Jw rfl (fun h5 => ?_) (fun h5 => ?_)
  try exact Bool.noConfusion h5
  · try simp only [ZZ] at h5
    refine Jo 4 rfl ?_; refine LR rfl (Jb (xs := g.cells) (n := 20) rfl (kn 0 rfl) rfl rfl rfl) ?_; refine Jg rfl rfl rfl (enters_of Tryz.func10 (by kernel_rfl) rfl) (Jzw hg) oR ?_; refine JC 9 rfl ?_
    refine J4 28 rfl (fun gb => ?_) (fun gb => ?_) <;> (try simp only [ZZ] at gb) <;> first | (refine Qx rfl ?_) | (refine LK rfl ?_)
    all_goals first | refine LR rfl (JD rfl rfl rfl) ?_ | refine LK rfl ?_
    all_goals (
     refine LW 3 [0] rfl rfl (Jx 1 rfl (Y7 1 rfl ?_)); refine Jw rfl (fun h14 => ?_) (fun h14 => ?_)
     try simp only [ZZ] at h14
     refine Kn 8 rfl ?_; refine pT rfl rfl rfl fun w1 hs1 => ?_; exact ⟨rfl, hs1.keep⟩
     · try exact Bool.noConfusion h14
       all_goals try simp only [ZZ] at h14
       all_goals (
        refine JP 3 rfl ?_
        have hfw : Jr8 g = true := by simp_all
        have hf : ZR g.ac = true := (Bool.and_eq_true_iff.1 hfw).1
        have hl := yz hf
        refine Jo 1 rfl ?_; refine LR rfl (Jb (xs := g.cells) (n := 20) rfl (kn 0 rfl) rfl rfl rfl) ?_; refine Ke rfl rfl rfl Jae (WV hg (by omega)) oR fun x => ?_; refine JY List.perm_append_comm ?_; change HL _ _ ((37, .tuple #[x.s.val, .int .i64 x.f, .int .i64 x.err]) :: _) ((r1, _) :: x.L) _ _ _ _; refine LS 4 [] rfl rfl ?_; refine LN rfl fun r7 => ?_; refine Jc (k := 0) (n := 1) (ys := x.s.cells) rfl rfl rfl rfl rfl rfl rfl rfl rfl ?_; refine JC 6 rfl ?_; refine LR rfl (Jb (xs := g.cells) (n := 20) rfl (kn 1 rfl) rfl rfl rfl) ?_; refine LN rfl fun r10 => ?_; refine Jc (k := 0) (n := 20) (ys := (g).cells) rfl rfl rfl rfl rfl rfl rfl rfl rfl ?_; refine JC 6 rfl ?_; refine KC (k := 0) (cs' := (J3x g t).cells.toArray) rfl rfl rfl rfl rfl rfl rfl rfl rfl rfl ?_; refine Xj 7 [2] rfl rfl ?_; refine LR rfl (Js (r := [_, _, _, _, _, _, _, _, _, _, _, _, _, _, _, _, _, _, _, _]) rfl rfl) ?_; refine Ke rfl rfl rfl Jae (WV hg0 (Nat.zero_le _)) oR fun y => ?_; refine JY (QD y.L [_, _, _] (x.L)) ?_; change HL _ _ ((49, .tuple #[y.s.val, .int .i64 y.f, .int .i64 y.err]) :: _) ((r10, _) :: (r7, _) :: (r1, _) :: (y.L ++ (x.L))) _ _ _ _
        have hyf : y.f = (Qv g.ts t).1 := (congrArg (fun p => p.2.1) y.eq).trans (Jmn g.ts t)
        refine LS 4 [] rfl rfl ?_; refine LN rfl fun r11 => ?_; refine Jc (k := 0) (n := 1) (ys := y.s.cells) rfl rfl rfl rfl rfl rfl rfl rfl rfl ?_; refine JC 9 rfl ?_; refine LR rfl (Jp (vs := g.rc.cells) rfl (kn 3 rfl) rfl rfl rfl rfl) ?_
        obtain ⟨⟨r, ie⟩, hr⟩ : ∃ p, p = Wd x.f y.f g.rc := ⟨_, rfl⟩
        refine Jl rfl rfl rfl (enters_of Tryz.func27 (by kernel_rfl) rfl) (Jwg x.f y.f g.rc) ?_; refine J2 (show _ = Value.tuple #[r.val, .int .i64 ie] from by rw [← hr]) ?_
        have hrok : r.ok := by have := Jg9 (f := x.f) (g := y.f) hg.rc; rw [← hr] at this; exact this
        have hgu : (Jz6 g t r).In R := ⟨hg.tlen, hg.tseg, hg.tu, ht, hrok, hg.st⟩
        refine LS 3 [] rfl rfl ?_; refine LN rfl fun r14 => ?_; refine Jc (k := 0) (n := 17) (ys := (r).cells) rfl rfl rfl rfl rfl rfl rfl rfl rfl ?_; refine JC 5 rfl ?_; refine LR rfl (Jb (xs := r.cells) (n := 17) rfl (kn 0 rfl) rfl rfl rfl) ?_
        refine LS 1 [] rfl rfl ?_; refine Qk (k := 2) (n := 17) (vs := r.cells.toArray) (cs' := (Jz6 g t r).cells.toArray) rfl rfl rfl rfl rfl rfl rfl (by exact Nat.le_of_ble_eq_true rfl) rfl rfl ?_; refine JC 4 rfl ?_; refine LR rfl (Jb (xs := (Jz6 g t r).cells) (n := 20) rfl (kn 2 rfl) rfl rfl rfl) ?_; refine Ke rfl rfl rfl Jae (WV hgu (show g.accts.length ≤ 1000 by omega)) oR fun u => ?_; refine JY (QD u.L [_, _, _, _, _] (y.L ++ x.L)) ?_; change HL _ _ ((65, .tuple #[u.s.val, .int .i64 u.f, .int .i64 u.err]) :: _) ((r14, _) :: (r11, _) :: (r10, _) :: (r7, _) :: (r1, _) :: (u.L ++ (y.L ++ x.L))) _ _ _ _; refine LS 4 [] rfl rfl ?_; refine LN rfl fun r16 => ?_; refine Jc (k := 0) (n := 1) (ys := u.s.cells) rfl rfl rfl rfl rfl rfl rfl rfl rfl ?_; refine JC 8 rfl ?_; refine LR rfl (Jb (xs := x.s.cells) (n := 1) rfl (kn 4 rfl) rfl rfl rfl) ?_; refine Ke rfl rfl rfl (enters_of Tryz.func28 (by kernel_rfl) rfl) (Jl9 (R := x.L ++ R) x.f y.f x.ok) (fun q hq => (List.mem_append.1 hq).elim (fun h => .inl (List.mem_cons_of_mem _ (List.mem_cons_of_mem _ (List.mem_cons_of_mem _ (List.mem_cons_of_mem _ (List.mem_cons_of_mem _ (List.mem_cons_of_mem _ (List.mem_append_right _ (List.mem_append_right _ h))))))))) .inr) fun m => ?_; refine JY (QD m.L [_, _, _, _, _, _] (u.L ++ (y.L ++ x.L))) ?_; change HL _ _ ((73, .tuple #[m.s.val, .int .i64 m.err]) :: _) ((r16, _) :: (r14, _) :: (r11, _) :: (r10, _) :: (r7, _) :: (r1, _) :: (m.L ++ (u.L ++ (y.L ++ x.L)))) _ _ _ _; refine LS 3 [] rfl rfl ?_; refine LN rfl fun r19 => ?_; refine Jc (k := 0) (n := 1) (ys := m.s.cells) rfl rfl rfl rfl rfl rfl rfl rfl rfl ?_; refine JC 9 rfl ?_
        refine J4 78 rfl (fun gb => ?_) (fun gb => ?_) <;> (try simp only [ZZ] at gb) <;> first | (refine Qx rfl ?_) | (refine LK rfl ?_)
        all_goals refine LW 3 [] rfl rfl ?_
        all_goals first | refine LK rfl ?_ | (refine J4 82 rfl (fun gb => ?_) (fun gb => ?_) <;> (try simp only [ZZ] at gb) <;> first | (refine Qx rfl ?_) | (refine LK rfl ?_))
        all_goals refine LW 3 [] rfl rfl ?_
        all_goals first | refine LK rfl ?_ | (refine J4 86 rfl (fun gb => ?_) (fun gb => ?_) <;> (try simp only [ZZ] at gb) <;> first | (refine Qx rfl ?_) | (refine LK rfl ?_))
        all_goals (
         refine LW 2 [] rfl rfl (Jx 1 rfl (Y7 1 rfl ?_)); refine Jw rfl (fun h32 => ?_) (fun h32 => ?_)
         try simp only [ZZ] at h32
         refine Kn 8 rfl ?_; refine pT rfl rfl rfl fun w1 hs1 => ?_; exact ⟨rfl, hs1.keep⟩
         · try exact Bool.noConfusion h32
           all_goals try simp only [ZZ] at h32
           all_goals (
            refine JP 3 rfl ?_
            have hx0 : x.err = 0 := by first | omega | simp_all
            have hu0 : u.err = 0 := by first | omega | simp_all
            have hi0 : ie = 0 := by first | omega | simp_all
            have hm0 : m.err = 0 := by first | omega | simp_all
            subst hi0
            have hA := Jbn x hx0
            have hU : GenOk g.ts t r g.ac u.s.er u.f := Jbn u hu0
            have huf : u.f = y.f := by rw [hyf, hU.act]
            have hle : x.f ≤ y.f := Jha (r := g.rc) (by rw [← hr])
            have hm : xX x.f y.f x.s.er = (m.s.er, 0) := m.eq.symm.trans (by rw [hm0])
            have hsame : m.s.er = u.s.er := Jmm hg.rc hA.wr hr.symm hm (by rw [← huf]; exact hU.wr)
            refine Jo 6 rfl ?_; refine J2 (show _ = Value.bool true from jK (J0n huf)) ?_; refine LS 5 [] rfl rfl ?_; refine J2 (show _ = Value.bool true from jK (decide_eq_true hle)) ?_; refine LS 2 [] rfl rfl ?_; refine LR rfl (Jb (xs := m.s.cells) (n := 1) rfl (kn 0 rfl) rfl rfl rfl) ?_; refine LR rfl (Jb (xs := u.s.cells) (n := 1) rfl (kn 1 rfl) rfl rfl rfl) ?_; refine Jg rfl rfl rfl (enters_of Tryz.func23 (by kernel_rfl) rfl) (Jq1 (R := m.L ++ (u.L ++ (y.L ++ (x.L ++ R)))) (m.ok.mono fun q hq => (List.mem_append.1 hq).elim (fun h => List.mem_append_left _ h) fun h => (List.mem_append_right _ (List.mem_append_right _ (List.mem_append_right _ h)))) (u.ok.mono fun q hq => (List.mem_append.1 hq).elim (fun h => List.mem_append_right _ (List.mem_append_left _ h)) fun h => (List.mem_append_right _ (List.mem_append_right _ (List.mem_append_right _ (List.mem_append_right _ h)))))) (fun q hq => (List.mem_append.1 hq).elim (fun h => Or.inl (List.mem_cons_of_mem _ (List.mem_cons_of_mem _ (List.mem_cons_of_mem _ (List.mem_cons_of_mem _ (List.mem_cons_of_mem _ (List.mem_cons_of_mem _ (List.mem_cons_of_mem _ (List.mem_append_left _ h))))))))) (fun hq => (List.mem_append.1 hq).elim (fun h => Or.inl (List.mem_cons_of_mem _ (List.mem_cons_of_mem _ (List.mem_cons_of_mem _ (List.mem_cons_of_mem _ (List.mem_cons_of_mem _ (List.mem_cons_of_mem _ (List.mem_cons_of_mem _ (List.mem_append_right _ (List.mem_append_left _ h)))))))))) (fun hq => (List.mem_append.1 hq).elim (fun h => Or.inl (List.mem_cons_of_mem _ (List.mem_cons_of_mem _ (List.mem_cons_of_mem _ (List.mem_cons_of_mem _ (List.mem_cons_of_mem _ (List.mem_cons_of_mem _ (List.mem_cons_of_mem _ (List.mem_append_right _ (List.mem_append_right _ (List.mem_append_left _ h))))))))))) (fun hq => (List.mem_append.1 hq).elim (fun h => Or.inl (List.mem_cons_of_mem _ (List.mem_cons_of_mem _ (List.mem_cons_of_mem _ (List.mem_cons_of_mem _ (List.mem_cons_of_mem _ (List.mem_cons_of_mem _ (List.mem_cons_of_mem _ (List.mem_append_right _ (List.mem_append_right _ (List.mem_append_right _ h))))))))))) (fun hq => Or.inr hq))))) ?_; refine J2 (Y3 (decide_eq_true hsame)) ?_; refine Jx 5 rfl ?_; refine pT rfl rfl rfl fun w1 hs1 => ?_; exact ⟨rfl, hs1.keep⟩
            skip)
         skip)
        skip)
     skip)
end Go.Proofs.YtfaagelglpgpkaaGreatDoor
