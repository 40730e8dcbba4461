import Derived.Test.YtckoepmdmhdepaaGreatDoorZtSpansd
set_option maxRecDepth 100000
namespace Go.Proofs.YtckoepmdmhdepaaGreatDoor
set_option linter.all false
open Go.SL Go.RowKit Go.Shelf
open Go.Proofs (Enters enters_of)
theorem jC {α : Type} (a b c : α) (Z : List α) : (a :: b :: c :: Z).Perm (c :: a :: b :: Z) := ((List.Perm.swap c b Z).cons a).trans (List.Perm.swap c a (b :: Z))
def Jgk (L : Jy) : { x : BaR ba0 // x.L = [] ∧ x.b.val = .agg #[Jq [], uV 0, Jq [], uV 0, .slice none 0 0] } := ⟨⟨⟨[], 0, [], 0, none, []⟩, [], ⟨by simp, Seg.nil⟩, rfl⟩, rfl, rfl⟩
theorem VN {R : Jy} {t : ItL} (h : t.In R) : Seg R t.xs.length (JK t.xs) t.p := h.seg
theorem zU (t : ItL) (m lo hi : Int) : (KJ t.er m lo hi).1.length ≤ t.xs.length := by
 unfold KJ
 split
 ·simp
 ·split
  ·simp
  ·rw [ItL.er_xs]; simp
theorem Jgl {s : BS} (hs : s.length ≤ 1000000000) : PureT (α := BaR (W3 s).1) Tryz.prog 11 [Jq s].toArray (fun y => .tuple #[y.b.val, .int .i64 (W3 s).2]) [] (fun y => y.L) [] := by
 refine J1 Tryz.func11 rfl rfl fun w => ?_; refine sR fun _ hK1 => ?_; refine LN rfl fun r2 => ?_; refine Jb rfl ?_; refine nK hK1 ?_; refine sB fun _ hK2 => ?_; refine sR fun _ hK3 => ?_; refine Jb rfl (LR rfl (Q3 rfl rfl) (Jb rfl ?_)); refine nK hK3 ?_; refine cD (fun g => ?_) fun g => ?_
 refine sR fun _ hK5 => ?_; refine LR rfl (J7 (r := [_, _, _, _, _]) rfl rfl) ?_
 refine Jv (k := 0) (n := 5) (cs' := #[_, _, _, _, _]) (vs := #[_, _, _, _, _]) rfl rfl rfl rfl rfl rfl rfl (by exact Nat.le_of_ble_eq_true rfl) rfl (by first | (simp only [List.set_cons_zero, List.set_cons_succ]; exact rfl) | exact rfl) ?_; refine Jb rfl ?_; refine nK hK5 ?_; refine Jd (Jr (Ji ?_))
 (refine Jp rfl rfl (.cons (J0 (vs := [Jq [], uV 0, Jq [], uV 0, .slice none 0 0]) rfl (kn 0 rfl) rfl rfl) (.cons (Jk rfl) .nil)) (fun w1 hs1 => ?_)
  have hU : W3 s = (ba0, 3) := by unfold W3; rw [if_pos (by assumption)]
  rw [hU]
  exact ⟨(Jgk []).1, rfl, hs1.weakL (List.nil_sublist _)⟩)
 ·refine sQ fun _ hK6 => ?_
  have hpos : 0 < s.length := List.length_pos_iff.2 (by assumption)
  refine Je (Jb rfl (LR rfl (Kp (j := 0) (n := ((s.getD 0 0).toNat : Int)) rfl rfl rfl rfl hpos rfl) ?_)); refine J2 rfl (Jb rfl ?_); refine nK hK6 ?_; refine cD (fun g => ?_) fun g => ?_
  refine sR fun _ hK8 => ?_; refine LR rfl (J7 (r := [_, _, _, _, _]) rfl rfl) ?_
  refine Jv (k := 0) (n := 5) (cs' := #[_, _, _, _, _]) (vs := #[_, _, _, _, _]) rfl rfl rfl rfl rfl rfl rfl (by exact Nat.le_of_ble_eq_true rfl) rfl (by first | (simp only [List.set_cons_zero, List.set_cons_succ]; exact rfl) | exact rfl) ?_; refine Jb rfl ?_; refine nK hK8 ?_; refine Jd (Jr (Ji ?_))
  (refine Jp rfl rfl (.cons (J0 (vs := [Jq [], uV 0, Jq [], uV 0, .slice none 0 0]) rfl (kn 0 rfl) rfl rfl) (.cons (Jk rfl) .nil)) (fun w1 hs1 => ?_)
   have hU : W3 s = (ba0, 9) := by unfold W3; rw [if_neg (by assumption), if_pos (by omega)]
   rw [hU]
   exact ⟨(Jgk []).1, rfl, hs1.weakL (List.nil_sublist _)⟩)
  ·refine Jg (Jo (hK2 ?_)); refine sR fun _ hK9 => ?_; refine Jb rfl (LR rfl (Qx (kl := some (.i64, 1)) (kh := none) (m := 1) (n := s.length) rfl rfl rfl rfl rfl rfl hpos (Nat.le_refl _) (by rw [List.take_length])) ?_); refine Ka rfl rfl rfl Jib (Xd (s := s.drop 1) (by rw [List.length_drop]; omega)) oN fun y => ?_
   obtain ⟨yx, yL, yin, yer⟩ := y
   refine Kv List.perm_append_comm ?_; change HL _ _ _ ((r2, _) :: yL) _ _ _ _; refine Jb rfl (LR rfl (Jf rfl rfl) (LR rfl (Jf rfl rfl) ?_)); refine LN rfl fun r4 => ?_; refine LN rfl fun r5 => ?_; refine Js (k := 1) (n := 3) (ys := yx.cells) rfl rfl rfl rfl rfl (ItL.len _) rfl (ItL.one _) rfl ?_
   refine Ju (k := 0) rfl rfl rfl rfl rfl rfl rfl rfl (by first | (simp only [List.setIfInBounds_toArray, List.set_cons_zero, List.set_cons_succ]; exact rfl) | exact rfl) (by first | (simp only [List.set_cons_zero, List.set_cons_succ]; exact rfl) | exact rfl) ?_; refine nK hK9 ?_; refine sQ fun _ hK10 => ?_; refine sR fun _ hK11 => ?_; refine LR rfl (Jc rfl (kn 0 rfl) rfl rfl) ?_; refine J2 rfl ?_; refine nK hK11 ?_; refine cD (fun g => ?_) fun g => ?_
   refine sQ fun _ hK13 => ?_; refine Km [(r5, .cells #[.int .i64 (jQ (s.drop 1)).2] 43 (0, 0))] [(0, .pure), (1, .pure), (2, .turn), (3, .pure)] 4 [0, 1, 2, 3] (by kernel_rfl) (by kernel_rfl) (fun p hp => by rw [List.mem_singleton.1 hp]; exact List.mem_cons_self) ?_; refine JH (k := 0) rfl rfl rfl rfl rfl (fun _ hS => (J7 (r := [_, _, _, _, _]) rfl rfl)) ?_; refine JH (k := 1) rfl rfl rfl rfl rfl (fun _ hS => (Jc rfl (.inl (hS _ (Jw (n := 0) rfl))) rfl rfl)) ?_; refine Kl (k := 2) (q := 2) (n := 5) (ys := [_, _, _, _, _]) rfl rfl rfl rfl rfl rfl rfl rfl rfl rfl rfl (fun p hp => by rw [List.mem_singleton.1 hp]; exact List.mem_cons_self) ?_; refine JH (k := 3) rfl rfl rfl rfl rfl (fun _ hS => (JY rfl)) ?_; refine Qc ?_; refine nK hK13 ?_; refine Jd (Ji ?_)
   (refine Jp rfl rfl (.cons (J0 (vs := [Jq [], uV 0, Jq [], uV 0, .slice none 0 0]) rfl (kn 2 rfl) rfl rfl) (.cons (Jk rfl) .nil)) (fun w1 hs1 => ?_)
    have hU : W3 s = (ba0, (jQ (s.drop 1)).2) := by unfold W3; rw [if_neg (by assumption), if_neg (by omega), if_pos (by assumption)]
    rw [hU]
    exact ⟨(Jgk []).1, rfl, hs1.weakL (List.nil_sublist _)⟩)
   ·refine Jg (hK10 ?_); refine sR fun _ hK14 => ?_; refine LR rfl (Jm (xs := yx.cells) (n := 3) rfl (kn 1 rfl) rfl rfl (ItL.len _)) ?_; refine J4 rfl rfl rfl Jb8 (WI yin 5 5) (fun q hq => Or.inl (List.mem_cons_of_mem _ (List.mem_cons_of_mem _ (List.mem_cons_of_mem _ hq)))) ?_; refine Jb rfl (LR rfl (Jf rfl rfl) (LR rfl (Jf rfl rfl) ?_)); refine LN rfl fun r6 => ?_
    refine Ju (k := 0) (cs' := #[if Qi yx.er 5 5 = 0 then Ky yx.xs.length yx.p else .slice none 0 0]) rfl rfl rfl rfl rfl (by split <;> rfl) rfl rfl rfl rfl ?_
    refine Ju (k := 1) rfl rfl rfl rfl rfl rfl rfl rfl (by first | (simp only [List.setIfInBounds_toArray, List.set_cons_zero, List.set_cons_succ]; exact rfl) | exact rfl) (by first | (simp only [List.set_cons_zero, List.set_cons_succ]; exact rfl) | exact rfl) ?_; refine nK hK14 ?_; refine sQ fun _ hK15 => ?_; refine sR fun _ hK16 => ?_; refine LR rfl (Jc rfl (kn 1 rfl) rfl rfl) ?_; refine J2 rfl ?_; refine nK hK16 ?_; refine cD (fun g => ?_) fun g => ?_
    refine sQ fun _ hK18 => ?_; refine Km [(r5, .cells #[.int .i64 (Qi yx.er 5 5)] 43 (0, 0))] [(0, .pure), (1, .pure), (2, .turn), (3, .pure)] 4 [0, 1, 2, 3] (by kernel_rfl) (by kernel_rfl) (fun p hp => by rw [List.mem_singleton.1 hp]; exact (List.mem_cons_of_mem _ List.mem_cons_self)) ?_; refine JH (k := 0) rfl rfl rfl rfl rfl (fun _ hS => (J7 (r := [_, _, _, _, _]) rfl rfl)) ?_; refine JH (k := 1) rfl rfl rfl rfl rfl (fun _ hS => (Jc rfl (.inl (hS _ (Jw (n := 0) rfl))) rfl rfl)) ?_; refine Kl (k := 2) (q := 3) (n := 5) (ys := [_, _, _, _, _]) rfl rfl rfl rfl rfl rfl rfl rfl rfl rfl rfl (fun p hp => by rw [List.mem_singleton.1 hp]; exact (List.mem_cons_of_mem _ List.mem_cons_self)) ?_; refine JH (k := 3) rfl rfl rfl rfl rfl (fun _ hS => (JY rfl)) ?_; refine Qc ?_; refine nK hK18 ?_; refine Jd (Ji ?_)
    (refine Jp rfl rfl (.cons (J0 (vs := [Jq [], uV 0, Jq [], uV 0, .slice none 0 0]) rfl (kn 3 rfl) rfl rfl) (.cons (Jk rfl) .nil)) (fun w1 hs1 => ?_)
     have hU : W3 s = (ba0, Qi yx.er 5 5) := by unfold W3; rw [if_neg (by assumption), if_neg (by omega), if_neg (by omega), ← yer, if_pos (by assumption)]
     rw [hU]
     exact ⟨(Jgk []).1, rfl, hs1.weakL (List.nil_sublist _)⟩)
    ·refine Jg (hK15 ?_); refine sQ fun _ hK19 => ?_
     have hG : Qi yx.er 5 5 = 0 := by omega
     rw [if_pos hG, hG]
     have hl5 : yx.xs.length = 5 := by have h := Jcm (n := 5) hG; rw [ItL.er_xs, List.length_map] at h; exact h
     obtain ⟨y0, y1, y2, y3, y4, hx5⟩ := Jpk hl5
     have hsg := VN yin
     refine Je (LR rfl (JQ rfl rfl) (LN rfl fun r7 => ?_))
     refine Ju (k := 0) rfl rfl rfl rfl rfl rfl rfl rfl (by first | (simp only [List.setIfInBounds_toArray, List.set_cons_zero, List.set_cons_succ]; exact rfl) | exact rfl) (by first | (simp only [List.set_cons_zero, List.set_cons_succ]; exact rfl) | exact rfl) ?_; refine nK hK19 ?_; refine sR fun _ hK20 => ?_; refine LR rfl (JQ rfl rfl) ?_; refine Jb rfl ?_; refine nK hK20 ?_; refine sR fun _ hK21 => ?_; refine LR rfl (JQ rfl rfl) ?_; refine Jb rfl ?_; refine nK hK21 ?_; refine sQ fun _ hK22 => ?_; refine xZ (jC _ _ _ _) ?_; change HC _ _ _ ((r5, .cells #[.int .i64 0] 43 (0, 0)) :: (r7, _) :: (r6, _) :: (r4, _) :: (r2, _) :: yL) _ _ _; refine Je (Jb rfl ?_); refine J9 (T := eT r5 0) (List.Perm.refl _) rfl rfl rfl (enters_of Tryz.func44 (by kernel_rfl) rfl) (Jgh 0 (VN (yin.mono (R' := _ :: _ ::  _ :: _ :: yL) (fun q hq => (List.mem_cons_of_mem _ (List.mem_cons_of_mem _ (List.mem_cons_of_mem _ (List.mem_cons_of_mem _ hq))))))) (i := 0) (by omega) (by omega) (by rw [hx5]; rfl) (List.mem_cons_of_mem _ List.mem_cons_self) List.mem_cons_self) (fun q hq => .inl hq) fun _ => ?_; refine Jb rfl ?_; refine J9 (T := eT r5 (kp 0 (JZ y0.er 32 32).2)) (List.Perm.refl _) rfl rfl rfl (enters_of Tryz.func46 (by kernel_rfl) rfl) (Jgi (kp 0 (JZ y0.er 32 32).2) (VN (yin.mono (R' := _ :: _ ::  _ :: _ :: yL) (fun q hq => (List.mem_cons_of_mem _ (List.mem_cons_of_mem _ (List.mem_cons_of_mem _ (List.mem_cons_of_mem _ hq))))))) (i := 1) (by omega) (by omega) (by rw [hx5]; rfl) (List.mem_cons_of_mem _ List.mem_cons_self) List.mem_cons_self) (fun q hq => .inl hq) fun _ => ?_; refine LR rfl (J7 (r := [_, _, _, _, _]) rfl rfl) ?_; refine LN rfl fun r10 => ?_
     refine Jv (k := 0) (n := 5) (cs' := #[_, _, _, _, _]) (vs := #[_, _, _, _, _]) rfl rfl rfl rfl rfl rfl rfl (by exact Nat.le_of_ble_eq_true rfl) rfl (by first | (simp only [List.set_cons_zero, List.set_cons_succ]; exact rfl) | exact rfl) ?_; refine nK hK22 ?_; refine sR fun _ hK23 => ?_; refine Kv (List.Perm.swap _ _ _) ?_; change HL _ _ _ ((r5, .cells #[.int .i64 (kp (kp 0 (JZ y0.er 32 32).2) (KV y1.er).2)] 43 (0, 0)) :: (r10, _) :: (r7, _) :: (r6, _) :: (r4, _) :: (r2, _) :: yL) _ _ _ _; refine Jb rfl ?_; refine J9 (T := eT r5 (kp (kp 0 (JZ y0.er 32 32).2) (KV y1.er).2)) (List.Perm.refl _) rfl rfl rfl (enters_of Tryz.func44 (by kernel_rfl) rfl) (Jgh (kp (kp 0 (JZ y0.er 32 32).2) (KV y1.er).2) (VN (yin.mono (R' := _ :: _ :: _ :: _ :: _ :: yL) (fun q hq => (List.mem_cons_of_mem _ (List.mem_cons_of_mem _ (List.mem_cons_of_mem _ (List.mem_cons_of_mem _ (List.mem_cons_of_mem _ hq)))))))) (i := 2) (by omega) (by omega) (by rw [hx5]; rfl) (List.mem_cons_of_mem _ (List.mem_cons_of_mem _ List.mem_cons_self)) (List.mem_cons_of_mem _ List.mem_cons_self)) (fun q hq => .inl hq) fun _ => ?_; refine Jb rfl ?_; refine J9 (T := eT r5 (kp (kp (kp 0 (JZ y0.er 32 32).2) (KV y1.er).2) (JZ y2.er 32 32).2)) (List.Perm.refl _) rfl rfl rfl (enters_of Tryz.func46 (by kernel_rfl) rfl) (Jgi (kp (kp (kp 0 (JZ y0.er 32 32).2) (KV y1.er).2) (JZ y2.er 32 32).2) (VN (yin.mono (R' := _ :: _ :: _ :: _ :: _ :: yL) (fun q hq => (List.mem_cons_of_mem _ (List.mem_cons_of_mem _ (List.mem_cons_of_mem _ (List.mem_cons_of_mem _ (List.mem_cons_of_mem _ hq)))))))) (i := 3) (by omega) (by omega) (by rw [hx5]; rfl) (List.mem_cons_of_mem _ (List.mem_cons_of_mem _ List.mem_cons_self)) (List.mem_cons_of_mem _ List.mem_cons_self)) (fun q hq => .inl hq) fun _ => ?_
     refine LR rfl (Ja rfl rfl (by first | (simp only [Nat.zero_add, Nat.reduceAdd, Nat.reduceMul, Nat.zero_mul, Nat.mul_one, Nat.add_zero]; exact rfl) | exact rfl)) ?_
     refine Ju (k := 1) rfl rfl rfl rfl rfl rfl rfl rfl (by first | (simp only [List.setIfInBounds_toArray, List.set_cons_zero, List.set_cons_succ]; exact rfl) | exact rfl) (by first | (simp only [List.set_cons_zero, List.set_cons_succ]; exact rfl) | exact rfl) ?_
     refine LR rfl (Ja rfl rfl (by first | (simp only [Nat.zero_add, Nat.reduceAdd, Nat.reduceMul, Nat.zero_mul, Nat.mul_one, Nat.add_zero]; exact rfl) | exact rfl)) ?_
     refine Ju (k := 1) rfl rfl rfl rfl rfl rfl rfl rfl (by first | (simp only [List.setIfInBounds_toArray, List.set_cons_zero, List.set_cons_succ]; exact rfl) | exact rfl) (by first | (simp only [List.set_cons_zero, List.set_cons_succ]; exact rfl) | exact rfl) ?_; refine nK hK23 ?_; refine sR fun _ hK24 => ?_; refine LR rfl (Jc rfl (kn 3 rfl) rfl rfl) ?_
     refine LR rfl (JB (j := 4) rfl hsg rfl rfl rfl (by first | rfl | omega) (by omega)) ?_; refine LR rfl (Kt ItL.len (fun q hq => Or.inl ((List.mem_cons_of_mem _ (List.mem_cons_of_mem _ (List.mem_cons_of_mem _ (List.mem_cons_of_mem _ (List.mem_cons_of_mem _ (List.mem_cons_of_mem _ hq)))))))) rfl hsg (show yx.xs[4]? = some y4 by rw [hx5]; rfl) rfl rfl) ?_; refine Ka rfl rfl rfl (enters_of Tryz.func48 (by kernel_rfl) rfl) (zN (t := y4) (yin.sub y4 (by rw [hx5]; simp)) 32 1 4096) (fun q hq => .inl (List.mem_cons_of_mem _ (List.mem_cons_of_mem _ (List.mem_cons_of_mem _ (List.mem_cons_of_mem _ (List.mem_cons_of_mem _ (List.mem_cons_of_mem _ hq))))))) fun y => ?_
     obtain ⟨row, hrow⟩ := y
     refine Kv List.perm_append_comm ?_; change HL _ _ _ ((r5, .cells #[.int .i64 (kp (kp (kp (kp 0 (JZ y0.er 32 32).2) (KV y1.er).2) (JZ y2.er 32 32).2) (KV y3.er).2)] 43 (0, 0)) :: (r10, _) :: (r7, _) :: (r6, _) :: (r4, _) :: (r2, _) :: (yL ++ Kk 9 ((KJ y4.er 32 1 4096).1.map Jq) row)) _ _ _ _; refine Jb rfl (LR rfl (Jf rfl rfl) (LR rfl (Jf rfl rfl) ?_)); refine Jb rfl (Jb rfl ?_); refine nK hK24 ?_; refine sR fun _ hK25 => ?_; refine LR rfl (Jc rfl (kn 2 rfl) rfl rfl) ?_; refine Jb rfl (J9 (T := eT r5 (kp (kp (kp (kp 0 (JZ y0.er 32 32).2) (KV y1.er).2) (JZ y2.er 32 32).2) (KV y3.er).2)) (List.Perm.refl _) rfl rfl rfl Jlz (zT (kp (kp (kp (kp 0 (JZ y0.er 32 32).2) (KV y1.er).2) (JZ y2.er 32 32).2) (KV y3.er).2) (KJ y4.er 32 1 4096).2 r5) oN fun _ => ?_); refine nK hK25 ?_; refine sQ fun _ hK26 => ?_; refine sR fun _ hK27 => ?_; refine LR rfl (Jc rfl (kn 0 rfl) rfl rfl) ?_; refine J2 rfl ?_; refine nK hK27 ?_; refine cD (fun g => ?_) fun g => ?_
     refine sQ fun _ hK29 => ?_; refine Km [(r5, .cells #[.int .i64 (kp (kp (kp (kp (kp 0 (JZ y0.er 32 32).2) (KV y1.er).2) (JZ y2.er 32 32).2) (KV y3.er).2) (KJ y4.er 32 1 4096).2)] 43 (0, 0))] [(0, .pure), (1, .pure), (2, .turn), (3, .pure)] 4 [0, 1, 2, 3] (by kernel_rfl) (by kernel_rfl) (fun p hp => by rw [List.mem_singleton.1 hp]; exact List.mem_cons_self) ?_; refine JH (k := 0) rfl rfl rfl rfl rfl (fun _ hS => (J7 (r := [_, _, _, _, _]) rfl rfl)) ?_; refine JH (k := 1) rfl rfl rfl rfl rfl (fun _ hS => (Jc rfl (.inl (hS _ (Jw (n := 0) rfl))) rfl rfl)) ?_; refine Kl (k := 2) (q := 5) (n := 5) (ys := [_, _, _, _, _]) rfl rfl rfl rfl rfl rfl rfl rfl rfl rfl rfl (fun p hp => by rw [List.mem_singleton.1 hp]; exact List.mem_cons_self) ?_; refine JH (k := 3) rfl rfl rfl rfl rfl (fun _ hS => (JY rfl)) ?_; refine Qc ?_; refine nK hK29 ?_; refine Jd (Ji ?_)
     (refine Jp rfl rfl (.cons (J0 (vs := [Jq [], uV 0, Jq [], uV 0, .slice none 0 0]) rfl (kn 5 rfl) rfl rfl) (.cons (Jk rfl) .nil)) (fun w1 hs1 => ?_)
      have hU : W3 s = (ba0, (kp (kp (kp (kp (kp 0 (JZ y0.er 32 32).2) (KV y1.er).2) (JZ y2.er 32 32).2) (KV y3.er).2) (KJ y4.er 32 1 4096).2)) := by unfold W3; rw [if_neg (by assumption), if_neg (by omega), if_neg (by omega), ← yer, if_neg (by omega), show Jcl yx.er.xs = Jck y0.er y1.er y2.er y3.er y4.er from by rw [ItL.er_xs, hx5]; rfl]; exact if_pos (by assumption)
      rw [hU]
      exact ⟨(Jgk []).1, rfl, hs1.weakL (List.nil_sublist _)⟩)
     ·refine Jg (hK26 ?_); refine sR fun _ hK30 => ?_; refine Jb rfl ?_
      refine LR rfl (Ja rfl rfl (by first | (simp only [Nat.zero_add, Nat.reduceAdd, Nat.reduceMul, Nat.zero_mul, Nat.mul_one, Nat.add_zero]; exact rfl) | exact rfl)) ?_
      refine Ju (k := 1) (cs' := #[Jq (JZ y0.er 32 32).1, uV (KV y1.er).1, Jq (JZ y2.er 32 32).1, uV (KV y3.er).1, JO (KJ y4.er 32 1 4096).1.length row]) rfl rfl rfl rfl rfl (by cases row <;> rfl) rfl rfl rfl rfl ?_; refine nK hK30 ?_; refine sR fun _ hK31 => ?_; refine LR rfl (Jm (xs := [Jq (JZ y0.er 32 32).1, uV (KV y1.er).1, Jq (JZ y2.er 32 32).1, uV (KV y3.er).1, JO (KJ y4.er 32 1 4096).1.length row]) (n := 5) rfl (kn 1 rfl) rfl rfl rfl) ?_
      refine Js (k := 5) (n := 5) (ys := [Jq (JZ y0.er 32 32).1, uV (KV y1.er).1, Jq (JZ y2.er 32 32).1, uV (KV y3.er).1, JO (KJ y4.er 32 1 4096).1.length row]) rfl rfl rfl rfl rfl rfl rfl (by cases row <;> rfl) rfl ?_; refine Jb rfl ?_; refine nK hK31 ?_; refine Jd ?_
      (refine Jp rfl rfl (.cons (J0 (vs := [Jq (JZ y0.er 32 32).1, uV (KV y1.er).1, Jq (JZ y2.er 32 32).1, uV (KV y3.er).1, JO (KJ y4.er 32 1 4096).1.length row]) rfl (kn 5 rfl) rfl rfl) (.cons (Jk rfl) .nil)) (fun w1 hs1 => ?_)
       have hU : W3 s = ((Jck y0.er y1.er y2.er y3.er y4.er).1, 0) := by unfold W3; rw [if_neg (by assumption), if_neg (by omega), if_neg (by omega), ← yer, if_neg (by omega), show Jcl yx.er.xs = Jck y0.er y1.er y2.er y3.er y4.er from by rw [ItL.er_xs, hx5]; rfl]; exact if_neg (by show ¬ (kp (kp (kp (kp (kp 0 (JZ y0.er 32 32).2) (KV y1.er).2) (JZ y2.er 32 32).2) (KV y3.er).2) (KJ y4.er 32 1 4096).2) ≠ 0; omega)
       rw [hU]
       exact ⟨⟨⟨_, _, _, _, Qm row, (KJ y4.er 32 1 4096).1⟩, Kk 9 ((KJ y4.er 32 1 4096).1.map Jq) row, ⟨(Nat.le_trans (zU _ _ _ _) (by have := (yin.sub y4 (by rw [hx5]; simp)).hl; omega)), Qg (e := 9) hrow (by decide)⟩, rfl⟩, congrArg (fun z => Ending.returned (Value.tuple #[.agg #[Jq (JZ y0.er 32 32).1, uV (KV y1.er).1, Jq (JZ y2.er 32 32).1, uV (KV y3.er).1, z], .int .i64 0])) (Ql hrow), hs1.weakL (.cons _ (.cons _ (.cons _ (.cons _ (.cons _ (.cons _ (List.sublist_append_right _ _)))))))⟩)
def jV (c : Nat) : List TxE → Int
 | [] => 0
 | t :: r => if t.kind < 0 ∨ t.kind > 2 then 9 else if Wx t ≠ 0 then Wx t else if t.chain ≠ c ∧ (t.kind ≠ 0 ∨ t.chain ≠ 0) then 2 else jV c r
def XH (c : Nat) (l : List TxE) : Int := if c = 0 ∨ 4611686018427387904 < c then 1 else if 512 < l.length then 5 else jV c l
theorem Ja1 {c : Nat} : ∀ {l : List TxE}, jV c l = 0 → ∀ t ∈ l, K012 t.kind ∧ Wx t = 0
 | x :: r, h, t, ht => by
  rw [jV] at h
  split at h
  ·cases h
  ·split at h
   ·exact absurd h (by assumption)
   ·split at h
    ·cases h
    ·rcases List.mem_cons.1 ht with rfl | ht
     ·exact ⟨by unfold K012; omega, by omega⟩
     ·exact Ja1 h t ht
theorem ZP {xs : List TxL} {i : Nat} {y : TxL} (h : xs[i]? = some y) : (xs.drop i).map TxL.er = y.er :: (xs.drop (i + 1)).map TxL.er := by
 obtain ⟨hl, he⟩ := List.getElem?_eq_some_iff.1 h
 rw [List.drop_eq_getElem_cons hl, he, List.map_cons]
theorem zV {R : Jy} {xs : List TxL} {p : Pl} {c : Nat} (hl : xs.length ≤ 9223372036854775807) (hs : Seg R xs.length (V0 xs) p) (hin : ∀ x ∈ xs, x.In R) :
    PureR Tryz.prog 31 [Ky xs.length p, uV c].toArray (.int .i64 (XH c (xs.map TxL.er))) R := by
  refine Jz Tryz.func31 rfl rfl fun w => ?_; refine sR fun _ hK1 => ?_; refine Jb rfl ?_; refine nK hK1 ?_; refine sB fun _ hK2 => ?_; refine sR fun _ hK3 => ?_; refine Jb rfl (J2 rfl (Jb rfl ?_))
  refine JM 11 rfl (fun gb => ?_) (fun gb => ?_) <;> (try simp only [ZZ] at gb) <;> first | (refine Jb rfl ?_) | (refine LK rfl ?_)
  all_goals first | refine J2 rfl ?_ | refine LK rfl ?_
  all_goals first | refine LR rfl (Jx rfl rfl) ?_ | refine LR rfl (J5 rfl rfl) ?_
  all_goals (
   refine Jb rfl (Jt (hK3 ?_)); refine Jl rfl (fun g => ?_) (fun g => ?_)
   try simp only [ZZ] at g
   refine sR fun _ hK7 => ?_; refine Jb rfl ?_; refine nK hK7 ?_; refine Jd (Jr (Ji ?_)); refine pT rfl rfl rfl fun w1 hs1 => ?_; refine ⟨?_, hs1.keep⟩; rw [show XH c (xs.map TxL.er) = 1 from by unfold XH; exact if_pos (by omega)]; rfl
   · try exact Bool.noConfusion g
     all_goals try simp only [ZZ] at g
     all_goals (
      refine sR fun _ hK8 => ?_; refine Jb rfl (LR rfl (JJ rfl hs rfl) ?_); refine J2 rfl (Jb rfl ?_); refine nK hK8 ?_; refine cD (fun g => ?_) fun g => ?_
      refine sR fun _ hK10 => ?_; refine Jb rfl ?_; refine nK hK10 ?_; refine Jd (Jr (Ji ?_)); refine pT rfl rfl rfl fun w1 hs1 => ?_; refine ⟨?_, hs1.keep⟩; rw [show XH c (xs.map TxL.er) = 5 from by unfold XH; rw [if_neg (by omega), if_pos (by rw [List.length_map]; omega)]]; rfl
      · refine Jg (Jo (hK2 ?_)); refine sQ fun _ hK11 => ?_; refine sR fun _ hK12 => ?_; refine Jb rfl (LR rfl (JJ rfl hs rfl) (Jb rfl ?_)); refine nK hK12 ?_; refine J3 (JS (σ := Nat) (fun i => i ≤ xs.length ∧ jV c (xs.map TxL.er) = jV c ((xs.drop i).map TxL.er)) (fun i => [(1, uV c), (19, Ky xs.length p), (20, .int .i64 (xs.length : Int)), (21, .int .i64 (i : Int))]) (fun _ => []) (fun _ _ _ => True) (fun i => xs.length - i) 0 ⟨by omega, rfl⟩ (lK rfl) (List.nil_sublist _) (fun _ _ h => h) ?_); rintro i ⟨hi1, hdr⟩; refine sR fun _ hK13 => ?_; refine J2 rfl ?_; refine nK hK13 ?_; refine sQ fun _ hK14 => ?_; refine cD (fun g => ?_) fun g => ?_
        · refine Jg (hK14 ?_); refine sB fun _ hK16 => ?_; refine sQ fun _ hK17 => ?_
          obtain ⟨y, hy, hmy⟩ := QA (show i < xs.length by omega)
          refine Je ?_
          refine LR rfl (JB (j := i) rfl hs rfl rfl rfl (by first | rfl | omega) (by omega)) ?_; refine LR rfl (Kt TxL.len oR rfl hs hy rfl rfl) ?_; refine LN rfl fun r6 => ?_; refine Js (k := 0) (n := 36) (ys := y.cells) rfl rfl rfl rfl rfl rfl rfl rfl rfl ?_; refine nK hK17 ?_; refine sQ fun _ hK18 => ?_; refine sR fun _ hK19 => ?_
          refine LR rfl (Ja rfl rfl (by first | (simp only [Nat.zero_add, Nat.reduceAdd, Nat.reduceMul, Nat.zero_mul, Nat.mul_one, Nat.add_zero]; exact rfl) | exact rfl)) ?_; refine LR rfl (Jc rfl (kn 0 rfl) rfl rfl) ?_; refine J2 rfl (Jb rfl ?_)
          refine JM 28 rfl (fun gb => ?_) (fun gb => ?_) <;> (try simp only [ZZ] at gb) <;> first | (refine LR rfl (Ja rfl rfl (by first | (simp only [Nat.zero_add, Nat.reduceAdd, Nat.reduceMul, Nat.zero_mul, Nat.mul_one, Nat.add_zero]; exact rfl) | exact rfl)) ?_) | (refine LK rfl ?_)
          all_goals first | refine LR rfl (Jc rfl (kn 0 rfl) rfl rfl) ?_ | refine LK rfl ?_
          all_goals first | refine J2 rfl ?_ | refine LK rfl ?_
          all_goals first | refine LR rfl (Jx rfl rfl) ?_ | refine LR rfl (J5 rfl rfl) ?_
          all_goals (
           refine Jt (hK19 ?_); refine Jl rfl (fun g => ?_) (fun g => ?_)
           try simp only [ZZ] at g
           refine sR fun _ hK24 => ?_; refine Jb rfl ?_; refine nK hK24 ?_; refine Jd (Ji ?_); refine Jr (Ji ?_); refine Ji (Jr (Ji ?_)); refine pT rfl rfl rfl fun w1 hs1 => ?_; refine ⟨?_, hs1.keep⟩; rw [show XH c (xs.map TxL.er) = 9 from by unfold XH; rw [if_neg (by omega), if_neg (by rw [List.length_map]; omega), hdr, ZP hy, jV, if_pos (by show y.kind < 0 ∨ y.kind > 2; omega)]]; rfl
           · try exact Bool.noConfusion g
             all_goals try simp only [ZZ] at g
             all_goals (
              refine Jg (hK18 ?_); refine sQ fun _ hK25 => ?_; refine sR fun _ hK26 => ?_; refine LR rfl (Jm (xs := y.cells) (n := 36) rfl (kn 0 rfl) rfl rfl rfl) ?_; refine J4 rfl rfl rfl Jeu (WG (hin y hmy) (show K012 y.kind by unfold K012; omega)) oR ?_; refine Jb rfl ?_; refine nK hK26 ?_; refine sR fun _ hK27 => ?_; refine Jb rfl (J2 rfl ?_); refine nK hK27 ?_; refine cD (fun g => ?_) fun g => ?_
              refine sR fun _ hK29 => ?_; refine Jb rfl (Jb rfl ?_); refine nK hK29 ?_; refine Jd (Ji ?_); refine Jr (Ji ?_); refine Ji (Jr (Ji ?_)); refine pT rfl rfl rfl fun w1 hs1 => ?_; refine ⟨?_, hs1.keep⟩; rw [show XH c (xs.map TxL.er) = Wx y.er from by unfold XH; rw [if_neg (by omega), if_neg (by rw [List.length_map]; omega), hdr, ZP hy, jV, if_neg (by show ¬ (y.kind < 0 ∨ y.kind > 2); omega), if_pos (by assumption)]]; rfl
              · refine Jg (hK25 ?_); refine sR fun _ hK30 => ?_
                refine LR rfl (Ja rfl rfl (by first | (simp only [Nat.zero_add, Nat.reduceAdd, Nat.reduceMul, Nat.zero_mul, Nat.mul_one, Nat.add_zero]; exact rfl) | exact rfl)) ?_; refine LR rfl (Jc rfl (kn 0 rfl) rfl rfl) ?_; refine Jb rfl (J2 rfl (Jb rfl ?_))
                refine JM 42 rfl (fun gb => ?_) (fun gb => ?_) <;> (try simp only [ZZ] at gb) <;> first | (refine LR rfl (Ja rfl rfl (by first | (simp only [Nat.zero_add, Nat.reduceAdd, Nat.reduceMul, Nat.zero_mul, Nat.mul_one, Nat.add_zero]; exact rfl) | exact rfl)) ?_) | (refine LK rfl ?_)
                all_goals first | refine LR rfl (Jc rfl (kn 0 rfl) rfl rfl) ?_ | refine LK rfl ?_
                all_goals first | refine J2 rfl ?_ | refine LK rfl ?_
                all_goals first | refine Jb rfl ?_ | refine LK rfl ?_
                all_goals first | refine LK rfl ?_ | (refine JM 46 rfl (fun gb => ?_) (fun gb => ?_) <;> (try simp only [ZZ] at gb) <;> first | (refine LR rfl (Ja rfl rfl (by first | (simp only [Nat.zero_add, Nat.reduceAdd, Nat.reduceMul, Nat.zero_mul, Nat.mul_one, Nat.add_zero]; exact rfl) | exact rfl)) ?_) | (refine LK rfl ?_))
                all_goals first | refine LR rfl (Jc rfl (kn 0 rfl) rfl rfl) ?_ | refine LK rfl ?_
                all_goals first | refine J2 rfl ?_ | refine LK rfl ?_
                all_goals first | refine LR rfl (Jx rfl rfl) ?_ | refine LR rfl (J5 rfl rfl) ?_ | refine LK rfl ?_
                all_goals first | refine LR rfl (Jx rfl rfl) ?_ | refine LR rfl (J5 rfl rfl) ?_
                all_goals (
                 refine Jt (hK30 ?_); refine Jl rfl (fun g => ?_) (fun g => ?_)
                 · try exact Bool.noConfusion g
                   all_goals try simp only [ZZ] at g
                   all_goals (
                    refine sR fun _ hK40 => ?_; refine Jb rfl ?_; refine nK hK40 ?_; refine Jd (Jr (Ji ?_)); refine Ji (Jr (Ji ?_)); refine pT rfl rfl rfl fun w1 hs1 => ?_; refine ⟨?_, hs1.keep⟩; rw [show XH c (xs.map TxL.er) = 2 from by unfold XH; rw [if_neg (by omega), if_neg (by rw [List.length_map]; omega), hdr, ZP hy, jV, if_neg (by show ¬ (y.kind < 0 ∨ y.kind > 2); omega), if_neg (by omega), if_pos (by show y.chain ≠ c ∧ (y.kind ≠ 0 ∨ y.chain ≠ 0); omega)]]; rfl
                    skip)
                 · try exact Bool.noConfusion g
                   all_goals try simp only [ZZ] at g
                   all_goals (
                    refine Jg (Jo (hK16 ?_)); refine Je ?_
                    refine J2 rfl ?_; refine JA (show _ = Value.int .i64 ((i + 1 : Nat) : Int) from by rw [wrap_i64 (by omega) (by omega)]; congr 1 <;> omega) ?_; refine Jb rfl (Jt (JU ?_)); exact JN (i + 1) ⟨by omega, by rw [hdr, ZP hy, jV, if_neg (by show ¬ (y.kind < 0 ∨ y.kind > 2); omega), if_neg (by omega), if_neg (by show ¬ (y.chain ≠ c ∧ (y.kind ≠ 0 ∨ y.chain ≠ 0)); omega)]⟩ (by omega) (lK rfl) (List.nil_sublist _) (fun _ _ h => h)
                    skip)
                 skip)
              skip)
           skip)
        refine JL (Jn ?_); refine Jn (J8 (hK11 ?_)); refine sR fun _ hK41 => ?_; refine Jb rfl ?_; refine nK hK41 ?_; refine Jd ?_; refine pT rfl rfl rfl fun w1 hs1 => ?_; refine ⟨?_, hs1.keep⟩; rw [show XH c (xs.map TxL.er) = 0 from by unfold XH; rw [if_neg (by omega), if_neg (by rw [List.length_map]; omega), hdr, show i = xs.length by omega, List.drop_length]; rfl]; rfl
      skip)
   skip)
theorem Ja2 {R : Jy} {t : TxL} (ht : t.In R) : PureT (α := Bool) Tryz.prog 26 [t.val].toArray (fun b => .bool b) [] (fun _ => []) R := by
  have ht1 := ht.accS
  have ht2 := ht.auS
  have ht3 := ht.accL
  have ht4 := ht.auL
  refine J1 Tryz.func26 rfl rfl fun w => ?_; refine sR fun _ hK1 => ?_; refine JX (cs := List.toArray (t.cells)) rfl rfl rfl rfl fun r0 => ?_; refine Jb rfl ?_; refine nK hK1 ?_; refine sQ fun _ hK2 => ?_; refine sR fun _ hK3 => ?_
  refine LR rfl (Ja rfl rfl (by first | (simp only [Nat.zero_add, Nat.reduceAdd, Nat.reduceMul, Nat.zero_mul, Nat.mul_one, Nat.add_zero]; exact rfl) | exact rfl)) ?_; refine LR rfl (Jc rfl (kn 0 rfl) rfl rfl) ?_; refine LR rfl (JI rfl rfl) ?_; refine J2 rfl (Jb rfl ?_)
  refine JM 10 rfl (fun gb => ?_) (fun gb => ?_) <;> (try simp only [ZZ] at gb) <;> first | (refine LR rfl (Ja rfl rfl (by first | (simp only [Nat.zero_add, Nat.reduceAdd, Nat.reduceMul, Nat.zero_mul, Nat.mul_one, Nat.add_zero]; exact rfl) | exact rfl)) ?_) | (refine LK rfl ?_)
  all_goals first | refine LR rfl (Jc rfl (kn 0 rfl) rfl rfl) ?_ | refine LK rfl ?_
  all_goals first | refine LR rfl (JI rfl rfl) ?_ | refine LK rfl ?_
  all_goals first | refine J2 rfl ?_ | refine LK rfl ?_
  all_goals first | refine LR rfl (Jx rfl rfl) ?_ | refine LR rfl (J5 rfl rfl) ?_
  all_goals refine Jb rfl ?_
  all_goals first | (refine LR rfl (Ja rfl rfl (by first | (simp only [Nat.zero_add, Nat.reduceAdd, Nat.reduceMul, Nat.zero_mul, Nat.mul_one, Nat.add_zero]; exact rfl) | exact rfl)) ?_) | (refine JM 16 rfl (fun gb => ?_) (fun gb => ?_) <;> (try simp only [ZZ] at gb) <;> first | (refine LR rfl (Ja rfl rfl (by first | (simp only [Nat.zero_add, Nat.reduceAdd, Nat.reduceMul, Nat.zero_mul, Nat.mul_one, Nat.add_zero]; exact rfl) | exact rfl)) ?_) | (refine LK rfl ?_))
  all_goals first | refine LR rfl (Jc rfl (kn 0 rfl) rfl rfl) ?_ | refine LK rfl ?_
  all_goals first | refine LR rfl (JJ rfl ht1 rfl) ?_ | refine LK rfl ?_
  all_goals first | refine J2 rfl ?_ | refine LK rfl ?_
  all_goals first | refine LR rfl (Jx rfl rfl) ?_ | refine LR rfl (J5 rfl rfl) ?_
  all_goals refine Jb rfl ?_
  all_goals first | refine LK rfl ?_ | (refine JM 22 rfl (fun gb => ?_) (fun gb => ?_) <;> (try simp only [ZZ] at gb) <;> first | (refine LR rfl (Ja rfl rfl (by first | (simp only [Nat.zero_add, Nat.reduceAdd, Nat.reduceMul, Nat.zero_mul, Nat.mul_one, Nat.add_zero]; exact rfl) | exact rfl)) ?_) | (refine LK rfl ?_))
  all_goals first | refine LR rfl (Jc rfl (kn 0 rfl) rfl rfl) ?_ | refine LK rfl ?_
  all_goals first | refine LR rfl (JJ rfl ht2 rfl) ?_ | refine LK rfl ?_
  all_goals first | refine J2 rfl ?_ | refine LK rfl ?_
  all_goals first | refine LR rfl (Jx rfl rfl) ?_ | refine LR rfl (J5 rfl rfl) ?_
  all_goals refine Jb rfl ?_
  all_goals first | refine LK rfl ?_ | (refine JM 28 rfl (fun gb => ?_) (fun gb => ?_) <;> (try simp only [ZZ] at gb) <;> first | (refine LR rfl (Ja rfl rfl (by first | (simp only [Nat.zero_add, Nat.reduceAdd, Nat.reduceMul, Nat.zero_mul, Nat.mul_one, Nat.add_zero]; exact rfl) | exact rfl)) ?_) | (refine LK rfl ?_))
  all_goals first | refine LR rfl (Jc rfl (kn 0 rfl) rfl rfl) ?_ | refine LK rfl ?_
  all_goals first | refine LR rfl (JI rfl rfl) ?_ | refine LK rfl ?_
  all_goals first | refine J2 rfl ?_ | refine LK rfl ?_
  all_goals first | refine LR rfl (Jx rfl rfl) ?_ | refine LR rfl (J5 rfl rfl) ?_
  all_goals refine Jb rfl ?_
  all_goals first | refine LK rfl ?_ | (refine JM 34 rfl (fun gb => ?_) (fun gb => ?_) <;> (try simp only [ZZ] at gb) <;> first | (refine LR rfl (Ja rfl rfl (by first | (simp only [Nat.zero_add, Nat.reduceAdd, Nat.reduceMul, Nat.zero_mul, Nat.mul_one, Nat.add_zero]; exact rfl) | exact rfl)) ?_) | (refine LK rfl ?_))
  all_goals first | refine LR rfl (Jc rfl (kn 0 rfl) rfl rfl) ?_ | refine LK rfl ?_
  all_goals first | refine LR rfl (JI rfl rfl) ?_ | refine LK rfl ?_
  all_goals first | refine J2 rfl ?_ | refine LK rfl ?_
  all_goals first | refine LR rfl (Jx rfl rfl) ?_ | refine LR rfl (J5 rfl rfl) ?_
  all_goals refine Jb rfl ?_
  all_goals first | refine LK rfl ?_ | (refine JM 40 rfl (fun gb => ?_) (fun gb => ?_) <;> (try simp only [ZZ] at gb) <;> first | (refine LR rfl (Ja rfl rfl (by first | (simp only [Nat.zero_add, Nat.reduceAdd, Nat.reduceMul, Nat.zero_mul, Nat.mul_one, Nat.add_zero]; exact rfl) | exact rfl)) ?_) | (refine LK rfl ?_))
  all_goals first | refine LR rfl (Jc rfl (kn 0 rfl) rfl rfl) ?_ | refine LK rfl ?_
  all_goals first | refine LR rfl (JI rfl rfl) ?_ | refine LK rfl ?_
  all_goals first | refine J2 rfl ?_ | refine LK rfl ?_
  all_goals first | refine LR rfl (Jx rfl rfl) ?_ | refine LR rfl (J5 rfl rfl) ?_
  all_goals (
   refine Jt (hK3 ?_); refine Jl rfl (fun g => ?_) (fun g => ?_)
   try simp only [ZZ] at g
   refine sR fun _ hK29 => ?_; refine Jb rfl ?_; refine nK hK29 ?_; refine Jd (Ji ?_); refine pT rfl rfl rfl fun w1 hs1 => ?_; exact ⟨false, rfl, hs1.weakL (List.nil_sublist _)⟩
   · try exact Bool.noConfusion g
     all_goals try simp only [ZZ] at g
     all_goals (
      refine Jg (hK2 ?_); refine sQ fun _ hK30 => ?_; refine sR fun _ hK31 => ?_; refine Jb rfl ?_; refine nK hK31 ?_; refine J3 (JS (σ := Nat) (fun i => i ≤ t.acc.length) (fun i => [(1, Kw r0), (3, .int .i64 (i : Int))]) (fun _ => [(r0, .cells (List.toArray t.cells) 33 (0, 0))]) (fun _ _ _ => True) (fun i => t.acc.length - i) 0 (Nat.zero_le _) (lK rfl) (List.Sublist.refl _) (fun _ _ h => h) ?_); intro i hi1; refine sQ fun _ hK32 => ?_; refine sR fun _ hK33 => ?_; refine Jb rfl ?_
      refine LR rfl (Ja rfl rfl (by first | (simp only [Nat.zero_add, Nat.reduceAdd, Nat.reduceMul, Nat.zero_mul, Nat.mul_one, Nat.add_zero]; exact rfl) | exact rfl)) ?_; refine LR rfl (Jc rfl (kn 0 rfl) rfl rfl) ?_; refine LR rfl (JJ rfl ht1 rfl) ?_; refine J2 rfl ?_; refine nK hK33 ?_; refine cD (fun g => ?_) fun g => ?_
      · refine Jg (hK32 ?_); refine sB fun _ hK35 => ?_; refine sQ fun _ hK36 => ?_; refine sQ fun _ hK37 => ?_
        obtain ⟨a, ha, hma⟩ := QA (show i < t.acc.length by omega)
        have hal := (ht.acc a hma).len
        refine Je ?_
        refine LR rfl (Ja rfl rfl (by first | (simp only [Nat.zero_add, Nat.reduceAdd, Nat.reduceMul, Nat.zero_mul, Nat.mul_one, Nat.add_zero]; exact rfl) | exact rfl)) ?_; refine LR rfl (Jc rfl (kn 0 rfl) rfl rfl) ?_; refine Jb rfl ?_
        refine LR rfl (JB (j := i) rfl ht.accS rfl rfl rfl (by first | rfl | omega) (by omega)) ?_; refine LR rfl (Ja (off' := Wj t.accP + (i * 2 + 1)) rfl rfl (by show Wj t.accP + i * 2 + 1 = _; omega)) ?_; refine LR rfl (KR AxL.len (k := 1) (v := Ky a.keys.length a.p) oR rfl ht.accS ha rfl rfl) ?_; refine LR rfl (JJ rfl (ht.acc a hma).seg rfl) ?_; refine J2 rfl (Jb rfl ?_)
        refine JM 61 rfl (fun gb => ?_) (fun gb => ?_) <;> (try simp only [ZZ] at gb) <;> first | (refine LR rfl (Ja rfl rfl (by first | (simp only [Nat.zero_add, Nat.reduceAdd, Nat.reduceMul, Nat.zero_mul, Nat.mul_one, Nat.add_zero]; exact rfl) | exact rfl)) ?_) | (refine LK rfl ?_)
        all_goals first | refine LR rfl (Jc rfl (kn 0 rfl) rfl rfl) ?_ | refine LK rfl ?_
        all_goals first | refine Jb rfl ?_ | refine LK rfl ?_
        all_goals first | (refine LR rfl (JB (j := i) rfl ht.accS rfl rfl rfl (by first | rfl | omega) (by omega)) ?_) | refine LK rfl ?_
        all_goals first | (refine LR rfl (Ja (off' := Wj t.accP + (i * 2 + 0)) rfl rfl (by show Wj t.accP + i * 2 + 0 = _; omega)) ?_) | refine LK rfl ?_
        all_goals first | refine LR rfl (KR AxL.len (k := 0) (v := Jq a.addr) oR rfl ht.accS ha rfl rfl) ?_ | refine LK rfl ?_
        all_goals first | refine LR rfl (JI rfl rfl) ?_ | refine LK rfl ?_
        all_goals first | refine J2 rfl ?_ | refine LK rfl ?_
        all_goals first | refine LR rfl (Jx rfl rfl) ?_ | refine LR rfl (J5 rfl rfl) ?_
        all_goals (
         refine Jt (hK37 ?_); refine Jl rfl (fun g => ?_) (fun g => ?_)
         try simp only [ZZ] at g
         refine sR fun _ hK47 => ?_; refine Jb rfl ?_; refine nK hK47 ?_; refine Jd (Ji ?_); refine Jr (Ji ?_); refine Ji (Jr (Ji ?_)); refine pT rfl rfl rfl fun w1 hs1 => ?_; exact ⟨false, rfl, hs1.weakL (List.nil_sublist _)⟩
         · try exact Bool.noConfusion g
           all_goals try simp only [ZZ] at g
           all_goals (
            refine Jg (hK36 ?_); refine sR fun _ hK48 => ?_; refine Jb rfl ?_; refine nK hK48 ?_; refine J3 (JS (σ := Nat) (fun k => k ≤ a.keys.length) (fun k => [(1, Kw r0), (3, .int .i64 (i : Int)), (4, .int .i64 (k : Int))]) (fun _ => [(r0, .cells (List.toArray t.cells) 33 (0, 0))]) (fun _ _ _ => True) (fun k => a.keys.length - k) 0 (Nat.zero_le _) (lK rfl) (List.Sublist.refl _) (fun _ _ h => h) ?_); intro k hk1; refine sQ fun _ hK49 => ?_; refine sR fun _ hK50 => ?_; refine Jb rfl ?_
            refine LR rfl (Ja rfl rfl (by first | (simp only [Nat.zero_add, Nat.reduceAdd, Nat.reduceMul, Nat.zero_mul, Nat.mul_one, Nat.add_zero]; exact rfl) | exact rfl)) ?_; refine LR rfl (Jc rfl (kn 0 rfl) rfl rfl) ?_; refine Jb rfl ?_
            refine LR rfl (JB (j := i) rfl ht.accS rfl rfl rfl (by first | rfl | omega) (by omega)) ?_; refine LR rfl (Ja (off' := Wj t.accP + (i * 2 + 1)) rfl rfl (by show Wj t.accP + i * 2 + 1 = _; omega)) ?_; refine LR rfl (KR AxL.len (k := 1) (v := Ky a.keys.length a.p) oR rfl ht.accS ha rfl rfl) ?_; refine LR rfl (JJ rfl (ht.acc a hma).seg rfl) ?_; refine J2 rfl ?_; refine nK hK50 ?_; refine cD (fun g => ?_) fun g => ?_
            · refine Jg (hK49 ?_); refine sB fun _ hK52 => ?_; refine sQ fun _ hK53 => ?_
              obtain ⟨z, hz, hmz⟩ := QA (show k < a.keys.length by omega)
              refine Je ?_
              refine LR rfl (Ja rfl rfl (by first | (simp only [Nat.zero_add, Nat.reduceAdd, Nat.reduceMul, Nat.zero_mul, Nat.mul_one, Nat.add_zero]; exact rfl) | exact rfl)) ?_; refine LR rfl (Jc rfl (kn 0 rfl) rfl rfl) ?_; refine Jb rfl ?_
              refine LR rfl (JB (j := i) rfl ht.accS rfl rfl rfl (by first | rfl | omega) (by omega)) ?_; refine LR rfl (Ja (off' := Wj t.accP + (i * 2 + 1)) rfl rfl (by show Wj t.accP + i * 2 + 1 = _; omega)) ?_; refine LR rfl (KR AxL.len (k := 1) (v := Ky a.keys.length a.p) oR rfl ht.accS ha rfl rfl) ?_; refine Jb rfl ?_
              refine LR rfl (JB (j := k) rfl (ht.acc a hma).seg rfl rfl rfl (by first | rfl | omega) (by omega)) ?_; refine LR rfl (Qy oR rfl (ht.acc a hma).seg (by omega) rfl (show (KN a.keys)[k]? = some (Jq z) from by unfold KN; rw [List.getElem?_map, hz]; rfl)) ?_; refine LR rfl (JI rfl rfl) ?_; refine J2 rfl ?_; refine nK hK53 ?_; refine cD (fun g => ?_) fun g => ?_
              refine sR fun _ hK55 => ?_; refine Jb rfl ?_; refine nK hK55 ?_; refine Jd (Jr (Ji ?_)); refine Ji (Jr ?_); refine Jr (Ji ?_); refine Ji (Jr (Ji ?_)); refine pT rfl rfl rfl fun w1 hs1 => ?_; exact ⟨false, rfl, hs1.weakL (List.nil_sublist _)⟩
              · refine Jg (Jo (hK52 ?_)); refine Je (Jb rfl ?_)
                refine J2 rfl ?_; refine JA (show _ = Value.int .i64 ((k + 1 : Nat) : Int) from by rw [wrap_i64 (by omega) (by omega)]; congr 1 <;> omega) ?_; refine Jb rfl (Jt (JU ?_)); exact JN (k + 1) (by omega) (by omega) (lK rfl) (List.Sublist.refl _) (fun _ _ h => h)
            · refine JL (Jn ?_); refine Jn (J8 ?_); refine Jo (hK35 ?_); refine Je (Jb rfl ?_)
              refine J2 rfl ?_; refine JA (show _ = Value.int .i64 ((i + 1 : Nat) : Int) from by rw [wrap_i64 (by omega) (by omega)]; congr 1 <;> omega) ?_; refine Jb rfl (Jt (JU ?_)); exact JN (i + 1) (by omega) (by omega) (lK rfl) (List.Sublist.refl _) (fun _ _ h => h)
            skip)
         skip)
      · refine JL (Jn ?_); refine Jn (J8 (hK30 ?_)); refine sQ fun _ hK56 => ?_; refine sR fun _ hK57 => ?_; refine Jb rfl ?_; refine nK hK57 ?_; refine J3 (JS (σ := Nat) (fun i => i ≤ t.auths.length) (fun i => [(1, Kw r0), (5, .int .i64 (i : Int))]) (fun _ => [(r0, .cells (List.toArray t.cells) 33 (0, 0))]) (fun _ _ _ => True) (fun i => t.auths.length - i) 0 (Nat.zero_le _) (lK rfl) (List.Sublist.refl _) (fun _ _ h => h) ?_); intro i hi1; refine sQ fun _ hK58 => ?_; refine sR fun _ hK59 => ?_; refine Jb rfl ?_
        refine LR rfl (Ja rfl rfl (by first | (simp only [Nat.zero_add, Nat.reduceAdd, Nat.reduceMul, Nat.zero_mul, Nat.mul_one, Nat.add_zero]; exact rfl) | exact rfl)) ?_; refine LR rfl (Jc rfl (kn 0 rfl) rfl rfl) ?_; refine LR rfl (JJ rfl ht2 rfl) ?_; refine J2 rfl ?_; refine nK hK59 ?_; refine cD (fun g => ?_) fun g => ?_
        · refine Jg (hK58 ?_); refine sB fun _ hK61 => ?_; refine sQ fun _ hK62 => ?_
          obtain ⟨u, hu, hmu⟩ := QA (show i < t.auths.length by omega)
          refine Je ?_
          refine LR rfl (Ja rfl rfl (by first | (simp only [Nat.zero_add, Nat.reduceAdd, Nat.reduceMul, Nat.zero_mul, Nat.mul_one, Nat.add_zero]; exact rfl) | exact rfl)) ?_; refine LR rfl (Jc rfl (kn 0 rfl) rfl rfl) ?_; refine Jb rfl ?_
          refine LR rfl (JB (j := i) rfl ht.auS rfl rfl rfl (by first | rfl | omega) (by omega)) ?_; refine LR rfl (Ja (off' := Wj t.auP + (i * 12 + 1)) rfl rfl (by show Wj t.auP + i * 12 + 1 = _; omega)) ?_; refine LR rfl (KR AuE.len (k := 1) (v := Jq u.addr) oR rfl ht.auS hu rfl rfl) ?_; refine LR rfl (JI rfl rfl) ?_; refine J2 rfl ?_; refine nK hK62 ?_; refine cD (fun g => ?_) fun g => ?_
          refine sR fun _ hK64 => ?_; refine Jb rfl ?_; refine nK hK64 ?_; refine Jd (Jr (Ji ?_)); refine Ji (Jr (Ji ?_)); refine pT rfl rfl rfl fun w1 hs1 => ?_; exact ⟨false, rfl, hs1.weakL (List.nil_sublist _)⟩
          · refine Jg (Jo (hK61 ?_)); refine Je (Jb rfl ?_)
            refine J2 rfl ?_; refine JA (show _ = Value.int .i64 ((i + 1 : Nat) : Int) from by rw [wrap_i64 (by omega) (by omega)]; congr 1 <;> omega) ?_; refine Jb rfl (Jt (JU ?_)); exact JN (i + 1) (by omega) (by omega) (lK rfl) (List.Sublist.refl _) (fun _ _ h => h)
        refine JL (Jn ?_); refine Jn (J8 (hK56 ?_)); refine sR fun _ hK65 => ?_; refine Jb rfl ?_; refine nK hK65 ?_; refine Jd ?_; refine pT rfl rfl rfl fun w1 hs1 => ?_; exact ⟨true, rfl, hs1.weakL (List.nil_sublist _)⟩
      skip)
   skip)
section
variable {c : Cx} {l : KK} {L : Jy} {X : XP} {Q : Exit → Act → World → Prop} {d : List Deferred}
variable {ops : Array Oper} {rest : List Oper} {i : Nat} {v : Value} {t : TypeId} {ps : String} {af : Array Edge} {gd : Option (Nat × Bool)} {ty : TypeId}
theorem yz {x y : Operand} {e sz b n m : Nat} {z : Value} {p : Pl} {news xs : List Value} {R L0 : Jy} {row : QH}
  (hp : L.Perm (Kk e xs row ++ L0)) (hg : Kx l ops ⟨some i, .call ⟨.builtin .append, #[x, y], #[t, t]⟩, ty, ps, af, gd⟩ = some true) (hi : Nat.ble (i + 1) c.n = true) (hx : Kz l x = some (JO n row)) (hy : Kz l y = some (Ky m p)) (hs : Seg R m news p) (hR : ∀ q ∈ R, known c L0 q.1 q.2)
  (ht : KI c.P t = some e) (hz : Qv c.P e = some z) (hsz : Qd c.P e = some sz) (hb : qP c.P e = some b) (hzs : z.cells.size = sz) (h0 : 0 < sz) (hcs : news.length = m * sz) (hone : news.all QX = true) (ho : rowOk sz n xs row) (h63 : n + m ≤ 9223372036854775807) (h47 : (n + m) * b ≤ 140737488355328)
  (h : ∀ row', rowOk sz (n + m) (xs ++ news) row' → HL c d ((i, JO (n + m) row') :: l) (Kk e (xs ++ news) row' ++ L0) X ops rest Q) : HL c d l L X ops (⟨some i, .call ⟨.builtin .append, #[x, y], #[t, t]⟩, ty, ps, af, gd⟩ :: rest) Q := by
 by_cases hm : m = 0
 ·subst hm
  have hn0 : news = [] := List.length_eq_zero_iff.1 (by rw [hcs, Nat.zero_mul])
  subst hn0
  have h2 := h row (by rw [List.append_nil, Nat.add_zero]; exact ho)
  rw [List.append_nil, Nat.add_zero] at h2; refine Kv hp ?_
  cases row with
  | none => exact jv hg hi (show _ = some (Value.slice none n 0) from by rw [hx, ho.1]; rfl) hy ht hsz (by rw [ho.1]; exact Nat.le_refl _) (by rw [ho.1] at h2 ⊢; exact h2)
  | some q =>
   obtain ⟨r, cap, sp⟩ := q
   refine jv hg hi hx hy ht hsz ?_ h2
   have h3 := ho.2
   exact Nat.le_of_mul_le_mul_right (by omega : n * sz ≤ cap * sz) h0
 ·cases p with
  | none => exact absurd hs hm
  | some q =>
   obtain ⟨⟨r2, o2, s2⟩, cap⟩ := q
   obtain ⟨hs1, hs2⟩ := hs
   obtain ⟨h3, all, e', fr, h4, h5⟩ := hs2 (by omega)
   have h3 : s2 = none := h3
   subst h3; rw [hcs] at h5; refine Kh hp hg hi hx hy (hR _ h4) ht hz hsz hb hzs h0 h5 hcs hone (by omega) ho h63 h47 fun r' cap' spare hok => ?_; exact h (some (r', cap', spare)) hok
end
structure BlL where
  origin : Bool
  p : Pl
  txs : List TxL
def BlL.cells (b : BlL) : List Value := [.bool b.origin, Ky b.txs.length b.p]
theorem BlL.len (b : BlL) : b.cells.length = 2 := rfl
structure BlL.In (R : Jy) (b : BlL) : Prop where
  len : b.txs.length ≤ 9223372036854775807
  seg : Seg R b.txs.length (V0 b.txs) b.p
  txs : ∀ t ∈ b.txs, t.In R
theorem BlL.In.mono {R R' : Jy} (hs : ∀ q ∈ R, q ∈ R') {b : BlL} (h : b.In R) : b.In R' := ⟨h.len, h.seg.mono hs, fun t ht => (h.txs t ht).mono hs⟩
structure SpL where
  time : Nat
  epoch : Nat
  parent : BS
  hash : BS
  p : Pl
  blocks : List BlL
def Jpl (l : List BlL) : List Value := l.flatMap BlL.cells
def SpL.cells (s : SpL) : List Value := [uV s.time, uV s.epoch, Jq s.parent, Jq s.hash, Ky s.blocks.length s.p]
def SpL.val (s : SpL) : Value := .agg s.cells.toArray
structure SpL.In (R : Jy) (s : SpL) : Prop where
  time : VG s.time
  epoch : VG s.epoch
  parent : s.parent.length ≤ 9223372036854775807
  hash : s.hash.length ≤ 9223372036854775807
  len : s.blocks.length ≤ 9223372036854775807
  seg : Seg R s.blocks.length (Jpl s.blocks) s.p
  blocks : ∀ b ∈ s.blocks, b.In R
theorem SpL.In.mono {R R' : Jy} {s : SpL} (h : s.In R) (hs : ∀ q ∈ R, q ∈ R') : s.In R' := ⟨h.time, h.epoch, h.parent, h.hash, h.len, h.seg.mono hs, fun b hb => (h.blocks b hb).mono hs⟩
def KU (l : List BlL) : List TxL := l.flatMap BlL.txs
theorem jD (a b : List BlL) : KU (a ++ b) = KU a ++ KU b := by unfold KU; rw [List.flatMap_append]
theorem XE {l : List BlL} {i : Nat} {b : BlL} (h : l[i]? = some b) : KU (l.take (i + 1)) = KU (l.take i) ++ b.txs := by
 rw [List.take_add_one, h, Option.toList_some, jD]; simp [KU]
theorem jE (a b : List TxL) : V0 (a ++ b) = V0 a ++ V0 b := by unfold V0; rw [List.flatMap_append]
theorem Jgm (l : List TxL) : (V0 l).length = l.length * 36 := ZL TxL.len l
theorem Jgn (l : List TxL) : (V0 l).all QX = true := by
 rw [List.all_eq_true]; intro v hv
 obtain ⟨t, _, h⟩ := List.mem_flatMap.1 hv
 exact List.all_eq_true.1 (TxL.one t) v h
theorem Jjb {R : Jy} {xs : List TxL} {p : Pl} (hl : xs.length ≤ 9223372036854775807) (hs : Seg R xs.length (V0 xs) p) (hin : ∀ x ∈ xs, x.In R) :
    PureT (α := { b : Bool // b = true → xs.length ≤ 12 }) Tryz.prog 90 [Ky xs.length p].toArray (fun b => .bool b.1) [] (fun _ => []) R := by
  refine J1 Tryz.func90 rfl rfl fun w => ?_; refine sR fun _ hK1 => ?_; refine Jb rfl ?_; refine nK hK1 ?_; refine sQ fun _ hK2 => ?_; refine sR fun _ hK3 => ?_; refine Jb rfl ?_; refine nK hK3 ?_; refine J3 (JS (σ := Nat) (fun i => i ≤ xs.length) (fun i => [(0, Ky xs.length p), (3, .int .i64 (i : Int))]) (fun _ => []) (fun _ _ _ => True) (fun i => xs.length - i) 0 (Nat.zero_le _) (lK rfl) (List.nil_sublist _) (fun _ _ h => h) ?_); intro i hi1; refine sQ fun _ hK4 => ?_; refine sR fun _ hK5 => ?_; refine Jb rfl (Jb rfl (LR rfl (JJ rfl hs rfl) ?_)); refine J2 rfl (Jb rfl ?_)
  refine JM 9 rfl (fun gb => ?_) (fun gb => ?_) <;> (try simp only [ZZ] at gb) <;> first | (refine Jb rfl ?_) | (refine LK rfl ?_)
  all_goals first | refine J2 rfl ?_ | refine LK rfl ?_
  all_goals first | refine LR rfl (Jx rfl rfl) ?_ | refine LR rfl (J5 rfl rfl) ?_
  all_goals (
   refine Jt (hK5 ?_); refine Jl rfl (fun g => ?_) (fun g => ?_)
   · try exact Bool.noConfusion g
     all_goals try simp only [ZZ] at g
     all_goals (
      refine Jg (hK4 ?_); refine sB fun _ hK9 => ?_; refine sQ fun _ hK10 => ?_
      obtain ⟨y, hy, hmy⟩ := QA (show i < xs.length by omega)
      refine Je (Jb rfl (Jb rfl ?_))
      refine LR rfl (JB (j := i) rfl hs rfl rfl rfl (by first | rfl | omega) (by omega)) ?_; refine LR rfl (Kt TxL.len oR rfl hs hy rfl rfl) ?_; refine Ka rfl rfl rfl (enters_of Tryz.func26 (by kernel_rfl) rfl) (Ja2 (hin y hmy)) oR fun yb => ?_; refine Jb rfl ?_; refine nK hK10 ?_; refine sR fun _ hK11 => ?_; refine Jb rfl (J2 rfl ?_); refine nK hK11 ?_; refine cD (fun g => ?_) fun g => ?_
      refine sR fun _ hK13 => ?_; refine Jb rfl ?_; refine nK hK13 ?_; refine Jd (Jr (Ji ?_)); refine Ji (Jr (Ji ?_)); refine pT rfl rfl rfl fun w1 hs1 => ?_; exact ⟨⟨false, fun h => nomatch h⟩, rfl, hs1.weakL (List.nil_sublist _)⟩
      · refine Jg (Jo (hK9 ?_)); refine Je (Jb rfl ?_)
        refine J2 rfl ?_; refine JA (show _ = Value.int .i64 ((i + 1 : Nat) : Int) from by rw [wrap_i64 (by omega) (by omega)]; congr 1 <;> omega) ?_; refine Jb rfl (Jt (JU ?_)); exact JN (i + 1) (by omega) (by omega) (lK rfl) (List.nil_sublist _) (fun _ _ h => h)
      skip)
   try simp only [ZZ] at g
   refine JL (Jn ?_); refine Jn (J8 (hK2 ?_)); refine sR fun _ hK14 => ?_; refine Jb rfl (LR rfl (JJ rfl hs rfl) ?_); refine J2 rfl (Jb rfl ?_); refine nK hK14 ?_; refine Jd ?_; refine pT rfl rfl rfl fun w1 hs1 => ?_; exact ⟨⟨_, fun h => by have h := of_decide_eq_true h; omega⟩, rfl, hs1.weakL (List.nil_sublist _)⟩
   skip)
theorem Jjc {l : List BlL} {n : Nat} : ∀ (h : ∀ b ∈ l, b.txs.length ≤ n), (KU l).length ≤ l.length * n := by
 induction l with
 | nil => intro _; simp [KU]
 | cons b r ih =>
  intro h
  have h1 := ih fun x hx => h x (List.mem_cons_of_mem _ hx)
  have h2 := h b List.mem_cons_self
  simp only [KU, List.flatMap_cons, List.length_append, List.length_cons, Nat.succ_mul] at h1 ⊢; omega
theorem qI {l : List BlL} (i : Nat) : (KU (l.take i)).length ≤ (KU l).length := by
 have h : KU l = KU (l.take i) ++ KU (l.drop i) := by rw [← jD, List.take_append_drop]
 rw [h, List.length_append]; omega
theorem Jjd {R : Jy} {s : SpL} (hs : s.In R) (hm : (KU s.blocks).length ≤ 1000) :
  PureT (α := { row : QH // rowOk 36 (KU s.blocks).length (V0 (KU s.blocks)) row }) Tryz.prog 91 [s.val].toArray (fun y => JO (KU s.blocks).length y.1) [] (fun y => Kk 33 (V0 (KU s.blocks)) y.1) R := by
 have hsl := hs.len
 have hsg := hs.seg
 refine J1 Tryz.func91 rfl rfl fun w => ?_; refine sR fun _ hK1 => ?_; refine JX (cs := List.toArray (s.cells)) rfl rfl rfl rfl fun r0 => ?_; refine Jb rfl ?_; refine nK hK1 ?_; refine sR fun _ hK2 => ?_; refine Jb rfl ?_; refine nK hK2 ?_; refine sQ fun _ hK3 => ?_; refine sR fun _ hK4 => ?_; refine Jb rfl ?_; refine nK hK4 ?_; refine J3 (JS (σ := Nat × QH) (fun z => z.1 ≤ s.blocks.length ∧ rowOk 36 (KU (s.blocks.take z.1)).length (V0 (KU (s.blocks.take z.1))) z.2) (fun z => [(1, Kw r0), (3, JO (KU (s.blocks.take z.1)).length z.2), (4, .int .i64 (z.1 : Int))]) (fun z => (r0, .cells (List.toArray s.cells) 25 (0, 0)) :: Kk 33 (V0 (KU (s.blocks.take z.1))) z.2) (fun _ _ _ => True) (fun z => s.blocks.length - z.1) (0, none) ⟨Nat.zero_le _, rfl, rfl⟩ (lK rfl) (List.Sublist.refl _) (fun _ _ h => h) ?_); rintro ⟨i, row⟩ hI
 obtain ⟨hi1, hrow⟩ := hI
 simp only at hi1 hrow; change HC _ _ _ ((r0, .cells (List.toArray s.cells) 25 (0, 0)) :: Kk 33 (V0 (KU (s.blocks.take i))) row) _ _ _; refine sQ fun _ hK5 => ?_; refine sR fun _ hK6 => ?_; refine Jb rfl ?_
 refine LR rfl (Ja rfl rfl (by first | (simp only [Nat.zero_add, Nat.reduceAdd, Nat.reduceMul, Nat.zero_mul, Nat.mul_one, Nat.add_zero]; exact rfl) | exact rfl)) ?_; refine LR rfl (Jc rfl (kn 0 rfl) rfl rfl) ?_; refine LR rfl (JJ rfl hsg rfl) ?_; refine J2 rfl ?_; refine nK hK6 ?_; refine cD (fun g => ?_) fun g => ?_
 ·refine Jg (hK5 ?_); refine sB fun _ hK8 => ?_
  obtain ⟨b, hb, hmb⟩ := QA (show i < s.blocks.length by omega)
  have hsn := XE hb
  have hlen : (KU (s.blocks.take i)).length + b.txs.length ≤ 1000 := by have h := qI (l := s.blocks) (i + 1); rw [hsn, List.length_append] at h; omega
  refine Je (Jb rfl ?_)
  refine LR rfl (Ja rfl rfl (by first | (simp only [Nat.zero_add, Nat.reduceAdd, Nat.reduceMul, Nat.zero_mul, Nat.mul_one, Nat.add_zero]; exact rfl) | exact rfl)) ?_; refine LR rfl (Jc rfl (kn 0 rfl) rfl rfl) ?_; refine Jb rfl ?_
  refine LR rfl (JB (j := i) rfl hs.seg rfl rfl rfl (by first | rfl | omega) (by omega)) ?_; refine LR rfl (Ja (off' := Wj s.p + (i * 2 + 1)) rfl rfl (by show Wj s.p + i * 2 + 1 = _; omega)) ?_; refine LR rfl (KR BlL.len (k := 1) (v := Ky b.txs.length b.p) oR rfl hs.seg hb rfl rfl) ?_; refine yz (e := 33) (L0 := [_]) (xs := V0 (KU (s.blocks.take i))) (row := row) (n := (KU (s.blocks.take i)).length) (sz := 36) (b := 352) (List.perm_append_comm (l₁ := [_])) rfl rfl rfl rfl (hs.blocks b hmb).seg oR rfl rfl rfl rfl rfl (by decide) (Jgm _) (Jgn _) hrow (by omega) (by omega) fun row1 hr1 => ?_; refine Kv List.perm_append_comm ?_; refine Jb rfl (Jt ?_); refine Jo (hK8 ?_); refine Je (Jb rfl ?_)
  refine J2 rfl ?_; refine JA (show _ = Value.int .i64 ((i + 1 : Nat) : Int) from by rw [wrap_i64 (by omega) (by omega)]; congr 1 <;> omega) ?_; refine Jb rfl (Jt (JU ?_)); rw [← jE, ← List.length_append, ← hsn] at hr1; rw [← jE, ← List.length_append, ← hsn]; exact JN (i + 1, row1) ⟨by simp only; omega, hr1⟩ (by simp only; omega) (lK rfl) (List.Sublist.refl _) (fun _ _ h => h)
 ·refine JL (Jn ?_); refine Jn (J8 (hK3 ?_)); refine sR fun _ hK9 => ?_; refine Jb rfl (Jb rfl ?_); refine nK hK9 ?_; refine Jd ?_; refine pT rfl rfl rfl fun w1 hs1 => ?_
  have hiM : i = s.blocks.length := by omega
  rw [hiM, List.take_length] at hrow hs1; exact ⟨⟨row, hrow⟩, by rw [hiM, List.take_length]; rfl, hs1.weakL (.cons _ (List.Sublist.refl _))⟩
theorem Jje {R : Jy} {s : SpL} (hs : s.In R) :
    PureT (α := { b : Bool // b = true → s.blocks.length ≤ 20 ∧ (KU s.blocks).length ≤ 20 }) Tryz.prog 29 [s.val].toArray (fun b => .bool b.1) [] (fun _ => []) R := by
  have hsl := hs.len
  have hsg := hs.seg
  refine J1 Tryz.func29 rfl rfl fun w => ?_; refine sR fun _ hK1 => ?_; refine JX (cs := List.toArray (s.cells)) rfl rfl rfl rfl fun r0 => ?_; refine Jb rfl ?_; refine nK hK1 ?_; refine sQ fun _ hK2 => ?_; refine sR fun _ hK3 => ?_; refine Jb rfl ?_; refine nK hK3 ?_; refine J3 ?_; refine JS (σ := Nat) (fun i => i ≤ s.blocks.length ∧ ∀ j, j < i → ∀ b, s.blocks[j]? = some b → b.txs.length ≤ 12) (fun i => [(1, Kw r0), (3, .int .i64 (i : Int))]) (fun _ => [(r0, .cells (List.toArray s.cells) 25 (0, 0))]) (fun _ _ _ => True) (fun i => s.blocks.length - i) 0 ⟨Nat.zero_le _, fun j hj => absurd hj (by omega)⟩ (lK rfl) (List.Sublist.refl _) (fun _ _ h => h) ?_; rintro i ⟨hi1, hinv⟩; refine sQ fun _ hK4 => ?_; refine sR fun _ hK5 => ?_; refine Jb rfl ?_
  refine LR rfl (Ja rfl rfl (by first | (simp only [Nat.zero_add, Nat.reduceAdd, Nat.reduceMul, Nat.zero_mul, Nat.mul_one, Nat.add_zero]; exact rfl) | exact rfl)) ?_; refine LR rfl (Jc rfl (kn 0 rfl) rfl rfl) ?_; refine LR rfl (JJ rfl hsg rfl) ?_; refine J2 rfl (Jb rfl ?_)
  refine JM 10 rfl (fun gb => ?_) (fun gb => ?_) <;> (try simp only [ZZ] at gb) <;> first | (refine Jb rfl ?_) | (refine LK rfl ?_)
  all_goals first | refine J2 rfl ?_ | refine LK rfl ?_
  all_goals first | refine LR rfl (Jx rfl rfl) ?_ | refine LR rfl (J5 rfl rfl) ?_
  all_goals (
   refine Jt (hK5 ?_); refine Jl rfl (fun g => ?_) (fun g => ?_)
   · try exact Bool.noConfusion g
     all_goals try simp only [ZZ] at g
     all_goals (
      refine Jg (hK4 ?_); refine sB fun _ hK9 => ?_; refine sQ fun _ hK10 => ?_
      obtain ⟨b, hb, hmb⟩ := QA (show i < s.blocks.length by omega)
      refine Je ?_
      refine LR rfl (Ja rfl rfl (by first | (simp only [Nat.zero_add, Nat.reduceAdd, Nat.reduceMul, Nat.zero_mul, Nat.mul_one, Nat.add_zero]; exact rfl) | exact rfl)) ?_; refine LR rfl (Jc rfl (kn 0 rfl) rfl rfl) ?_; refine Jb rfl ?_
      refine LR rfl (JB (j := i) rfl hs.seg rfl rfl rfl (by first | rfl | omega) (by omega)) ?_; refine LR rfl (Ja (off' := Wj s.p + (i * 2 + 1)) rfl rfl (by show Wj s.p + i * 2 + 1 = _; omega)) ?_; refine LR rfl (KR BlL.len (k := 1) (v := Ky b.txs.length b.p) oR rfl hs.seg hb rfl rfl) ?_; refine Ka rfl rfl rfl (enters_of Tryz.func90 (by kernel_rfl) rfl) (Jjb (hs.blocks b hmb).len (hs.blocks b hmb).seg (hs.blocks b hmb).txs) oR fun yb => ?_
      obtain ⟨yb, hyb⟩ := yb
      change HL _ _ _ [(r0, .cells (List.toArray s.cells) 25 (0, 0))] _ _ _ _; refine Jb rfl ?_; refine nK hK10 ?_; refine sR fun _ hK11 => ?_; refine Jb rfl (J2 rfl ?_); refine nK hK11 ?_; refine cD (fun g => ?_) fun g => ?_
      refine sR fun _ hK13 => ?_; refine Jb rfl ?_; refine nK hK13 ?_; refine Jd (Jr (Ji ?_)); refine Ji (Jr (Ji ?_)); refine pT rfl rfl rfl fun w1 hs1 => ?_; exact ⟨⟨false, fun h => nomatch h⟩, rfl, hs1.weakL (List.nil_sublist _)⟩
      · refine Jg (Jo (hK9 ?_)); refine Je (Jb rfl ?_)
        refine J2 rfl ?_; refine JA (show _ = Value.int .i64 ((i + 1 : Nat) : Int) from by rw [wrap_i64 (by omega) (by omega)]; congr 1 <;> omega) ?_; refine Jb rfl (Jt (JU ?_))
        exact JN (i + 1) ⟨by omega, fun j hj x hx => by
          rcases Nat.lt_succ_iff_lt_or_eq.1 hj with hj | rfl
          exact hinv j hj x hx
          rw [hb] at hx; cases hx; exact hyb (by assumption)⟩ (by omega) (lK rfl) (List.Sublist.refl _) (fun _ _ h => h)
      skip)
   · try simp only [ZZ] at g
     refine JL (Jn ?_); refine Jn (J8 (hK2 ?_)); refine sQ fun _ hK14 => ?_
     have hsum : s.blocks.length ≤ 20 → (KU s.blocks).length ≤ 1000 := fun h => by
       have hall : ∀ b ∈ s.blocks, b.txs.length ≤ 12 := fun b hb => by
         obtain ⟨j, hj, rfl⟩ := List.getElem_of_mem hb
         exact hinv j (by omega) _ (List.getElem?_eq_getElem hj)
       have := Jjc hall; omega
     refine Je ?_
     refine LR rfl (Ja rfl rfl (by first | (simp only [Nat.zero_add, Nat.reduceAdd, Nat.reduceMul, Nat.zero_mul, Nat.mul_one, Nat.add_zero]; exact rfl) | exact rfl)) ?_; refine LR rfl (Jc rfl (kn 0 rfl) rfl rfl) ?_; refine LR rfl (JJ rfl hsg rfl) ?_; refine J2 rfl (Jb rfl ?_)
     refine JM 29 rfl (fun gb => ?_) (fun gb => ?_) <;> (try simp only [ZZ] at gb) <;> first | (refine LR rfl (Ja rfl rfl (by first | (simp only [Nat.zero_add, Nat.reduceAdd, Nat.reduceMul, Nat.zero_mul, Nat.mul_one, Nat.add_zero]; exact rfl) | exact rfl)) ?_) | (refine LK rfl ?_)
     all_goals first | refine LR rfl (Jc rfl (kn 0 rfl) rfl rfl) ?_ | refine LK rfl ?_
     all_goals first | refine LR rfl (JI rfl rfl) ?_ | refine LK rfl ?_
     all_goals first | refine J2 rfl ?_ | refine LK rfl ?_
     all_goals first | refine LR rfl (Jx rfl rfl) ?_ | refine LR rfl (J5 rfl rfl) ?_
     all_goals refine Jb rfl ?_
     all_goals first | refine LK rfl ?_ | (refine JM 35 rfl (fun gb => ?_) (fun gb => ?_) <;> (try simp only [ZZ] at gb) <;> first | (refine LR rfl (Ja rfl rfl (by first | (simp only [Nat.zero_add, Nat.reduceAdd, Nat.reduceMul, Nat.zero_mul, Nat.mul_one, Nat.add_zero]; exact rfl) | exact rfl)) ?_) | (refine LK rfl ?_))
     all_goals first | refine LR rfl (Jc rfl (kn 0 rfl) rfl rfl) ?_ | refine LK rfl ?_
     all_goals first | refine LR rfl (JI rfl rfl) ?_ | refine LK rfl ?_
     all_goals first | refine J2 rfl ?_ | refine LK rfl ?_
     all_goals first | refine LR rfl (Jx rfl rfl) ?_ | refine LR rfl (J5 rfl rfl) ?_
     all_goals refine Jb rfl ?_
     all_goals first | refine LK rfl ?_ | (refine JM 41 rfl (fun gb => ?_) (fun gb => ?_) <;> (try simp only [ZZ] at gb) <;> first | (refine LR rfl (Jm (xs := s.cells) (n := 5) rfl (kn 0 rfl) rfl rfl rfl) ?_) | (refine LK rfl ?_))
     all_goals first | (refine Ka rfl rfl rfl (enters_of Tryz.func91 (by kernel_rfl) rfl) (Jjd hs (hsum (by omega))) oR fun yr => ?_) | refine LK rfl ?_
     all_goals first | refine LR rfl (VY rfl yr.2.zero rfl) ?_ | refine LK rfl ?_
     all_goals first | refine J2 rfl ?_ | refine LK rfl ?_
     all_goals first | refine LR rfl (Jx rfl rfl) ?_ | refine LR rfl (J5 rfl rfl) ?_
     all_goals (
      refine Jb rfl (Jt (hK14 ?_)); refine Jd ?_; refine pT rfl rfl rfl fun w1 hs1 => ?_
      first | exact ⟨⟨false, fun h => nomatch h⟩, rfl, hs1.weakL (List.nil_sublist _)⟩ | exact ⟨⟨_, fun h => by have h := of_decide_eq_true h; omega⟩, rfl, hs1.weakL (List.nil_sublist _)⟩
      skip)
   skip)
def rc0C : List Value := [.int .i64 0, .bool false, .int .u64 0, .slice none 0 0, .bool false, .int .u64 0, .int .u64 0]
def Jmo (s : SpL) : List Value := [.int .i64 0, .int .i64 0, .int .i64 0, .int .u64 0, .int .u64 0, .int .u64 0, .int .u64 0, .int .u64 0, .int .u64 0, .int .u64 0, .int .u64 0, .int .u64 0, .int .u64 0, .int .u64 0, .string ⟨#[]⟩, .int .u64 0, .int .u64 0, .int .u64 0, .int .u64 0, .string ⟨#[]⟩, .slice none 0 0, .slice none 0 0, .int .u64 0, .int .u64 0, .int .u64 0, .int .u64 0, .int .u64 0, .int .u64 0, .int .u64 0, .int .u64 0, .int .u64 0, .string ⟨#[]⟩, .string ⟨#[]⟩, .int .u64 0, .int .u64 0, .int .u64 0, .int .u64 0, .bool false, .int .i64 0, .bool false, .int .u64 0, .slice none 0 0, .bool false, .int .u64 0, .int .u64 0, .string ⟨#[]⟩, .int .u64 0, .string ⟨#[]⟩, .int .u64 0, .slice none 0 0, uV s.time, uV s.epoch, Jq s.parent, Jq s.hash, Ky s.blocks.length s.p, .slice none 0 0, .string ⟨#[]⟩, .string ⟨#[]⟩, .string ⟨#[]⟩, .int .u64 0]
def tx0L : TxL := ⟨0, 0, 0, w40, w40, 0, [], w40, [], none, [], none, [], 0, w40, w40, [], [], w40, false⟩
theorem u0 : VG 0 := by show (0 : Nat) < 18446744073709551616; decide
theorem Jjf {R : Jy} : tx0L.In R where
 ok := ⟨u0, u0, Xp, Xp, u0, Xp, (fun a h => nomatch h), u0, Xp, Xp, Xp⟩
 dest := by decide
 data := by decide
 source := by decide
 from_ := by decide
 accL := by decide
 accS := Seg.nil
 acc := fun _ h => nomatch h
 auL := by decide
 auS := Seg.nil
 au := fun _ h => nomatch h
theorem Jjg : Pure Tryz.prog 27 [.agg rc0C.toArray].toArray (.bool true) := by
 refine JF Tryz.func27 rfl rfl fun w => ?_; refine sR fun _ hK1 => ?_; refine JX (cs := List.toArray (rc0C)) rfl rfl rfl rfl fun r0 => ?_; refine Jb rfl ?_; refine nK hK1 ?_; refine sQ fun _ hK2 => ?_; refine sR fun _ hK3 => ?_
 refine LR rfl (Ja rfl rfl (by first | (simp only [Nat.zero_add, Nat.reduceAdd, Nat.reduceMul, Nat.zero_mul, Nat.mul_one, Nat.add_zero]; exact rfl) | exact rfl)) ?_; refine LR rfl (Jc rfl (kn 0 rfl) rfl rfl) ?_; refine LR rfl (KD rfl rfl) ?_; refine J2 rfl ?_; refine nK hK3 ?_; refine Jl rfl (fun g => ?_) (fun g => ?_)
 try exact Bool.noConfusion g
 ·try simp only [ZZ] at g
  refine Jg (hK2 ?_); refine sQ fun _ hK6 => ?_; refine sR fun _ hK7 => ?_; refine Jb rfl ?_; refine nK hK7 ?_; refine J3 (JS (σ := Unit) (fun _ => True) (fun _ => [(1, Kw r0), (3, .int .i64 0)]) (fun _ => [(r0, .cells (List.toArray rc0C) 36 (0, 0))]) (fun _ _ _ => True) (fun _ => 0) () trivial (lK rfl) (List.Sublist.refl _) (fun _ _ h => h) ?_); rintro u _; refine sQ fun _ hK8 => ?_; refine sR fun _ hK9 => ?_; refine Jb rfl ?_
  refine LR rfl (Ja rfl rfl (by first | (simp only [Nat.zero_add, Nat.reduceAdd, Nat.reduceMul, Nat.zero_mul, Nat.mul_one, Nat.add_zero]; exact rfl) | exact rfl)) ?_; refine LR rfl (Jc rfl (kn 0 rfl) rfl rfl) ?_; refine LR rfl (KD rfl rfl) ?_; refine J2 rfl ?_; refine nK hK9 ?_; refine Jl rfl (fun h10 => ?_) (fun h10 => ?_)
  exact absurd h10 ((by decide))
  ·try simp only [ZZ] at h10
   refine JL (Jn ?_); refine Jn (J8 (hK6 ?_)); refine sR fun _ hK11 => ?_; refine Jb rfl ?_; refine nK hK11 ?_; refine Jd ?_; refine pT rfl rfl rfl fun w1 hs1 => ?_; exact ⟨rfl, hs1.keep⟩
theorem Jjh : Pure Tryz.prog 28 [.agg #[Jq [], uV 0, Jq [], uV 0, .slice none 0 0]].toArray (.bool true) := by
 refine JF Tryz.func28 rfl rfl fun w => ?_; refine sR fun _ hK1 => ?_; refine JX (cs := List.toArray ([Jq [], uV 0, Jq [], uV 0, .slice none 0 0])) rfl rfl rfl rfl fun r0 => ?_; refine Jb rfl ?_; refine nK hK1 ?_; refine sQ fun _ hK2 => ?_; refine sR fun _ hK3 => ?_
 refine LR rfl (Ja rfl rfl (by first | (simp only [Nat.zero_add, Nat.reduceAdd, Nat.reduceMul, Nat.zero_mul, Nat.mul_one, Nat.add_zero]; exact rfl) | exact rfl)) ?_; refine LR rfl (Jc rfl (kn 0 rfl) rfl rfl) ?_; refine LR rfl (KD rfl rfl) ?_; refine J2 rfl (Jb rfl ?_)
 refine LR rfl (Ja rfl rfl (by first | (simp only [Nat.zero_add, Nat.reduceAdd, Nat.reduceMul, Nat.zero_mul, Nat.mul_one, Nat.add_zero]; exact rfl) | exact rfl)) ?_; refine LR rfl (Jc rfl (kn 0 rfl) rfl rfl) ?_; refine LR rfl (JI rfl rfl) ?_; refine J2 rfl (LR rfl (J5 rfl rfl) (Jb rfl ?_))
 refine LR rfl (Ja rfl rfl (by first | (simp only [Nat.zero_add, Nat.reduceAdd, Nat.reduceMul, Nat.zero_mul, Nat.mul_one, Nat.add_zero]; exact rfl) | exact rfl)) ?_; refine LR rfl (Jc rfl (kn 0 rfl) rfl rfl) ?_; refine LR rfl (JI rfl rfl) ?_; refine J2 rfl (LR rfl (J5 rfl rfl) ?_); refine nK hK3 ?_; refine Jl rfl (fun g => ?_) (fun g => ?_)
 try exact Bool.noConfusion g
 ·try simp only [ZZ] at g
  refine Jg (hK2 ?_); refine sR fun _ hK14 => ?_; refine Jb rfl ?_; refine nK hK14 ?_; refine sQ fun _ hK15 => ?_; refine sR fun _ hK16 => ?_; refine Jb rfl ?_; refine nK hK16 ?_; refine J3 (JS (σ := Unit) (fun _ => True) (fun _ => [(1, Kw r0), (3, .int .i64 0), (4, .int .i64 0)]) (fun _ => [(r0, .cells (List.toArray [Jq [], uV 0, Jq [], uV 0, .slice none 0 0]) 39 (0, 0))]) (fun _ _ _ => True) (fun _ => 0) () trivial (lK rfl) (List.Sublist.refl _) (fun _ _ h => h) ?_); rintro u _; refine sQ fun _ hK17 => ?_; refine sR fun _ hK18 => ?_; refine Jb rfl ?_
  refine LR rfl (Ja rfl rfl (by first | (simp only [Nat.zero_add, Nat.reduceAdd, Nat.reduceMul, Nat.zero_mul, Nat.mul_one, Nat.add_zero]; exact rfl) | exact rfl)) ?_; refine LR rfl (Jc rfl (kn 0 rfl) rfl rfl) ?_; refine LR rfl (KD rfl rfl) ?_; refine J2 rfl ?_; refine nK hK18 ?_; refine Jl rfl (fun h19 => ?_) (fun h19 => ?_)
  exact absurd h19 ((by decide))
  ·try simp only [ZZ] at h19
   refine JL (Jn ?_); refine Jn (J8 (hK15 ?_)); refine sR fun _ hK20 => ?_; refine Jb rfl (J2 rfl (Jb rfl ?_)); refine nK hK20 ?_; refine Jd ?_; refine pT rfl rfl rfl fun w1 hs1 => ?_; exact ⟨rfl, hs1.keep⟩
theorem Jji : Pure Tryz.prog 30 [.slice none 0 0].toArray (.bool true) := by
 refine JF Tryz.func30 rfl rfl fun w => ?_; refine sR fun _ hK1 => ?_; refine Jb rfl ?_; refine nK hK1 ?_; refine sR fun _ hK2 => ?_; refine Jb rfl ?_; refine nK hK2 ?_; refine sQ fun _ hK3 => ?_; refine sR fun _ hK4 => ?_; refine Jb rfl ?_; refine nK hK4 ?_; refine J3 (JS (σ := Unit) (fun _ => True) (fun _ => [(0, .slice none 0 0), (3, .int .i64 0), (4, .int .i64 0)]) (fun _ => []) (fun _ _ _ => True) (fun _ => 0) () trivial (lK rfl) (List.Sublist.refl _) (fun _ _ h => h) ?_); rintro u _; refine sQ fun _ hK5 => ?_; refine sR fun _ hK6 => ?_; refine Jb rfl (Jb rfl (LR rfl (KD rfl rfl) ?_)); refine J2 rfl (Jb rfl (LK rfl ?_)); refine LK rfl ?_; refine LR rfl (J5 rfl rfl) ?_; refine nK hK6 ?_; refine Jl rfl (fun h9 => ?_) (fun h9 => ?_)
 exact absurd h9 ((by decide))
 ·try simp only [ZZ] at h9
  refine JL (Jn ?_); refine Jn (J8 (hK3 ?_)); refine sR fun _ hK10 => ?_; refine Jb rfl (LR rfl (KD rfl rfl) ?_); refine J2 rfl (Jb rfl ?_); refine Jb rfl (J2 rfl (LR rfl (Jx rfl rfl) ?_)); refine Jb rfl ?_; refine nK hK10 ?_; refine Jd ?_; refine pT rfl rfl rfl fun w1 hs1 => ?_; exact ⟨rfl, hs1.keep⟩
theorem Jjj {R : Jy} {s : SpL} (hs : s.In R) :
    PureT (α := { b : Bool // b = true → s.blocks.length ≤ 20 ∧ (KU s.blocks).length ≤ 20 }) Tryz.prog 7 [.agg (Jmo s).toArray].toArray (fun b => .bool b.1) [] (fun _ => []) R := by
  refine J1 Tryz.func7 rfl rfl fun w => ?_; refine sR fun _ hK1 => ?_; refine JX (cs := List.toArray (Jmo s)) rfl rfl rfl rfl fun r0 => ?_; refine Jb rfl ?_; refine nK hK1 ?_; refine sR fun _ hK2 => ?_
  refine LR rfl (Ja rfl rfl (by first | (simp only [Nat.zero_add, Nat.reduceAdd, Nat.reduceMul, Nat.zero_mul, Nat.mul_one, Nat.add_zero]; exact rfl) | exact rfl)) ?_; refine LR rfl (JT (vs := [_, _, _, _, _, _, _, _, _, _, _, _, _, _, _, _, _, _, _, _, _, _, _, _, _, _, _, _, _, _, _, _, _, _, _, _]) rfl (kn 0 rfl) rfl rfl rfl rfl) ?_; refine Ka rfl rfl rfl (enters_of Tryz.func26 (by kernel_rfl) rfl) (Ja2 Jjf) oR fun y1 => ?_; refine Jb rfl ?_
  refine JM 8 rfl (fun gb => ?_) (fun gb => ?_) <;> (try simp only [ZZ] at gb) <;> first | (refine LR rfl (Ja rfl rfl (by first | (simp only [Nat.zero_add, Nat.reduceAdd, Nat.reduceMul, Nat.zero_mul, Nat.mul_one, Nat.add_zero]; exact rfl) | exact rfl)) ?_) | (refine LK rfl ?_)
  all_goals first | refine LR rfl (JT (vs := [_, _, _, _, _, _, _]) rfl (kn 0 rfl) rfl rfl rfl rfl) ?_ | refine LK rfl ?_
  all_goals first | (refine JC rfl rfl rfl (enters_of Tryz.func27 (by kernel_rfl) rfl) Jjg ?_) | refine LK rfl ?_
  all_goals first | refine LR rfl (Jx rfl rfl) ?_ | refine LR rfl (J5 rfl rfl) ?_
  all_goals refine Jb rfl ?_
  all_goals first | (refine LR rfl (Ja rfl rfl (by first | (simp only [Nat.zero_add, Nat.reduceAdd, Nat.reduceMul, Nat.zero_mul, Nat.mul_one, Nat.add_zero]; exact rfl) | exact rfl)) ?_) | refine LK rfl ?_
  all_goals first | refine LR rfl (JT (vs := [_, _, _, _, _]) rfl (kn 0 rfl) rfl rfl rfl rfl) ?_ | refine LK rfl ?_
  all_goals first | (refine JC rfl rfl rfl (enters_of Tryz.func28 (by kernel_rfl) rfl) Jjh ?_) | refine LK rfl ?_
  all_goals first | refine LR rfl (Jx rfl rfl) ?_ | refine LR rfl (J5 rfl rfl) ?_
  all_goals (
   refine Jb rfl (Jt (hK2 ?_)); refine sR fun _ hK9 => ?_
   refine LR rfl (Ja rfl rfl (by first | (simp only [Nat.zero_add, Nat.reduceAdd, Nat.reduceMul, Nat.zero_mul, Nat.mul_one, Nat.add_zero]; exact rfl) | exact rfl)) ?_; refine LR rfl (JT (vs := [_, _, _, _, _]) rfl (kn 0 rfl) rfl rfl rfl rfl) ?_; refine Ka rfl rfl rfl (enters_of Tryz.func29 (by kernel_rfl) rfl) (Jje hs) oR fun y2 => ?_
   obtain ⟨y2, hy2⟩ := y2
   refine Jb rfl ?_
   refine JM 21 rfl (fun gb => ?_) (fun gb => ?_) <;> (try simp only [ZZ] at gb) <;> first | (refine LR rfl (Ja rfl rfl (by first | (simp only [Nat.zero_add, Nat.reduceAdd, Nat.reduceMul, Nat.zero_mul, Nat.mul_one, Nat.add_zero]; exact rfl) | exact rfl)) ?_) | (refine LK rfl ?_)
   all_goals first | refine LR rfl (Jc rfl (kn 0 rfl) rfl rfl) ?_ | refine LK rfl ?_
   all_goals first | (refine JC rfl rfl rfl (enters_of Tryz.func30 (by kernel_rfl) rfl) Jji ?_) | refine LK rfl ?_
   all_goals first | refine LR rfl (Jx rfl rfl) ?_ | refine LR rfl (J5 rfl rfl) ?_
   all_goals (
    refine Jb rfl (Jt (hK9 ?_)); refine sR fun _ hK13 => ?_; refine Jb rfl (Jb rfl ?_)
    first | refine Jb rfl ?_ | refine LK rfl ?_
    first | refine LR rfl (Jx rfl rfl) ?_ | refine LR rfl (J5 rfl rfl) ?_
    refine Jb rfl ?_
    first | (refine LR rfl (Ja rfl rfl (by first | (simp only [Nat.zero_add, Nat.reduceAdd, Nat.reduceMul, Nat.zero_mul, Nat.mul_one, Nat.add_zero]; exact rfl) | exact rfl)) ?_) | refine LK rfl ?_
    first | (refine LR rfl (VA (j := 0) rfl rfl rfl rfl rfl (by first | decide | omega) (by first | (simp only [Nat.zero_add, Nat.reduceAdd, Nat.reduceMul, Nat.zero_mul, Nat.mul_one, Nat.add_zero]; exact rfl) | exact rfl)) ?_) | refine LK rfl ?_
    first | refine LR rfl (Jc rfl (kn 0 rfl) rfl rfl) ?_ | refine LK rfl ?_
    first | refine LR rfl (JI rfl rfl) ?_ | refine LK rfl ?_
    first | refine J2 rfl ?_ | refine LK rfl ?_
    first | refine LR rfl (Jx rfl rfl) ?_ | refine LR rfl (J5 rfl rfl) ?_
    refine Jb rfl ?_
    first | (refine LR rfl (Ja rfl rfl (by first | (simp only [Nat.zero_add, Nat.reduceAdd, Nat.reduceMul, Nat.zero_mul, Nat.mul_one, Nat.add_zero]; exact rfl) | exact rfl)) ?_) | refine LK rfl ?_
    first | (refine LR rfl (VA (j := 1) rfl rfl rfl rfl rfl (by first | decide | omega) (by first | (simp only [Nat.zero_add, Nat.reduceAdd, Nat.reduceMul, Nat.zero_mul, Nat.mul_one, Nat.add_zero]; exact rfl) | exact rfl)) ?_) | refine LK rfl ?_
    first | refine LR rfl (Jc rfl (kn 0 rfl) rfl rfl) ?_ | refine LK rfl ?_
    first | refine LR rfl (JI rfl rfl) ?_ | refine LK rfl ?_
    first | refine J2 rfl ?_ | refine LK rfl ?_
    first | refine LR rfl (Jx rfl rfl) ?_ | refine LR rfl (J5 rfl rfl) ?_
    refine Jb rfl ?_
    first | (refine LR rfl (Ja rfl rfl (by first | (simp only [Nat.zero_add, Nat.reduceAdd, Nat.reduceMul, Nat.zero_mul, Nat.mul_one, Nat.add_zero]; exact rfl) | exact rfl)) ?_) | refine LK rfl ?_
    first | (refine LR rfl (VA (j := 2) rfl rfl rfl rfl rfl (by first | decide | omega) (by first | (simp only [Nat.zero_add, Nat.reduceAdd, Nat.reduceMul, Nat.zero_mul, Nat.mul_one, Nat.add_zero]; exact rfl) | exact rfl)) ?_) | refine LK rfl ?_
    first | refine LR rfl (Jc rfl (kn 0 rfl) rfl rfl) ?_ | refine LK rfl ?_
    first | refine LR rfl (JI rfl rfl) ?_ | refine LK rfl ?_
    first | refine J2 rfl ?_ | refine LK rfl ?_
    first | refine LR rfl (Jx rfl rfl) ?_ | refine LR rfl (J5 rfl rfl) ?_
    refine Jb rfl ?_; refine nK hK13 ?_; refine Jd ?_; refine pT rfl rfl rfl fun w1 hs1 => ?_
    first | exact ⟨⟨false, fun h => nomatch h⟩, rfl, hs1.weakL (List.nil_sublist _)⟩ | exact ⟨⟨_, fun h => hy2 (by assumption)⟩, rfl, hs1.weakL (List.nil_sublist _)⟩
    skip)
   skip)
def txI (xs : List TxL) (i : Nat) : TxL := xs.getD i tx0L
theorem Jjk {xs : List TxL} {i : Nat} (h : i < xs.length) : xs[i]? = some (txI xs i) := by
 unfold txI
 rw [List.getD_eq_getElem?_getD, List.getElem?_eq_getElem h]; rfl
theorem yA {xs : List TxL} {i : Nat} (h : i < xs.length) : V0 (xs.take i) ++ (txI xs i).cells = V0 (xs.take (i + 1)) := by
 rw [List.take_add_one, Jjk h, Option.toList_some, jE]; simp [V0]
theorem Jjl {l : List BlL} {i k : Nat} {b : BlL} {y : TxL} (h : l[i]? = some b) (hy : b.txs[k]? = some y) : (KU l)[(KU (l.take i)).length + k]? = some y := by
 have h1 : KU l = KU (l.take i) ++ (b.txs ++ KU (l.drop (i + 1))) := by
  have h2 := (jD (l.take (i + 1)) (l.drop (i + 1))).symm
  rw [List.take_append_drop, XE h, List.append_assoc] at h2; exact h2.symm
 have hk := (List.getElem?_eq_some_iff.1 hy).1
 rw [h1, List.getElem?_append_right (by omega), Nat.add_sub_cancel_left, List.getElem?_append_left hk]; exact hy
theorem Jmp {R : Jy} {s : SpL} (hs : s.In R) {r0 : Nat} (hr : (r0, Obj.cells (List.toArray s.cells) 25 (0, 0)) ∈ R) :
    jJ Tryz.prog 184 [Kw r0] R 0 (nxN (fun i => [(txI (KU s.blocks) i).val]) (KU s.blocks).length) (yX (KU s.blocks).length) := by
  have hsl := hs.len
  have hsg := hs.seg
  refine VX Tryz.func184 rfl rfl fun q xids w2 XI XF hY => ?_; refine sR fun _ hK1 => ?_
  refine LR rfl (Ja rfl rfl (by first | (simp only [Nat.zero_add, Nat.reduceAdd, Nat.reduceMul, Nat.zero_mul, Nat.mul_one, Nat.add_zero]; exact rfl) | exact rfl)) ?_; refine LR rfl (Jc rfl (Or.inr hr) rfl rfl) ?_; refine LR rfl (JJ rfl hsg rfl) ?_; refine Jb rfl ?_; refine nK hK1 ?_; refine J3 (JS (σ := Nat) (fun i => i ≤ s.blocks.length) (fun i => [(0, .func (.yield q) #[] #[]), (1, Kw r0), (8, Ky s.blocks.length s.p), (9, .int .i64 (s.blocks.length : Int)), (10, .int .i64 (i : Int))]) (fun _ => []) (fun i => XI (KU (s.blocks.take i)).length) (fun i => s.blocks.length - i) 0 (Nat.zero_le _) (lK rfl) (List.nil_sublist _) (fun _ _ h => h) ?_); intro i hi; refine sR fun _ hK2 => ?_; refine J2 rfl ?_; refine nK hK2 ?_; refine sQ fun _ hK3 => ?_; refine cD (fun g => ?_) fun g => ?_
  · refine Jg (hK3 ?_); refine sB fun _ hK5 => ?_; refine sQ fun _ hK6 => ?_
    obtain ⟨b, hb, hmb⟩ := QA (show i < s.blocks.length by omega)
    have hbl := (hs.blocks b hmb).len
    refine Je ?_
    refine LR rfl (JB (j := i) rfl hsg rfl rfl rfl (by first | rfl | omega) (by omega)) ?_; refine LR rfl (Kt BlL.len oR rfl hsg hb rfl rfl) ?_; refine LN rfl fun r4 => ?_; refine Js (k := 0) (n := 2) (ys := b.cells) rfl rfl rfl rfl rfl rfl rfl rfl rfl ?_; refine nK hK6 ?_; refine sR fun _ hK7 => ?_
    refine LR rfl (Ja rfl rfl (by first | (simp only [Nat.zero_add, Nat.reduceAdd, Nat.reduceMul, Nat.zero_mul, Nat.mul_one, Nat.add_zero]; exact rfl) | exact rfl)) ?_; refine LR rfl (Jc rfl (kn 0 rfl) rfl rfl) ?_; refine LR rfl (JJ rfl (hs.blocks b hmb).seg rfl) ?_; refine Jb rfl ?_; refine nK hK7 ?_; refine J3 (JS (σ := Nat) (fun k => k ≤ b.txs.length) (fun k => [(0, .func (.yield q) #[] #[]), (1, Kw r0), (8, Ky s.blocks.length s.p), (9, .int .i64 (s.blocks.length : Int)), (10, .int .i64 (i : Int)), (15, Ky b.txs.length b.p), (16, .int .i64 (b.txs.length : Int)), (17, .int .i64 (k : Int))]) (fun _ => []) (fun k => XI ((KU (s.blocks.take i)).length + k)) (fun k => b.txs.length - k) 0 (Nat.zero_le _) (lK rfl) (List.nil_sublist _) (fun _ _ h => h) ?_); intro k hk; refine sR fun _ hK8 => ?_; refine J2 rfl ?_; refine nK hK8 ?_; refine sQ fun _ hK9 => ?_; refine cD (fun g => ?_) fun g => ?_
    · refine Jg (hK9 ?_); refine sB fun _ hK11 => ?_; refine sQ fun _ hK12 => ?_
      obtain ⟨y, hy, hmy⟩ := QA (show k < b.txs.length by omega)
      have hat : (KU (s.blocks.take i)).length + k < (KU s.blocks).length ∧ txI (KU s.blocks) ((KU (s.blocks.take i)).length + k) = y := by
        have h := Jjl hb hy
        exact ⟨(List.getElem?_eq_some_iff.1 h).1, by unfold txI; rw [List.getD_eq_getElem?_getD, h]; rfl⟩
      refine Je ?_
      refine LR rfl (JB (j := k) rfl (hs.blocks b hmb).seg rfl rfl rfl (by first | rfl | omega) (by omega)) ?_; refine LR rfl (Kt TxL.len oR rfl (hs.blocks b hmb).seg hy rfl rfl) ?_; refine LN rfl fun r6 => ?_; refine Js (k := 0) (n := 36) (ys := y.cells) rfl rfl rfl rfl rfl rfl rfl rfl rfl ?_; refine nK hK12 ?_; refine sR fun _ hK13 => ?_; refine Jb rfl (LR rfl (Jm (xs := y.cells) (n := 36) rfl (kn 0 rfl) rfl rfl rfl) ?_); refine VV (XT := XI ((KU (s.blocks.take i)).length + (k + 1))) (XF := XF) rfl rfl rfl rfl (hY ((KU (s.blocks.take i)).length + k) [y.val] ((KU (s.blocks.take i)).length + (k + 1)) ⟨hat.1, congrArg (fun z => [TxL.val z]) hat.2.symm, rfl⟩) ?_ ?_
      all_goals (
       refine J2 rfl (Jt (hK13 ?_)); refine Jl rfl (fun g => ?_) (fun g => ?_)
       · try exact Bool.noConfusion g
         all_goals try simp only [ZZ] at g
         all_goals (
          refine Jd (Jr (Ji ?_)); refine Ji (Jr ?_); refine Jr (Ji ?_); refine Ji (Jr ?_); refine Jp rfl rfl .nil (fun w1 hs1 => ?_)
          obtain ⟨xs1, hx1⟩ := hs1.now
          exact ⟨⟨_, rfl⟩, hs1.keep, .inr ⟨_, hx1⟩⟩
          skip)
       · try exact Bool.noConfusion g
         all_goals try simp only [ZZ] at g
         all_goals (
          refine Jg (Jo (hK11 ?_)); refine Je ?_
          refine J2 rfl ?_; refine JA (show _ = Value.int .i64 ((k + 1 : Nat) : Int) from by rw [wrap_i64 (by omega) (by omega)]; congr 1 <;> omega) ?_; refine Jb rfl (Jt (JU ?_)); exact JN (k + 1) (by omega) (by omega) (lK rfl) (List.nil_sublist _) (fun _ _ h => h)
          skip)
       skip)
    · refine JL (Jn ?_); refine Jn (J8 ?_); refine Jo (hK5 ?_); refine Je ?_
      refine J2 rfl ?_; refine JA (show _ = Value.int .i64 ((i + 1 : Nat) : Int) from by rw [wrap_i64 (by omega) (by omega)]; congr 1 <;> omega) ?_; refine Jb rfl (Jt (JU ?_))
      have hkk : k = b.txs.length := by omega
      rw [show (KU (s.blocks.take i)).length + k = (KU (s.blocks.take (i + 1))).length from by rw [XE hb, List.length_append, hkk]]; exact JN (i + 1) (by omega) (by omega) (lK rfl) (List.nil_sublist _) (fun _ _ h => h)
  · refine JL (Jn ?_); refine Jn (J8 ?_); refine Qf rfl rfl .nil (fun w1 hs1 => ?_)
    obtain ⟨xs1, hx1⟩ := hs1.now
    exact ⟨⟨_, rfl⟩, hs1.keep, .inl ⟨_, _, (by show (KU (s.blocks.take i)).length = _; rw [show i = s.blocks.length by omega, List.take_length]), hx1⟩⟩
theorem Jcn {R : Jy} {xs : List TxL} {g : FuncId} {caps : List Value} (hl : xs.length ≤ 1000) (eg : Enters Tryz.prog g) (hit : jJ Tryz.prog g caps R 0 (nxN (fun i => [(txI xs i).val]) xs.length) (yX xs.length)) :
  PureT (α := { row : QH // rowOk 36 xs.length (V0 xs) row }) Tryz.prog 183 [.slice none 0 0, .func (.func g) #[] caps.toArray].toArray (fun x => JO xs.length x.1) [] (fun x => Kk 33 (V0 xs) x.1) R := by
 refine J1 Tryz.func183 rfl rfl fun w => ?_; refine sR fun _ hK1 => ?_; refine LN rfl fun r1 => ?_; refine Jb rfl ?_; refine nK hK1 ?_; refine sQ fun _ hK2 => ?_; refine sR fun _ hK3 => ?_; refine Jb rfl ?_; refine nK hK3 ?_; refine J3 ?_; refine W9 (τ := Unit) (fun i (s : Nat × QH) => i = s.1 ∧ i ≤ xs.length ∧ rowOk 36 i (V0 (xs.take i)) s.2) (fun s => (r1, .cells #[JO s.1 s.2] 45 (0, 0)) :: Kk 33 (V0 (xs.take s.1)) s.2) (fun _ _ => False) (fun _ => []) [] (0, none) rfl rfl eg hit (by rintro _ _ _ ⟨_, rfl, _⟩; rfl) rfl oR rfl ⟨rfl, Nat.zero_le _, ⟨rfl, rfl⟩⟩ ?_ ?_ ?_
 rintro q Xr Xb w3 i _ _ ⟨_, row⟩ ⟨hii, rfl, rfl⟩ ⟨rfl, him, hrow⟩ Kr hKr
 simp only at hKr ⊢; refine Je (LN rfl fun r5 => (Js (k := 0) (n := 36) (ys := (txI xs i).cells) rfl rfl rfl rfl rfl rfl rfl rfl rfl ?_)); refine Jt ?_; refine hKr _ _ ?_; clear hKr; refine J3 (Je (LR rfl (Jc rfl (kn 1 rfl) rfl rfl) ?_)); refine LR rfl (Jm (xs := (txI xs i).cells) (n := 36) rfl (kn 0 rfl) rfl rfl rfl) ?_; refine JV (n := 1) (sz := 36) (vs := [_]) (zs := [_, _, _, _, _, _, _, _, _, _, _, _, _, _, _, _, _, _, _, _, _, _, _, _, _, _, _, _, _, _, _, _, _, _, _, _]) (r := (txI xs i).cells) rfl rfl rfl rfl rfl rfl rfl rfl rfl (by rw [Qo]; exact rfl) rfl fun r3 => ?_; refine Kh (L0 := [_, _, _]) (xs := V0 (xs.take i)) (row := row) (n := i) (sz := 36) (b := 352) (news := (txI xs i).cells) (List.perm_append_comm (l₁ := [_, _, _])) rfl rfl rfl rfl (kn 0 rfl) rfl rfl rfl rfl rfl (by decide) rfl rfl rfl (by decide) hrow (by omega) (by omega) fun ra cap sp hra => ?_
 refine Ju (k := 3) rfl rfl rfl rfl rfl rfl rfl rfl (by first | (simp only [List.setIfInBounds_toArray, List.set_cons_zero, List.set_cons_succ]; exact rfl) | exact rfl) (by first | (simp only [List.set_cons_zero, List.set_cons_succ]; exact rfl) | exact rfl) ?_; refine Jt ?_; refine Jo (VW [3, 0] (L' := [_, _]) (by decide) rfl ?_); refine VZ (i + 1, some (ra, cap, sp)) ⟨rfl, by omega, by rw [yA hii] at hra; exact hra⟩ ?_; simp only [Kk, JO, yA hii]
 rintro D i ⟨_, row⟩ hfi ⟨rfl, him, hrow⟩
 simp only at hrow ⊢
 have hfi : i = xs.length := hfi
 subst hfi; rw [List.take_length] at hrow ⊢; refine Jo (hK2 ?_); refine sR fun _ hK4 => ?_; refine LR rfl (Jc rfl (kn 1 rfl) rfl rfl) ?_; refine Jb rfl ?_; refine nK hK4 ?_; refine Jd (V8 (k := 0) rfl rfl ?_); refine pT rfl rfl rfl fun w1 hs1 => ?_; exact ⟨⟨row, hrow⟩, rfl, hs1.weakL (by simp only [List.set_cons_zero, List.append_nil]; exact List.sublist_append_right [_, _] _)⟩
 ·exact fun _ _ _ h => h.elim
theorem zX {R : Jy} {xs : List TxL} {g : FuncId} {caps : List Value} (hl : xs.length ≤ 1000) (eg : Enters Tryz.prog g) (hit : jJ Tryz.prog g caps R 0 (nxN (fun i => [(txI xs i).val]) xs.length) (yX xs.length)) :
  PureT (α := { row : QH // rowOk 36 xs.length (V0 xs) row }) Tryz.prog 92 [.func (.func g) #[] caps.toArray].toArray (fun x => JO xs.length x.1) [] (fun x => Kk 33 (V0 xs) x.1) R := by
 refine J1 Tryz.func92 rfl rfl fun w => ?_; refine sR fun _ hK1 => ?_; refine Jb rfl ?_; refine nK hK1 ?_; refine sR fun _ hK2 => ?_; refine Jb rfl (Ka rfl rfl rfl (enters_of Tryz.func183 (by kernel_rfl) rfl) (Jcn hl eg hit) oR fun x => (Jb rfl ?_)); refine nK hK2 ?_; refine Jd ?_; refine pT rfl rfl rfl fun w1 hs1 => ?_; exact ⟨x, rfl, hs1.weakL (List.sublist_append_left _ _)⟩
def Jog (r : Nat) (s : SpL) : Nat × Obj := (r, .cells (List.toArray s.cells) 25 (0, 0))
theorem Jmq (s : SpL) : PureE (α := Nat) Tryz.prog 93 [s.val].toArray (fun r => .func (.func 184) #[] #[Kw r]) (fun r => [Jog r s]) := by
 refine KZ Tryz.func93 rfl rfl fun w => ?_; refine sR fun _ hK1 => ?_; refine JX (cs := List.toArray (s.cells)) rfl rfl rfl rfl fun r0 => ?_; refine Jb rfl ?_; refine nK hK1 ?_; refine sR fun _ hK2 => ?_; refine LR rfl (JQ rfl rfl) ?_; refine Jb rfl ?_; refine nK hK2 ?_; refine Jd ?_; refine pT rfl rfl rfl fun w1 hs1 => ?_; exact ⟨_, rfl, hs1⟩
theorem Jjm {R : Jy} {s : SpL} (hs : s.In R) (hm : (KU s.blocks).length ≤ 1000) :
  PureT (α := { row : QH // rowOk 36 (KU s.blocks).length (V0 (KU s.blocks)) row }) Tryz.prog 32 [s.val].toArray (fun y => JO (KU s.blocks).length y.1) [] (fun y => Kk 33 (V0 (KU s.blocks)) y.1) R := by
 refine J1 Tryz.func32 rfl rfl fun w => ?_; refine sR fun _ hK1 => ?_; refine JX (cs := List.toArray (s.cells)) rfl rfl rfl rfl fun r0 => ?_; refine Jb rfl ?_; refine nK hK1 ?_; refine sR fun _ hK2 => ?_; refine LR rfl (Jm (xs := s.cells) (n := 5) rfl (kn 0 rfl) rfl rfl rfl) ?_; refine Qh rfl rfl rfl (enters_of Tryz.func93 (by kernel_rfl) rfl) (Jmq s) fun rb => ?_; refine Ka rfl rfl rfl (enters_of Tryz.func92 (by kernel_rfl) rfl) (zX hm (enters_of Tryz.func184 (by kernel_rfl) rfl) (Jmp (R := Jog rb s :: R) (hs.mono fun q hq => List.mem_cons_of_mem _ hq) List.mem_cons_self)) (fun q hq => (List.mem_cons.1 hq).elim (fun h => Or.inl (h ▸ List.mem_cons_self)) Or.inr) fun y => ?_; refine Jb rfl ?_; refine nK hK2 ?_; refine Jd ?_; refine pT rfl rfl rfl fun w1 hs1 => ?_; exact ⟨y, rfl, hs1.weakL (List.sublist_append_left _ _)⟩
def spE (c : Nat) (s : SpL) : Int := if s.parent.length ≠ 20 ∨ s.hash.length ≠ 20 ∨ s.blocks.length = 0 then 2 else if 16 < s.blocks.length then 5 else XH c ((KU s.blocks).map TxL.er)
theorem Jmr {c : Nat} {s : SpL} (h : spE c s = 0) : ∀ t ∈ KU s.blocks, K012 t.kind ∧ Wx t.er = 0 := fun t ht => by
 unfold spE at h
 split at h
 ·cases h
 ·split at h
  ·cases h
  ·unfold XH at h
   split at h
   ·cases h
   ·split at h
    ·cases h
    ·exact Ja1 h t.er (List.mem_map.2 ⟨t, ht, rfl⟩)
theorem Jco {R : Jy} {s : SpL} {c : Nat} (hs : s.In R) (hm : (KU s.blocks).length ≤ 1000) : PureR Tryz.prog 8 [s.val, uV c].toArray (.int .i64 (spE c s)) R := by
  have hsl := hs.len
  have hsg := hs.seg
  refine Jz Tryz.func8 rfl rfl fun w => ?_; refine sR fun _ hK1 => ?_; refine JX (cs := List.toArray (s.cells)) rfl rfl rfl rfl fun r0 => ?_; refine Jb rfl ?_; refine nK hK1 ?_; refine sB fun _ hK2 => ?_; refine sR fun _ hK3 => ?_
  refine LR rfl (Ja rfl rfl (by first | (simp only [Nat.zero_add, Nat.reduceAdd, Nat.reduceMul, Nat.zero_mul, Nat.mul_one, Nat.add_zero]; exact rfl) | exact rfl)) ?_; refine LR rfl (Jc rfl (kn 0 rfl) rfl rfl) ?_; refine LR rfl (JI rfl rfl) ?_; refine J2 rfl (Jb rfl ?_)
  refine JM 10 rfl (fun gb => ?_) (fun gb => ?_) <;> (try simp only [ZZ] at gb) <;> first | (refine LR rfl (Ja rfl rfl (by first | (simp only [Nat.zero_add, Nat.reduceAdd, Nat.reduceMul, Nat.zero_mul, Nat.mul_one, Nat.add_zero]; exact rfl) | exact rfl)) ?_) | (refine LK rfl ?_)
  all_goals first | refine LR rfl (Jc rfl (kn 0 rfl) rfl rfl) ?_ | refine LK rfl ?_
  all_goals first | refine LR rfl (JI rfl rfl) ?_ | refine LK rfl ?_
  all_goals first | refine J2 rfl ?_ | refine LK rfl ?_
  all_goals first | refine LR rfl (Jx rfl rfl) ?_ | refine LR rfl (J5 rfl rfl) ?_
  all_goals refine Jb rfl ?_
  all_goals first | refine LK rfl ?_ | (refine JM 16 rfl (fun gb => ?_) (fun gb => ?_) <;> (try simp only [ZZ] at gb) <;> first | (refine LR rfl (Ja rfl rfl (by first | (simp only [Nat.zero_add, Nat.reduceAdd, Nat.reduceMul, Nat.zero_mul, Nat.mul_one, Nat.add_zero]; exact rfl) | exact rfl)) ?_) | (refine LK rfl ?_))
  all_goals first | refine LR rfl (Jc rfl (kn 0 rfl) rfl rfl) ?_ | refine LK rfl ?_
  all_goals first | refine LR rfl (JJ rfl hsg rfl) ?_ | refine LK rfl ?_
  all_goals first | refine J2 rfl ?_ | refine LK rfl ?_
  all_goals first | refine LR rfl (Jx rfl rfl) ?_ | refine LR rfl (J5 rfl rfl) ?_
  all_goals (
   refine Jb rfl (Jt (hK3 ?_)); refine Jl rfl (fun g => ?_) (fun g => ?_)
   try simp only [ZZ] at g
   refine sR fun _ hK13 => ?_; refine Jb rfl ?_; refine nK hK13 ?_; refine Jd (Jr (Ji ?_)); refine pT rfl rfl rfl fun w1 hs1 => ?_; refine ⟨?_, hs1.keep⟩; rw [show spE c s = 2 from by unfold spE; exact if_pos (by omega)]; rfl
   · try exact Bool.noConfusion g
     all_goals try simp only [ZZ] at g
     all_goals (
      refine sR fun _ hK14 => ?_
      refine LR rfl (Ja rfl rfl (by first | (simp only [Nat.zero_add, Nat.reduceAdd, Nat.reduceMul, Nat.zero_mul, Nat.mul_one, Nat.add_zero]; exact rfl) | exact rfl)) ?_; refine LR rfl (Jc rfl (kn 0 rfl) rfl rfl) ?_; refine LR rfl (JJ rfl hsg rfl) ?_; refine J2 rfl (Jb rfl ?_); refine nK hK14 ?_; refine cD (fun g => ?_) fun g => ?_
      refine sR fun _ hK16 => ?_; refine Jb rfl ?_; refine nK hK16 ?_; refine Jd (Jr (Ji ?_)); refine pT rfl rfl rfl fun w1 hs1 => ?_; refine ⟨?_, hs1.keep⟩; rw [show spE c s = 5 from by unfold spE; rw [if_neg (by omega), if_pos (by omega)]]; rfl
      refine Jg (Jo (hK2 ?_)); refine sR fun _ hK17 => ?_; refine LR rfl (Jm (xs := s.cells) (n := 5) rfl (kn 0 rfl) rfl rfl rfl) ?_; refine Ka rfl rfl rfl (enters_of Tryz.func32 (by kernel_rfl) rfl) (Jjm hs hm) oR fun y => ?_
      obtain ⟨row, hrow⟩ := y
      refine JA (show _ = Ky (KU s.blocks).length (Qm row) from Ql hrow) ?_; refine Jb rfl ?_
      refine J4 rfl rfl rfl (enters_of Tryz.func31 (by kernel_rfl) rfl) (zV (R := Kk 33 (V0 (KU s.blocks)) row ++ R) (p := Qm row) (c := c) (by omega) ((Qg (e := 33) hrow (by decide)).mono fun q hq => List.mem_append_left _ hq) (fun x hx => by
        obtain ⟨b, hb, hx⟩ := List.mem_flatMap.1 hx
        exact ((hs.blocks b hb).txs x hx).mono fun q hq => List.mem_append_right _ hq)) (fun q hq => (List.mem_append.1 hq).elim (fun h => Or.inl (List.mem_append_left _ h)) Or.inr) ?_
      refine Jb rfl ?_; refine nK hK17 ?_; refine Jd ?_; refine pT rfl rfl rfl fun w1 hs1 => ?_; refine ⟨?_, hs1.keep⟩; rw [show spE c s = XH c ((KU s.blocks).map TxL.er) from by unfold spE; rw [if_neg (by omega), if_neg (by omega)]]; rfl
      skip)
   skip)
theorem Kn {a b : Bool} (h : a = b) : Value.bool a = Value.bool b := by rw [h]
theorem Qr (w : W4) : KP [uV w.a, uV w.b, uV w.c, uV w.d] [uV w.a, uV w.b, uV w.c, uV w.d] = true := by
 simp [KP, YL, uV]
theorem Jgo {R : Jy} {l : List BS} {p q : Pl} (hl : l.length ≤ 9223372036854775807) (hs : Seg R l.length (KN l) p) (hs2 : Seg R l.length (KN l) q) : PureR Tryz.prog 133 [Ky l.length p, Ky l.length q].toArray (.bool true) R := by
 refine Jz Tryz.func133 rfl rfl fun w => ?_; refine sR fun _ hK1 => ?_; refine Jb rfl ?_; refine nK hK1 ?_; refine sQ fun _ hK2 => ?_; refine sR fun _ hK3 => ?_; refine Jb rfl (LR rfl (JJ rfl hs rfl) ?_); refine Jb rfl (LR rfl (JJ rfl hs2 rfl) ?_); refine J2 rfl (JA (show _ = Value.bool false from Kn (bne_self_eq_false _)) ?_); refine nK hK3 ?_; refine Jl rfl (fun g => ?_) (fun g => ?_)
 try exact Bool.noConfusion g
 ·try simp only [ZZ] at g
  refine Jg (hK2 ?_); refine sQ fun _ hK6 => ?_; refine sR fun _ hK7 => ?_; refine Jb rfl ?_; refine nK hK7 ?_; refine J3 (JS (σ := Nat) (fun i => i ≤ l.length) (fun i => [(0, Ky l.length p), (1, Ky l.length q), (5, .int .i64 (i : Int))]) (fun _ => []) (fun _ _ _ => True) (fun i => l.length - i) 0 (Nat.zero_le _) (lK rfl) (List.nil_sublist _) (fun _ _ h => h) ?_); intro i hi1; refine sQ fun _ hK8 => ?_; refine sR fun _ hK9 => ?_; refine Jb rfl (Jb rfl (LR rfl (JJ rfl hs rfl) ?_)); refine J2 rfl ?_; refine nK hK9 ?_; refine cD (fun g => ?_) fun g => ?_
  ·refine Jg (hK8 ?_); refine sB fun _ hK11 => ?_; refine sQ fun _ hK12 => ?_
   obtain ⟨y, hy, hmy⟩ := QA (show i < l.length by omega)
   refine Qs 9 (by kernel_rfl) (by kernel_rfl) ?_; refine JD rfl rfl rfl (JG rfl) ?_; refine JD rfl rfl rfl (JG rfl) ?_
   refine JD rfl rfl rfl (JB (j := i) rfl hs rfl rfl rfl (by first | rfl | omega) (by omega)) ?_; refine JD rfl rfl rfl (Qy oR rfl hs (by omega) rfl (show (KN l)[i]? = some (Jq y) from by unfold KN; rw [List.getElem?_map, hy]; rfl)) ?_; refine JD rfl rfl rfl (JG rfl) ?_; refine JD rfl rfl rfl (JG rfl) ?_
   refine JD rfl rfl rfl (JB (j := i) rfl hs2 rfl rfl rfl (by first | rfl | omega) (by omega)) ?_; refine JD rfl rfl rfl (Qy oR rfl hs2 (by omega) rfl (show (KN l)[i]? = some (Jq y) from by unfold KN; rw [List.getElem?_map, hy]; rfl)) ?_; refine JD rfl rfl rfl (ZH rfl rfl) ?_; refine Wl (show _ = Value.bool false from Kn (congrArg (fun z => !z) (decide_eq_true rfl))) ?_; refine Q8 ?_; refine nK hK12 ?_; refine Jl rfl (fun g => ?_) (fun g => ?_)
   try exact Bool.noConfusion g
   ·try simp only [ZZ] at g
    refine Jg (Jo (hK11 ?_)); refine Je (Jb rfl ?_)
    refine J2 rfl ?_; refine JA (show _ = Value.int .i64 ((i + 1 : Nat) : Int) from by rw [wrap_i64 (by omega) (by omega)]; congr 1 <;> omega) ?_; refine Jb rfl (Jt (JU ?_)); exact JN (i + 1) (by omega) (by omega) (lK rfl) (List.nil_sublist _) (fun _ _ h => h)
  ·refine JL (Jn ?_); refine Jn (J8 (hK6 ?_)); refine sR fun _ hK15 => ?_; refine Jb rfl ?_; refine nK hK15 ?_; refine Jd ?_; refine pT rfl rfl rfl fun w1 hs1 => ?_; exact ⟨rfl, hs1.keep⟩
theorem Jms {xs ys : List AxL} (he : xs.map AxL.er = ys.map AxL.er) {i : Nat} {a b : AxL} (ha : xs[i]? = some a) (hb : ys[i]? = some b) : b.addr = a.addr ∧ b.keys = a.keys := by
 have h := congrArg (fun z : List AxE => z[i]?) he
 simp only [List.getElem?_map, ha, hb, Option.map_some, Option.some.injEq] at h; exact ⟨(congrArg AxE.addr h).symm, (congrArg AxE.keys h).symm⟩
theorem Jgp {R : Jy} {xs ys : List AxL} {p q : Pl} (he : xs.map AxL.er = ys.map AxL.er) (hl : xs.length ≤ 9223372036854775807) (hs : Seg R xs.length (Xk xs) p) (hs2 : Seg R ys.length (Xk ys) q) (hx : ∀ x ∈ xs, x.In R) (hy : ∀ x ∈ ys, x.In R) :
  PureR Tryz.prog 56 [Ky xs.length p, Ky ys.length q].toArray (.bool true) R := by
 have hln : ys.length = xs.length := by have h := congrArg List.length he; rw [List.length_map, List.length_map] at h; exact h.symm
 refine Jz Tryz.func56 rfl rfl fun w => ?_; refine sR fun _ hK1 => ?_; refine Jb rfl ?_; refine nK hK1 ?_; refine sQ fun _ hK2 => ?_; refine sR fun _ hK3 => ?_; refine Jb rfl (LR rfl (JJ rfl hs rfl) ?_); refine Jb rfl (LR rfl (JJ rfl hs2 rfl) (J2 rfl ?_)); refine JA (show _ = Value.bool false from Kn (by rw [hln]; exact bne_self_eq_false _)) ?_; refine nK hK3 ?_; refine Jl rfl (fun g => ?_) (fun g => ?_)
 try exact Bool.noConfusion g
 ·try simp only [ZZ] at g
  refine Jg (hK2 ?_); refine sQ fun _ hK6 => ?_; refine sR fun _ hK7 => ?_; refine Jb rfl ?_; refine nK hK7 ?_; refine J3 (JS (σ := Nat) (fun i => i ≤ xs.length) (fun i => [(0, Ky xs.length p), (1, Ky ys.length q), (5, .int .i64 (i : Int))]) (fun _ => []) (fun _ _ _ => True) (fun i => xs.length - i) 0 (Nat.zero_le _) (lK rfl) (List.nil_sublist _) (fun _ _ h => h) ?_); intro i hi1; refine sQ fun _ hK8 => ?_; refine sR fun _ hK9 => ?_; refine Jb rfl (Jb rfl (LR rfl (JJ rfl hs rfl) ?_)); refine J2 rfl ?_; refine nK hK9 ?_; refine cD (fun g => ?_) fun g => ?_
  ·refine Jg (hK8 ?_); refine sB fun _ hK11 => ?_; refine sQ fun _ hK12 => ?_
   obtain ⟨a, ha, hma⟩ := QA (show i < xs.length by omega)
   obtain ⟨b, hb, hmb⟩ := QA (show i < ys.length by omega)
   have hab := Jms he ha hb
   refine Qs 12 (by kernel_rfl) (by kernel_rfl) ?_; refine JD rfl rfl rfl (JG rfl) ?_; refine JD rfl rfl rfl (JG rfl) ?_
   refine JD rfl rfl rfl (JB (j := i) rfl hs rfl rfl rfl (by first | rfl | omega) (by omega)) ?_; refine JD rfl rfl rfl (Ja (off' := Wj p + (i * 2 + 1)) rfl rfl (by show Wj p + i * 2 + 1 = _; omega)) ?_; refine JD rfl rfl rfl (KR AxL.len (k := 1) (v := Ky a.keys.length a.p) oR rfl hs ha rfl rfl) ?_; refine JD rfl rfl rfl (JG rfl) ?_; refine JD rfl rfl rfl (JG rfl) ?_
   refine JD rfl rfl rfl (JB (j := i) rfl hs2 rfl rfl rfl (by first | rfl | omega) (by omega)) ?_; refine JD rfl rfl rfl (Ja (off' := Wj q + (i * 2 + 1)) rfl rfl (by show Wj q + i * 2 + 1 = _; omega)) ?_; refine JD rfl rfl rfl (KR AxL.len (k := 1) (v := Ky a.keys.length b.p) oR rfl hs2 hb (by show some (Ky b.keys.length b.p) = _; rw [hab.2]) rfl) ?_; refine jg rfl rfl rfl (enters_of Tryz.func133 (by kernel_rfl) rfl) (Jgo (hx a hma).len (hx a hma).seg (by have h := (hy b hmb).seg; rw [hab.2] at h; exact h)) oR ?_; refine JD rfl rfl rfl (JY rfl) ?_; refine Q8 ?_; refine nK hK12 ?_; refine sQ fun _ hK13 => ?_; refine Qs 15 (by kernel_rfl) (by kernel_rfl) ?_; refine JD rfl rfl rfl (JG rfl) ?_; refine JD rfl rfl rfl (JG rfl) ?_
   refine JD rfl rfl rfl (JB (j := i) rfl hs rfl rfl rfl (by first | rfl | omega) (by omega)) ?_; refine JD rfl rfl rfl (Ja (off' := Wj p + (i * 2 + 0)) rfl rfl (by show Wj p + i * 2 + 0 = _; omega)) ?_; refine JD rfl rfl rfl (KR AxL.len (k := 0) (v := Jq a.addr) oR rfl hs ha rfl rfl) ?_; refine JD rfl rfl rfl (JG rfl) ?_; refine JD rfl rfl rfl (JG rfl) ?_
   refine JD rfl rfl rfl (JB (j := i) rfl hs2 rfl rfl rfl (by first | rfl | omega) (by omega)) ?_; refine JD rfl rfl rfl (Ja (off' := Wj q + (i * 2 + 0)) rfl rfl (by show Wj q + i * 2 + 0 = _; omega)) ?_; refine JD rfl rfl rfl (KR AxL.len (k := 0) (v := Jq a.addr) oR rfl hs2 hb (by show some (Jq b.addr) = _; rw [hab.1]) rfl) ?_; refine JD rfl rfl rfl (ZH rfl rfl) ?_; refine Wl (show _ = Value.bool false from Kn (congrArg (fun z => !z) (decide_eq_true rfl))) ?_; refine JD rfl rfl rfl (JG rfl) ?_; refine JD rfl rfl rfl (JG rfl) ?_; refine JD rfl rfl rfl (KC rfl rfl rfl) ?_; refine JD rfl rfl rfl (J5 rfl rfl) ?_; refine Q8 ?_; refine nK hK13 ?_; refine Jl rfl (fun g => ?_) (fun g => ?_)
   try exact Bool.noConfusion g
   ·try simp only [ZZ] at g
    refine Jg (Jo (hK11 ?_)); refine Je (Jb rfl ?_)
    refine J2 rfl ?_; refine JA (show _ = Value.int .i64 ((i + 1 : Nat) : Int) from by rw [wrap_i64 (by omega) (by omega)]; congr 1 <;> omega) ?_; refine Jb rfl (Jt (JU ?_)); exact JN (i + 1) (by omega) (by omega) (lK rfl) (List.nil_sublist _) (fun _ _ h => h)
  ·refine JL (Jn ?_); refine Jn (J8 (hK6 ?_)); refine sR fun _ hK18 => ?_; refine Jb rfl ?_; refine nK hK18 ?_; refine Jd ?_; refine pT rfl rfl rfl fun w1 hs1 => ?_; exact ⟨rfl, hs1.keep⟩
theorem Jgq (p q : Pl) : Pure Tryz.prog 57 [Ky 0 p, Ky 0 q].toArray (.bool true) := by
 refine JF Tryz.func57 rfl rfl fun w => ?_; refine sR fun _ hK1 => ?_; refine Jb rfl ?_; refine nK hK1 ?_; refine sQ fun _ hK2 => ?_; refine sR fun _ hK3 => ?_; refine Jb rfl (LR rfl (KD rfl rfl) ?_); refine Jb rfl (LR rfl (KD rfl rfl) (J2 rfl ?_)); refine nK hK3 ?_; refine Jl rfl (fun h4 => ?_) (fun h4 => ?_)
 exact absurd h4 ((by decide))
 ·try simp only [ZZ] at h4
  refine Jg (hK2 ?_); refine sQ fun _ hK5 => ?_; refine sR fun _ hK6 => ?_; refine Jb rfl ?_; refine nK hK6 ?_; refine J3 (JS (σ := Unit) (fun _ => True) (fun _ => [(0, Ky 0 p), (1, Ky 0 q), (5, .int .i64 0)]) (fun _ => []) (fun _ _ _ => True) (fun _ => 0) () trivial (lK rfl) (List.nil_sublist _) (fun _ _ h => h) ?_); rintro u _; refine sQ fun _ hK7 => ?_; refine sR fun _ hK8 => ?_; refine Jb rfl (Jb rfl (LR rfl (KD rfl rfl) ?_)); refine J2 rfl ?_; refine nK hK8 ?_; refine Jl rfl (fun h9 => ?_) (fun h9 => ?_)
  exact absurd h9 ((by decide))
  ·try simp only [ZZ] at h9
   refine JL (Jn ?_); refine Jn (J8 (hK5 ?_)); refine sR fun _ hK10 => ?_; refine Jb rfl ?_; refine nK hK10 ?_; refine Jd ?_; refine pT rfl rfl rfl fun w1 hs1 => ?_; exact ⟨rfl, hs1.keep⟩
theorem Jjn {R : Jy} {t u : TxL} (ht : t.In R) (hu : u.In R) (he : t.er = u.er) (hau : t.auths = []) : PureR Tryz.prog 13 [t.val, u.val].toArray (.bool true) R := by
 obtain ⟨t1, t2, t3, t4, t5, t6, t7, t8, t9, t10, t11, t12, t13, t14, t15, t16, t17, t18, t19, t20⟩ := t
 obtain ⟨u1, u2, u3, u4, u5, u6, u7, u8, u9, u10, u11, u12, u13, u14, u15, u16, u17, u18, u19, u20⟩ := u
 simp only [TxL.er, TxE.mk.injEq] at he
 obtain ⟨rfl, rfl, rfl, rfl, rfl, rfl, rfl, rfl, rfl, hac, rfl, rfl, rfl, rfl, rfl, rfl, rfl, rfl⟩ := he
 have hau : t13 = [] := hau
 subst hau
 have hA := Jgp (R := R) hac ht.accL ht.accS hu.accS ht.acc hu.acc
 refine Jz Tryz.func13 rfl rfl fun w => ?_; refine sR fun _ hK1 => ?_; refine JX (cs := List.toArray (TxL.cells _)) rfl rfl rfl rfl fun r2 => ?_; refine JX (cs := List.toArray (TxL.cells _)) rfl rfl rfl rfl fun r3 => ?_; refine Jb rfl ?_; refine nK hK1 ?_; refine sR fun _ hK2 => ?_
 refine LR rfl (Ja rfl rfl (by first | (simp only [Nat.zero_add, Nat.reduceAdd, Nat.reduceMul, Nat.zero_mul, Nat.mul_one, Nat.add_zero]; exact rfl) | exact rfl)) ?_; refine LR rfl (Jc rfl (kn 1 rfl) rfl rfl) ?_
 refine LR rfl (Ja rfl rfl (by first | (simp only [Nat.zero_add, Nat.reduceAdd, Nat.reduceMul, Nat.zero_mul, Nat.mul_one, Nat.add_zero]; exact rfl) | exact rfl)) ?_; refine LR rfl (Jc rfl (kn 0 rfl) rfl rfl) ?_; refine J2 rfl ?_
 refine JA (show _ = Value.bool true from Kn (by first | exact beq_self_eq_true _ | exact decide_eq_true rfl | exact Qr _)) ?_; refine Jb rfl ?_
 refine LR rfl (Ja rfl rfl (by first | (simp only [Nat.zero_add, Nat.reduceAdd, Nat.reduceMul, Nat.zero_mul, Nat.mul_one, Nat.add_zero]; exact rfl) | exact rfl)) ?_; refine LR rfl (Jc rfl (kn 1 rfl) rfl rfl) ?_
 refine LR rfl (Ja rfl rfl (by first | (simp only [Nat.zero_add, Nat.reduceAdd, Nat.reduceMul, Nat.zero_mul, Nat.mul_one, Nat.add_zero]; exact rfl) | exact rfl)) ?_; refine LR rfl (Jc rfl (kn 0 rfl) rfl rfl) ?_; refine J2 rfl ?_
 refine JA (show _ = Value.bool true from Kn (by first | exact beq_self_eq_true _ | exact decide_eq_true rfl | exact Qr _)) ?_; refine LR rfl (Jx rfl rfl) ?_; refine Jb rfl ?_
 refine LR rfl (Ja rfl rfl (by first | (simp only [Nat.zero_add, Nat.reduceAdd, Nat.reduceMul, Nat.zero_mul, Nat.mul_one, Nat.add_zero]; exact rfl) | exact rfl)) ?_; refine LR rfl (Jc rfl (kn 1 rfl) rfl rfl) ?_
 refine LR rfl (Ja rfl rfl (by first | (simp only [Nat.zero_add, Nat.reduceAdd, Nat.reduceMul, Nat.zero_mul, Nat.mul_one, Nat.add_zero]; exact rfl) | exact rfl)) ?_; refine LR rfl (Jc rfl (kn 0 rfl) rfl rfl) ?_; refine J2 rfl ?_
 refine JA (show _ = Value.bool true from Kn (by first | exact beq_self_eq_true _ | exact decide_eq_true rfl | exact Qr _)) ?_; refine LR rfl (Jx rfl rfl) ?_; refine Jb rfl ?_
 refine LR rfl (Ja rfl rfl (by first | (simp only [Nat.zero_add, Nat.reduceAdd, Nat.reduceMul, Nat.zero_mul, Nat.mul_one, Nat.add_zero]; exact rfl) | exact rfl)) ?_; refine LR rfl (JT (vs := [_, _, _, _]) rfl (kn 1 rfl) rfl rfl rfl rfl) ?_
 refine LR rfl (Ja rfl rfl (by first | (simp only [Nat.zero_add, Nat.reduceAdd, Nat.reduceMul, Nat.zero_mul, Nat.mul_one, Nat.add_zero]; exact rfl) | exact rfl)) ?_; refine LR rfl (JT (vs := [_, _, _, _]) rfl (kn 0 rfl) rfl rfl rfl rfl) ?_; refine LR rfl (X4 rfl rfl rfl rfl rfl (by kernel_rfl) rfl rfl rfl rfl) ?_
 refine JA (show _ = Value.bool true from Kn (by first | exact beq_self_eq_true _ | exact decide_eq_true rfl | exact Qr _)) ?_; refine LR rfl (Jx rfl rfl) ?_; refine Jb rfl ?_
 refine LR rfl (Ja rfl rfl (by first | (simp only [Nat.zero_add, Nat.reduceAdd, Nat.reduceMul, Nat.zero_mul, Nat.mul_one, Nat.add_zero]; exact rfl) | exact rfl)) ?_; refine LR rfl (JT (vs := [_, _, _, _]) rfl (kn 1 rfl) rfl rfl rfl rfl) ?_
 refine LR rfl (Ja rfl rfl (by first | (simp only [Nat.zero_add, Nat.reduceAdd, Nat.reduceMul, Nat.zero_mul, Nat.mul_one, Nat.add_zero]; exact rfl) | exact rfl)) ?_; refine LR rfl (JT (vs := [_, _, _, _]) rfl (kn 0 rfl) rfl rfl rfl rfl) ?_; refine LR rfl (X4 rfl rfl rfl rfl rfl (by kernel_rfl) rfl rfl rfl rfl) ?_
 refine JA (show _ = Value.bool true from Kn (by first | exact beq_self_eq_true _ | exact decide_eq_true rfl | exact Qr _)) ?_; refine LR rfl (Jx rfl rfl) ?_; refine Jb rfl ?_
 refine LR rfl (Ja rfl rfl (by first | (simp only [Nat.zero_add, Nat.reduceAdd, Nat.reduceMul, Nat.zero_mul, Nat.mul_one, Nat.add_zero]; exact rfl) | exact rfl)) ?_; refine LR rfl (Jc rfl (kn 1 rfl) rfl rfl) ?_
 refine LR rfl (Ja rfl rfl (by first | (simp only [Nat.zero_add, Nat.reduceAdd, Nat.reduceMul, Nat.zero_mul, Nat.mul_one, Nat.add_zero]; exact rfl) | exact rfl)) ?_; refine LR rfl (Jc rfl (kn 0 rfl) rfl rfl) ?_; refine J2 rfl ?_
 refine JA (show _ = Value.bool true from Kn (by first | exact beq_self_eq_true _ | exact decide_eq_true rfl | exact Qr _)) ?_; refine LR rfl (Jx rfl rfl) ?_; refine Jb rfl ?_
 refine LR rfl (Ja rfl rfl (by first | (simp only [Nat.zero_add, Nat.reduceAdd, Nat.reduceMul, Nat.zero_mul, Nat.mul_one, Nat.add_zero]; exact rfl) | exact rfl)) ?_; refine LR rfl (Jc rfl (kn 1 rfl) rfl rfl) ?_
 refine LR rfl (Ja rfl rfl (by first | (simp only [Nat.zero_add, Nat.reduceAdd, Nat.reduceMul, Nat.zero_mul, Nat.mul_one, Nat.add_zero]; exact rfl) | exact rfl)) ?_; refine LR rfl (Jc rfl (kn 0 rfl) rfl rfl) ?_; refine LR rfl (Q3 rfl rfl) ?_
 refine JA (show _ = Value.bool true from Kn (by first | exact beq_self_eq_true _ | exact decide_eq_true rfl | exact Qr _)) ?_; refine LR rfl (Jx rfl rfl) ?_; refine Jb rfl ?_
 refine LR rfl (Ja rfl rfl (by first | (simp only [Nat.zero_add, Nat.reduceAdd, Nat.reduceMul, Nat.zero_mul, Nat.mul_one, Nat.add_zero]; exact rfl) | exact rfl)) ?_; refine LR rfl (JT (vs := [_, _, _, _]) rfl (kn 1 rfl) rfl rfl rfl rfl) ?_
 refine LR rfl (Ja rfl rfl (by first | (simp only [Nat.zero_add, Nat.reduceAdd, Nat.reduceMul, Nat.zero_mul, Nat.mul_one, Nat.add_zero]; exact rfl) | exact rfl)) ?_; refine LR rfl (JT (vs := [_, _, _, _]) rfl (kn 0 rfl) rfl rfl rfl rfl) ?_; refine LR rfl (X4 rfl rfl rfl rfl rfl (by kernel_rfl) rfl rfl rfl rfl) ?_
 refine JA (show _ = Value.bool true from Kn (by first | exact beq_self_eq_true _ | exact decide_eq_true rfl | exact Qr _)) ?_; refine LR rfl (Jx rfl rfl) ?_; refine Jb rfl ?_
 refine LR rfl (Ja rfl rfl (by first | (simp only [Nat.zero_add, Nat.reduceAdd, Nat.reduceMul, Nat.zero_mul, Nat.mul_one, Nat.add_zero]; exact rfl) | exact rfl)) ?_; refine LR rfl (Jc rfl (kn 1 rfl) rfl rfl) ?_
 refine LR rfl (Ja rfl rfl (by first | (simp only [Nat.zero_add, Nat.reduceAdd, Nat.reduceMul, Nat.zero_mul, Nat.mul_one, Nat.add_zero]; exact rfl) | exact rfl)) ?_; refine LR rfl (Jc rfl (kn 0 rfl) rfl rfl) ?_; refine LR rfl (Q3 rfl rfl) ?_
 refine JA (show _ = Value.bool true from Kn (by first | exact beq_self_eq_true _ | exact decide_eq_true rfl | exact Qr _)) ?_; refine LR rfl (Jx rfl rfl) ?_; refine Jb rfl ?_; refine nK hK2 ?_; refine sR fun _ hK43 => ?_
 refine LR rfl (Ja rfl rfl (by first | (simp only [Nat.zero_add, Nat.reduceAdd, Nat.reduceMul, Nat.zero_mul, Nat.mul_one, Nat.add_zero]; exact rfl) | exact rfl)) ?_; refine LR rfl (Jc rfl (kn 1 rfl) rfl rfl) ?_
 refine LR rfl (Ja rfl rfl (by first | (simp only [Nat.zero_add, Nat.reduceAdd, Nat.reduceMul, Nat.zero_mul, Nat.mul_one, Nat.add_zero]; exact rfl) | exact rfl)) ?_; refine LR rfl (Jc rfl (kn 0 rfl) rfl rfl) ?_; refine J2 rfl ?_
 refine JA (show _ = Value.bool true from Kn (by first | exact beq_self_eq_true _ | exact decide_eq_true rfl | exact Qr _)) ?_; refine Jb rfl ?_
 refine LR rfl (Ja rfl rfl (by first | (simp only [Nat.zero_add, Nat.reduceAdd, Nat.reduceMul, Nat.zero_mul, Nat.mul_one, Nat.add_zero]; exact rfl) | exact rfl)) ?_; refine LR rfl (JT (vs := [_, _, _, _]) rfl (kn 1 rfl) rfl rfl rfl rfl) ?_
 refine LR rfl (Ja rfl rfl (by first | (simp only [Nat.zero_add, Nat.reduceAdd, Nat.reduceMul, Nat.zero_mul, Nat.mul_one, Nat.add_zero]; exact rfl) | exact rfl)) ?_; refine LR rfl (JT (vs := [_, _, _, _]) rfl (kn 0 rfl) rfl rfl rfl rfl) ?_; refine LR rfl (X4 rfl rfl rfl rfl rfl (by kernel_rfl) rfl rfl rfl rfl) ?_
 refine JA (show _ = Value.bool true from Kn (by first | exact beq_self_eq_true _ | exact decide_eq_true rfl | exact Qr _)) ?_; refine LR rfl (Jx rfl rfl) ?_; refine Jb rfl ?_
 refine LR rfl (Ja rfl rfl (by first | (simp only [Nat.zero_add, Nat.reduceAdd, Nat.reduceMul, Nat.zero_mul, Nat.mul_one, Nat.add_zero]; exact rfl) | exact rfl)) ?_; refine LR rfl (JT (vs := [_, _, _, _]) rfl (kn 1 rfl) rfl rfl rfl rfl) ?_
 refine LR rfl (Ja rfl rfl (by first | (simp only [Nat.zero_add, Nat.reduceAdd, Nat.reduceMul, Nat.zero_mul, Nat.mul_one, Nat.add_zero]; exact rfl) | exact rfl)) ?_; refine LR rfl (JT (vs := [_, _, _, _]) rfl (kn 0 rfl) rfl rfl rfl rfl) ?_; refine LR rfl (X4 rfl rfl rfl rfl rfl (by kernel_rfl) rfl rfl rfl rfl) ?_
 refine JA (show _ = Value.bool true from Kn (by first | exact beq_self_eq_true _ | exact decide_eq_true rfl | exact Qr _)) ?_; refine LR rfl (Jx rfl rfl) ?_; refine Jb rfl ?_
 refine LR rfl (Ja rfl rfl (by first | (simp only [Nat.zero_add, Nat.reduceAdd, Nat.reduceMul, Nat.zero_mul, Nat.mul_one, Nat.add_zero]; exact rfl) | exact rfl)) ?_; refine LR rfl (Jc rfl (kn 1 rfl) rfl rfl) ?_
 refine LR rfl (Ja rfl rfl (by first | (simp only [Nat.zero_add, Nat.reduceAdd, Nat.reduceMul, Nat.zero_mul, Nat.mul_one, Nat.add_zero]; exact rfl) | exact rfl)) ?_; refine LR rfl (Jc rfl (kn 0 rfl) rfl rfl) ?_; refine LR rfl (Q3 rfl rfl) ?_
 refine JA (show _ = Value.bool true from Kn (by first | exact beq_self_eq_true _ | exact decide_eq_true rfl | exact Qr _)) ?_; refine LR rfl (Jx rfl rfl) ?_; refine Jb rfl ?_
 refine LR rfl (Ja rfl rfl (by first | (simp only [Nat.zero_add, Nat.reduceAdd, Nat.reduceMul, Nat.zero_mul, Nat.mul_one, Nat.add_zero]; exact rfl) | exact rfl)) ?_; refine LR rfl (Jc rfl (kn 1 rfl) rfl rfl) ?_
 refine LR rfl (Ja rfl rfl (by first | (simp only [Nat.zero_add, Nat.reduceAdd, Nat.reduceMul, Nat.zero_mul, Nat.mul_one, Nat.add_zero]; exact rfl) | exact rfl)) ?_; refine LR rfl (Jc rfl (kn 0 rfl) rfl rfl) ?_; refine LR rfl (Q3 rfl rfl) ?_
 refine JA (show _ = Value.bool true from Kn (by first | exact beq_self_eq_true _ | exact decide_eq_true rfl | exact Qr _)) ?_; refine LR rfl (Jx rfl rfl) ?_; refine Jb rfl ?_
 refine LR rfl (Ja rfl rfl (by first | (simp only [Nat.zero_add, Nat.reduceAdd, Nat.reduceMul, Nat.zero_mul, Nat.mul_one, Nat.add_zero]; exact rfl) | exact rfl)) ?_; refine LR rfl (JT (vs := [_, _, _, _]) rfl (kn 1 rfl) rfl rfl rfl rfl) ?_
 refine LR rfl (Ja rfl rfl (by first | (simp only [Nat.zero_add, Nat.reduceAdd, Nat.reduceMul, Nat.zero_mul, Nat.mul_one, Nat.add_zero]; exact rfl) | exact rfl)) ?_; refine LR rfl (JT (vs := [_, _, _, _]) rfl (kn 0 rfl) rfl rfl rfl rfl) ?_; refine LR rfl (X4 rfl rfl rfl rfl rfl (by kernel_rfl) rfl rfl rfl rfl) ?_
 refine JA (show _ = Value.bool true from Kn (by first | exact beq_self_eq_true _ | exact decide_eq_true rfl | exact Qr _)) ?_; refine LR rfl (Jx rfl rfl) ?_; refine Jb rfl ?_
 refine LR rfl (Ja rfl rfl (by first | (simp only [Nat.zero_add, Nat.reduceAdd, Nat.reduceMul, Nat.zero_mul, Nat.mul_one, Nat.add_zero]; exact rfl) | exact rfl)) ?_; refine LR rfl (Jc rfl (kn 1 rfl) rfl rfl) ?_
 refine LR rfl (Ja rfl rfl (by first | (simp only [Nat.zero_add, Nat.reduceAdd, Nat.reduceMul, Nat.zero_mul, Nat.mul_one, Nat.add_zero]; exact rfl) | exact rfl)) ?_; refine LR rfl (Jc rfl (kn 0 rfl) rfl rfl) ?_; refine J2 rfl ?_
 refine JA (show _ = Value.bool true from Kn (by first | exact beq_self_eq_true _ | exact decide_eq_true rfl | exact Qr _)) ?_; refine LR rfl (Jx rfl rfl) ?_; refine Jb rfl ?_; refine nK hK43 ?_; refine sR fun _ hK74 => ?_; refine Jb rfl (Jb rfl ?_); refine Jb rfl (LR rfl (Jx rfl rfl) (Jb rfl ?_))
 refine LR rfl (Ja rfl rfl (by first | (simp only [Nat.zero_add, Nat.reduceAdd, Nat.reduceMul, Nat.zero_mul, Nat.mul_one, Nat.add_zero]; exact rfl) | exact rfl)) ?_; refine LR rfl (Jc rfl (kn 1 rfl) rfl rfl) ?_
 refine LR rfl (Ja rfl rfl (by first | (simp only [Nat.zero_add, Nat.reduceAdd, Nat.reduceMul, Nat.zero_mul, Nat.mul_one, Nat.add_zero]; exact rfl) | exact rfl)) ?_; refine LR rfl (Jc rfl (kn 0 rfl) rfl rfl) ?_; refine J4 rfl rfl rfl (enters_of Tryz.func56 (by kernel_rfl) rfl) hA oR ?_; refine LR rfl (Jx rfl rfl) ?_; refine Jb rfl ?_
 refine LR rfl (Ja rfl rfl (by first | (simp only [Nat.zero_add, Nat.reduceAdd, Nat.reduceMul, Nat.zero_mul, Nat.mul_one, Nat.add_zero]; exact rfl) | exact rfl)) ?_; refine LR rfl (Jc rfl (kn 1 rfl) rfl rfl) ?_
 refine LR rfl (Ja rfl rfl (by first | (simp only [Nat.zero_add, Nat.reduceAdd, Nat.reduceMul, Nat.zero_mul, Nat.mul_one, Nat.add_zero]; exact rfl) | exact rfl)) ?_; refine LR rfl (Jc rfl (kn 0 rfl) rfl rfl) ?_; refine JC rfl rfl rfl (enters_of Tryz.func57 (by kernel_rfl) rfl) (Jgq t12 u12) ?_; refine LR rfl (Jx rfl rfl) ?_; refine Jb rfl ?_; refine nK hK74 ?_; refine Jd ?_; refine pT rfl rfl rfl fun w1 hs1 => ?_; exact ⟨rfl, hs1.keep⟩
def Ko (sz a : Nat) : Pl → Pl
 | none => none
 | some (q, cap) => some (if cap = a then q else q.add (a * sz), cap - a)
section
variable {c : Cx} {l : KK} {L : Jy} {X : XP} {d : List Deferred} {i : Nat} {t : TypeId} {ps : String} {af : Array Edge} {gd : Option (Nat × Bool)} {ty : TypeId}
theorem Jcp {x : Operand} {lo hi : Option Operand} {kl kh : Option Nat} {p : Pl} {R : Jy} {cs : List Value} {n e sz a b m : Nat} (hx : Kz l x = some (Ky n p)) (hs : Seg R n cs p) (ht : KI c.P t = some e) (hsz : Qd c.P e = some sz)
  (hl : je l lo kl) (hh : je l hi kh) (e1 : kl.getD 0 = a) (e2 : kh.getD n = b) (hab : a ≤ b) (hb : b ≤ n) (hm : b - a = m) :
  JP c d l L X ⟨some i, .slice t x lo hi none, ty, ps, af, gd⟩ (Ky m (Ko sz a p)) := fun a' w hf _ => by
 have ex := hf.eval hx
 subst e1 e2 hm
 have low : ∀ {o : Option Operand} {k : Option Nat}, je l o k → (o.map a'.eval = none ∧ k = none) ∨ (∃ y n, o.map a'.eval = some (.int y ((n : Nat) : Int)) ∧ k = some n) := by
  intro o k h
  cases o with
  | none => cases k with
   | none => exact .inl ⟨rfl, rfl⟩
   | some k => exact h.elim
  | some o => cases k with
   | none => exact h.elim
   | some k => obtain ⟨y, hy⟩ := h; exact .inr ⟨y, k, by simp [hf.eval hy], rfl⟩
 simp only [execOp, ex]
 cases p with
 | none =>
  have hn : n = 0 := hs
  subst hn
  rcases low hl with ⟨f1, rfl⟩ | ⟨y1, n1, f1, rfl⟩ <;> rcases low hh with ⟨f2, rfl⟩ | ⟨y2, n2, f2, rfl⟩ <;> simp only [Option.getD_none, Option.getD_some, Nat.le_zero] at hab hb ⊢ <;> (try subst hb) <;> (try simp only [Nat.le_zero] at hab) <;> (try subst hab) <;> rw [f1, f2] <;>
   simp [Ky, Ko, plA, plC, Instr.sliceAt, Instr.slice, Sem.run_bind, KO (Kj ht), QG hsz, Result.andThen, Instr.sliceBounds, Instr.sliceBound, asIntOf]
 | some q =>
  obtain ⟨q, cap⟩ := q
  have hc : n ≤ cap := hs.1
  rcases low hl with ⟨f1, rfl⟩ | ⟨y1, n1, f1, rfl⟩ <;> rcases low hh with ⟨f2, rfl⟩ | ⟨y2, n2, f2, rfl⟩ <;> simp only [Option.getD_none, Option.getD_some] at hab hb ⊢ <;> rw [f1, f2] <;>
   simp [Ky, Ko, plA, plC, Instr.sliceAt, Instr.slice, Sem.run_bind, KO (Kj ht), QG hsz, Result.andThen, Instr.sliceBounds, Instr.sliceBound, asIntOf, hab, hb, hc, Nat.le_trans hb hc, Nat.le_trans hab hb, Nat.le_trans (Nat.le_trans hab hb) hc] <;> split <;> rfl
end
theorem zY {R : Jy} {n sz a b : Nat} {cs : List Value} {p : Pl} (h : Seg R n cs p) (hl : cs.length = n * sz) (hab : a ≤ b) (hb : b ≤ n) : Seg R (b - a) ((cs.drop (a * sz)).take ((b - a) * sz)) (Ko sz a p) := by
 cases p with
 | none => have h : n = 0 := h; show b - a = 0; omega
 | some q =>
  obtain ⟨⟨r, o, s⟩, cap⟩ := q
  obtain ⟨h1, h2⟩ := h
  refine ⟨by show b - a ≤ cap - a; omega, fun h0 => ?_⟩
  obtain ⟨h3, all, e, fr, h4, h5⟩ := h2 (by omega)
  have h3 : s = none := h3
  subst h3
  have hne : ¬ cap = a := by omega
  have hlen : ((cs.drop (a * sz)).take ((b - a) * sz)).length = (b - a) * sz := by
   rw [List.length_take, List.length_drop, hl, ← Nat.sub_mul]; exact Nat.min_eq_left (Nat.mul_le_mul_right _ (by omega))
  simp only [if_neg hne, V9]; refine ⟨trivial, all, e, fr, h4, ?_⟩; rw [hlen]; exact jf h5 rfl hlen
def Vc (q n : Nat) (p : Pl) : Jy := [(q, .cells #[Ky n p] 211 (0, 0))]
theorem Jh {R : Jy} {y : ItL} {r : List ItL} {p : Pl} (hs : Seg R (y :: r).length (JK (y :: r)) p) : Seg R r.length (JK r) (Ko 3 1 p) := by
 have h := zY hs (QU _) (Nat.le_add_left 1 r.length) (Nat.le_refl _)
 simp only [Nat.add_sub_cancel] at h
 have e : ((JK (y :: r)).drop (1 * 3)).take (r.length * 3) = JK r := by
  have e1 : JK (y :: r) = y.cells ++ JK r := rfl
  rw [e1, Nat.one_mul, List.drop_left' (ItL.len y), ← QU, List.take_length]
 rw [e] at h; exact h
theorem QV : Pure Tryz.prog 51 [.int .i64 0].toArray (.tuple #[]) := by
 refine JF Tryz.func51 rfl rfl fun w => ?_; refine sR fun _ hK1 => ?_; refine Jb rfl (J2 rfl ?_); refine nK hK1 ?_; refine Jl rfl (fun h2 => ?_) (fun h2 => ?_)
 exact absurd h2 ((by decide))
 ·try simp only [ZZ] at h2
  refine Jg ?_; refine Qf rfl rfl .nil (fun w1 hs1 => ?_); exact ⟨rfl, hs1.keep⟩
theorem jF {R : Jy} {y : ItL} {r : List ItL} {p : Pl} {q : Nat} (hs : Seg R (y :: r).length (JK (y :: r)) p) (hl : (y :: r).length ≤ 1000000) :
  PureT (α := Unit) Tryz.prog 205 [Kw q].toArray (fun _ => y.val) (Vc q (y :: r).length p) (fun _ => Vc q r.length (Ko 3 1 p)) R := by
 refine J1 Tryz.func205 rfl rfl fun w => ?_; refine sR fun _ hK1 => ?_; refine LN rfl fun r2 => ?_; refine nK hK1 ?_; refine sR fun _ hK2 => ?_; refine Jb rfl (J2 rfl ?_)
 refine LR rfl (Ja rfl rfl (by first | (simp only [Nat.zero_add, Nat.reduceAdd, Nat.reduceMul, Nat.zero_mul, Nat.mul_one, Nat.add_zero]; exact rfl) | exact rfl)) ?_; refine LR rfl (Jc rfl (kn 1 rfl) rfl rfl) ?_
 refine LR rfl (JB (j := 0) rfl hs rfl rfl rfl (by first | rfl | omega) (by rw [List.length_cons]; omega)) ?_; refine LR rfl (Kt ItL.len oR rfl hs (show (y :: r)[0]? = some y from rfl) rfl rfl) ?_; refine LN rfl fun r3 => ?_; refine Js (k := 0) (n := 3) (ys := y.cells) rfl rfl rfl rfl rfl (ItL.len _) rfl (ItL.one _) rfl ?_; refine nK hK2 ?_; refine sR fun _ hK3 => ?_; refine Jb rfl (Jb rfl (J2 rfl ?_))
 refine LR rfl (Ja rfl rfl (by first | (simp only [Nat.zero_add, Nat.reduceAdd, Nat.reduceMul, Nat.zero_mul, Nat.mul_one, Nat.add_zero]; exact rfl) | exact rfl)) ?_; refine LR rfl (Jc rfl (kn 2 rfl) rfl rfl) ?_; refine LR rfl (Jcp (kl := some 1) (kh := none) (a := 1) (b := (y :: r).length) (m := r.length) rfl hs rfl rfl ⟨_, rfl⟩ trivial rfl rfl (by rw [List.length_cons]; omega) (Nat.le_refl _) (by rw [List.length_cons]; omega)) ?_; refine J2 rfl ?_
 refine LR rfl (Ja rfl rfl (by first | (simp only [Nat.zero_add, Nat.reduceAdd, Nat.reduceMul, Nat.zero_mul, Nat.mul_one, Nat.add_zero]; exact rfl) | exact rfl)) ?_; refine Ju (k := 2) (cs' := #[Ky r.length (Ko 3 1 p)]) rfl rfl rfl rfl rfl rfl rfl rfl rfl rfl ?_; refine nK hK3 ?_; refine sR fun _ hK4 => ?_; refine LR rfl (Jm (xs := y.cells) (n := 3) rfl (kn 0 rfl) rfl rfl (ItL.len _)) ?_; refine Js (k := 1) (n := 3) (ys := y.cells) rfl rfl rfl rfl rfl (ItL.len _) rfl (ItL.one _) rfl ?_; refine nK hK4 ?_; refine Jd ?_; refine Jp rfl rfl (.cons (J0 (vs := y.cells) rfl (kn 1 rfl) rfl (by rw [ItL.len]; rfl)) .nil) (fun w1 hs1 => ?_); exact ⟨(), rfl, hs1.weakL (.cons _ (.cons _ (List.Sublist.refl _)))⟩
theorem Vy {α : Type} {R : Jy} {y : ItL} {r : List ItL} {p : Pl} {q : Nat} {g : FuncId} {caps : List Value} {V : α → Value} {LL : α → Jy} (hs : Seg R (y :: r).length (JK (y :: r)) p) (hl : (y :: r).length ≤ 1000000) (eg : Enters Tryz.prog g)
  (hg : PureT (α := α) Tryz.prog g (y.val :: caps).toArray (fun x => .tuple #[V x, .int .i64 0]) [] LL R) :
  PureT (α := α) Tryz.prog 123 [Kw q, .func (.func g) #[] caps.toArray].toArray V (Vc q (y :: r).length p) (fun x => Vc q r.length (Ko 3 1 p) ++ LL x) R := by
 refine J1 Tryz.func123 rfl rfl fun w => ?_; refine sR fun _ hK1 => ?_; refine Jb rfl ?_; refine nK hK1 ?_; refine sR fun _ hK2 => ?_; refine Jb rfl (Jb rfl (J9 (T := Vc q (y :: r).length p) (L0 := []) (List.Perm.refl _) rfl rfl rfl wL (jF hs hl) oR fun _ => ?_)); rw [List.append_nil]; refine Ka rfl rfl rfl eg hg oR fun x => ?_; refine Jb rfl (LR rfl (Jf rfl rfl) (LR rfl (Jf rfl rfl) ?_)); refine Jb rfl (Jb rfl ?_); refine nK hK2 ?_; refine sR fun _ hK3 => ?_; refine Jb rfl (JC rfl rfl rfl YX QV ?_); refine nK hK3 ?_; refine sR fun _ hK4 => ?_; refine Jb rfl (Jb rfl ?_); refine nK hK4 ?_; refine Jd ?_; refine pT rfl rfl rfl fun w1 hs1 => ?_; exact ⟨x, rfl, hs1.perm List.perm_append_comm⟩
theorem Xf {α : Type} {R : Jy} {y : ItL} {r : List ItL} {p : Pl} {q : Nat} {g : FuncId} {caps : List Value} {V : α → Value} {LL : α → Jy} (hs : Seg R (y :: r).length (JK (y :: r)) p) (hl : (y :: r).length ≤ 1000000) (eg : Enters Tryz.prog g)
  (hg : PureT (α := α) Tryz.prog g (y.val :: caps).toArray (fun x => .tuple #[V x, .int .i64 0]) [] LL R) :
  PureT (α := α) Tryz.prog 118 [Kw q, .func (.func g) #[] caps.toArray].toArray V (Vc q (y :: r).length p) (fun x => Vc q r.length (Ko 3 1 p) ++ LL x) R := by
 refine J1 Tryz.func118 rfl rfl fun w => ?_; refine sR fun _ hK1 => ?_; refine Jb rfl ?_; refine nK hK1 ?_; refine sR fun _ hK2 => ?_; refine Jb rfl (Jb rfl (J9 (T := Vc q (y :: r).length p) (L0 := []) (List.Perm.refl _) rfl rfl rfl wL (jF hs hl) oR fun _ => ?_)); rw [List.append_nil]; refine Ka rfl rfl rfl eg hg oR fun x => ?_; refine Jb rfl (LR rfl (Jf rfl rfl) (LR rfl (Jf rfl rfl) ?_)); refine Jb rfl (Jb rfl ?_); refine nK hK2 ?_; refine sR fun _ hK3 => ?_; refine Jb rfl (JC rfl rfl rfl YX QV ?_); refine nK hK3 ?_; refine sR fun _ hK4 => ?_; refine Jb rfl (Jb rfl ?_); refine nK hK4 ?_; refine Jd ?_; refine pT rfl rfl rfl fun w1 hs1 => ?_; exact ⟨x, rfl, hs1.perm List.perm_append_comm⟩
theorem Ja3 {α : Type} {R : Jy} {y : ItL} {r : List ItL} {p : Pl} {q : Nat} {g : FuncId} {caps : List Value} {V : α → Value} {LL : α → Jy} (hs : Seg R (y :: r).length (JK (y :: r)) p) (hl : (y :: r).length ≤ 1000000) (eg : Enters Tryz.prog g)
  (hg : PureT (α := α) Tryz.prog g (y.val :: caps).toArray (fun x => .tuple #[V x, .int .i64 0]) [] LL R) :
  PureT (α := α) Tryz.prog 127 [Kw q, .func (.func g) #[] caps.toArray].toArray V (Vc q (y :: r).length p) (fun x => Vc q r.length (Ko 3 1 p) ++ LL x) R := by
 refine J1 Tryz.func127 rfl rfl fun w => ?_; refine sR fun _ hK1 => ?_; refine Jb rfl ?_; refine nK hK1 ?_; refine sR fun _ hK2 => ?_; refine Jb rfl (Jb rfl (J9 (T := Vc q (y :: r).length p) (L0 := []) (List.Perm.refl _) rfl rfl rfl wL (jF hs hl) oR fun _ => ?_)); rw [List.append_nil]; refine Ka rfl rfl rfl eg hg oR fun x => ?_; refine Jb rfl (LR rfl (Jf rfl rfl) (LR rfl (Jf rfl rfl) ?_)); refine Jb rfl (Jb rfl ?_); refine nK hK2 ?_; refine sR fun _ hK3 => ?_; refine Jb rfl (JC rfl rfl rfl YX QV ?_); refine nK hK3 ?_; refine sR fun _ hK4 => ?_; refine Jb rfl (Jb rfl ?_); refine nK hK4 ?_; refine Jd ?_; refine pT rfl rfl rfl fun w1 hs1 => ?_; exact ⟨x, rfl, hs1.perm List.perm_append_comm⟩
theorem Jjo {α : Type} {R : Jy} {y : ItL} {r : List ItL} {p : Pl} {q : Nat} {g : FuncId} {caps : List Value} {V : α → Value} {LL : α → Jy} (hs : Seg R (y :: r).length (JK (y :: r)) p) (hl : (y :: r).length ≤ 1000000) (eg : Enters Tryz.prog g)
  (hg : PureT (α := α) Tryz.prog g (y.val :: caps).toArray (fun x => .tuple #[V x, .int .i64 0]) [] LL R) :
  PureT (α := α) Tryz.prog 212 [Kw q, .func (.func g) #[] caps.toArray].toArray V (Vc q (y :: r).length p) (fun x => Vc q r.length (Ko 3 1 p) ++ LL x) R := by
 refine J1 Tryz.func212 rfl rfl fun w => ?_; refine sR fun _ hK1 => ?_; refine Jb rfl ?_; refine nK hK1 ?_; refine sR fun _ hK2 => ?_; refine Jb rfl (Jb rfl (J9 (T := Vc q (y :: r).length p) (L0 := []) (List.Perm.refl _) rfl rfl rfl wL (jF hs hl) oR fun _ => ?_)); rw [List.append_nil]; refine Ka rfl rfl rfl eg hg oR fun x => ?_; refine Jb rfl (LR rfl (Jf rfl rfl) (LR rfl (Jf rfl rfl) ?_)); refine Jb rfl (Jb rfl ?_); refine nK hK2 ?_; refine sR fun _ hK3 => ?_; refine Jb rfl (JC rfl rfl rfl YX QV ?_); refine nK hK3 ?_; refine sR fun _ hK4 => ?_; refine Jb rfl (Jb rfl ?_); refine nK hK4 ?_; refine Jd ?_; refine pT rfl rfl rfl fun w1 hs1 => ?_; exact ⟨x, rfl, hs1.perm List.perm_append_comm⟩
theorem QW {R : Jy} {y : ItL} {r : List ItL} {p : Pl} {q : Nat} {g : FuncId} {caps : List Value} {x : W4} (hs : Seg R (y :: r).length (JK (y :: r)) p) (hl : (y :: r).length ≤ 1000000) (eg : Enters Tryz.prog g)
  (hg : PureR Tryz.prog g (y.val :: caps).toArray (.tuple #[.agg (wC x).toArray, .int .i64 0]) R) :
  PureT (α := Unit) Tryz.prog 121 [Kw q, .func (.func g) #[] caps.toArray].toArray (fun _ => .agg (wC x).toArray) (Vc q (y :: r).length p) (fun _ => Vc q r.length (Ko 3 1 p)) R := by
 refine J1 Tryz.func121 rfl rfl fun w => ?_; refine sR fun _ hK1 => ?_; refine LN rfl fun r4 => ?_; refine nK hK1 ?_; refine sR fun _ hK2 => ?_; refine Jb rfl (Jb rfl (J9 (T := Vc q (y :: r).length p) (L0 := [(r4, _)]) (List.perm_append_comm (l₁ := [_])) rfl rfl rfl wL (jF hs hl) oR fun _ => ?_)); refine J4 rfl rfl rfl eg hg oR ?_; refine Jb rfl (LR rfl (Jf rfl rfl) (LR rfl (Jf rfl rfl) ?_)); refine LN rfl fun r5 => ?_; refine Js (k := 0) (n := 4) (ys := wC x) rfl rfl rfl rfl rfl rfl rfl rfl rfl ?_; refine Jb rfl ?_; refine nK hK2 ?_; refine sR fun _ hK3 => ?_; refine Jb rfl (JC rfl rfl rfl YX QV ?_); refine nK hK3 ?_; refine sR fun _ hK4 => ?_; refine LR rfl (Jm (xs := wC x) (n := 4) rfl (kn 0 rfl) rfl rfl rfl) ?_; refine Js (k := 2) (n := 4) (ys := wC x) rfl rfl rfl rfl rfl rfl rfl rfl rfl ?_; refine nK hK4 ?_; refine Jd ?_; refine Jp rfl rfl (.cons (J0 (vs := wC x) rfl (kn 2 rfl) rfl rfl) .nil) (fun w1 hs1 => ?_); exact ⟨(), rfl, hs1.weakL (.cons _ (.cons_cons _ (List.nil_sublist _)))⟩
theorem Xg {y : ItL} {b : BS} (h : y.er = Ki b) : ∃ p xs, y = .mk false b p xs := by
 obtain ⟨l, b', p, xs⟩ := y
 rw [ItL.er] at h
 injection h with h1 h2 h3
 subst h1; subst h2; exact ⟨p, xs, rfl⟩
theorem Ja4 {R : Jy} {x : ItL} (n : Nat) (hx : x.In R) (hg : Qi x.er n n = 0) : PureT (α := Nat) Tryz.prog 52 [x.val, .int .i64 (n : Int)].toArray (fun q => Kw q) [] (fun q => Vc q x.xs.length x.p) R := by
 have hgl := WI hx n n
 rw [if_pos hg, hg] at hgl; refine J1 Tryz.func52 rfl rfl fun w => ?_; refine sR fun _ hK1 => ?_; refine JX (cs := List.toArray (x.cells)) rfl rfl rfl rfl fun r2 => ?_; refine Jb rfl ?_; refine nK hK1 ?_; refine sR fun _ hK2 => ?_; refine LR rfl (Jm (xs := x.cells) (n := 3) rfl (kn 0 rfl) rfl rfl (ItL.len x)) ?_; refine Jb rfl (Jb rfl (J4 rfl rfl rfl Jb8 hgl oR ?_)); refine Jb rfl (LR rfl (Jf rfl rfl) (LR rfl (Jf rfl rfl) ?_)); refine Jb rfl (Jb rfl ?_); refine nK hK2 ?_; refine sR fun _ hK3 => ?_; refine Jb rfl (JC rfl rfl rfl YX QV ?_); refine nK hK3 ?_; refine sR fun _ hK4 => ?_; refine Jb rfl (LR rfl (J7 (r := [_]) rfl rfl) (LN rfl fun r1 => ?_)); refine Jb rfl ?_; refine nK hK4 ?_; refine Jd ?_; refine pT rfl rfl rfl fun w1 hs1 => ?_; exact ⟨_, rfl, hs1.weakL (.cons_cons _ (List.nil_sublist _))⟩
def jG (r n : Nat) : Nat × Obj := (r, .cells #[.int .i64 (n : Int)] 3 (0, 0))
theorem Ja5 (n : Nat) : PureE (α := Nat) Tryz.prog 119 [.int .i64 (n : Int)].toArray (fun r => .func (.func 206) #[] #[Kw r]) (fun r => [jG r n]) := by
 refine KZ Tryz.func119 rfl rfl fun w => ?_; refine sR fun _ hK1 => ?_; refine LN rfl fun r1 => ?_; refine Jb rfl ?_; refine nK hK1 ?_; refine sR fun _ hK2 => ?_; refine LR rfl (JQ rfl rfl) ?_; refine Jb rfl ?_; refine nK hK2 ?_; refine Jd ?_; refine pT rfl rfl rfl fun w1 hs1 => ?_; exact ⟨_, rfl, hs1⟩
theorem yB {R : Jy} {b : BS} {p : Pl} {xs : List ItL} {r : Nat} (h : jG r b.length ∈ R) : PureR Tryz.prog 206 [ItL.val (.mk false b p xs), Kw r].toArray (.tuple #[Jq b, .int .i64 0]) R := by
 refine Jz Tryz.func206 rfl rfl fun w => ?_; refine sR fun _ hK1 => ?_; refine JX (cs := List.toArray (ItL.cells (.mk false b p xs))) rfl rfl rfl rfl fun r2 => ?_; refine Jb rfl (Jb rfl ?_); refine nK hK1 ?_; refine sQ fun _ hK2 => ?_; refine sR fun _ hK3 => ?_
 refine LR rfl (Ja rfl rfl (by first | (simp only [Nat.zero_add, Nat.reduceAdd, Nat.reduceMul, Nat.zero_mul, Nat.mul_one, Nat.add_zero]; exact rfl) | exact rfl)) ?_; refine LR rfl (Jc rfl (kn 0 rfl) rfl rfl) ?_; refine Jb rfl ?_
 refine LR rfl (Ja rfl rfl (by first | (simp only [Nat.zero_add, Nat.reduceAdd, Nat.reduceMul, Nat.zero_mul, Nat.mul_one, Nat.add_zero]; exact rfl) | exact rfl)) ?_; refine LR rfl (Jc rfl (kn 0 rfl) rfl rfl) ?_; refine LR rfl (JI rfl rfl) ?_; refine LR rfl (Jc rfl (Or.inr h) rfl rfl) ?_; refine J2 rfl (JA (show _ = Value.bool false from Kn (bne_self_eq_false _)) (LR rfl (J5 rfl rfl) ?_)); refine nK hK3 ?_; refine Jl rfl (fun g => ?_) (fun g => ?_)
 try exact Bool.noConfusion g
 ·try simp only [ZZ] at g
  refine Jg (hK2 ?_); refine sR fun _ hK11 => ?_
  refine LR rfl (Ja rfl rfl (by first | (simp only [Nat.zero_add, Nat.reduceAdd, Nat.reduceMul, Nat.zero_mul, Nat.mul_one, Nat.add_zero]; exact rfl) | exact rfl)) ?_; refine LR rfl (Jc rfl (kn 0 rfl) rfl rfl) ?_; refine Jb rfl (Jb rfl ?_); refine nK hK11 ?_; refine Jd ?_; refine Jp rfl rfl (.cons (Jk rfl) (.cons (Jk rfl) .nil)) (fun w1 hs1 => ?_); exact ⟨rfl, hs1.keep⟩
theorem Jgr {R : Jy} {b : BS} {p : Pl} {xs : List ItL} (hb : b.length ≤ 4096) : PureR Tryz.prog 126 [ItL.val (.mk false b p xs)].toArray (.tuple #[Jq b, .int .i64 0]) R := by
 have hgt := Zf (R := R) (.mk false b p xs) 0 4096
 rw [show (ItL.mk false b p xs).er = .mk false b (xs.map ItL.er) from by rw [ItL.er], show JZ (.mk false b (xs.map ItL.er)) 0 4096 = (b, 0) from by unfold JZ; simp [It.l, It.b, zP (n := (b.length : Int)) (lo := 0) (hi := 4096) (by omega) (by omega)]] at hgt; refine Jz Tryz.func126 rfl rfl fun w => ?_; refine sR fun _ hK1 => ?_; refine JX (cs := List.toArray (ItL.cells (.mk false b p xs))) rfl rfl rfl rfl fun r2 => ?_; refine Jb rfl (Jb rfl ?_); refine nK hK1 ?_; refine sR fun _ hK2 => ?_; refine LR rfl (Jm (xs := ItL.cells (.mk false b p xs)) (n := 3) rfl (kn 0 rfl) rfl rfl rfl) ?_; refine J4 rfl rfl rfl Jl0 hgt oR ?_; refine LR rfl (Jf rfl rfl) ?_; refine LR rfl (Jf rfl rfl) ?_; refine Jb rfl (Jb rfl ?_); refine nK hK2 ?_; refine Jd ?_; refine Jp rfl rfl (.cons (Jk rfl) (.cons (Jk rfl) .nil)) (fun w1 hs1 => ?_); exact ⟨rfl, hs1.keep⟩
theorem Joh {R : Jy} {b : BS} {p : Pl} {xs : List ItL} (hb : b.length = 32) : PureR Tryz.prog 214 [ItL.val (.mk false b p xs)].toArray (Jq b) R := by
 refine Jz Tryz.func214 rfl rfl fun w => ?_; refine sR fun _ hK1 => ?_; refine JX (cs := List.toArray (ItL.cells (.mk false b p xs))) rfl rfl rfl rfl fun r1 => ?_; refine Jb rfl ?_; refine nK hK1 ?_; refine sQ fun _ hK2 => ?_; refine Km [(r1, .cells (List.toArray (ItL.cells (.mk false b p xs))) 91 (0, 0))] [(0, .grow (QY 0 (fun r => .func (.func 206) #[] #[Kw r]) (fun r => [jG r 32]))), (1, .pure), (2, .turn), (3, .pure), (4, .pure), (5, .pure), (6, .pure), (7, .pure)] 8 [1, 0, 2, 3, 4, 5, 6, 7] (by kernel_rfl) (by kernel_rfl) (fun p hp => hp) ?_; refine JH (k := 1) rfl rfl rfl rfl rfl (fun _ hS => (JT (vs := [_, _, _]) rfl (.inl (hS _ (Jw (n := 0) rfl))) rfl rfl rfl rfl)) ?_; refine VQ (k := 0) rfl rfl rfl rfl rfl (enters_of Tryz.func119 (by kernel_rfl) rfl) (Ja5 32) fun re => ?_; refine V3 (k := 2) (T0 := []) (L0 := [jG re 32, (r1, .cells (List.toArray (ItL.cells (.mk false b p xs))) 91 (0, 0))]) (E' := fun _ => [jG re 32, (r1, .cells (List.toArray (ItL.cells (.mk false b p xs))) 91 (0, 0))]) (List.Perm.refl _) (fun _ => List.Perm.refl _) rfl rfl rfl rfl rfl (enters_of Tryz.func206 (by kernel_rfl) rfl) (yB (R := [jG re 32]) (b := b) (p := p) (xs := xs) (r := re) (by rw [hb]; exact List.mem_cons_self)).toT (fun q hq => .inl (by rw [List.mem_singleton.1 hq]; exact List.mem_cons_self)) (fun x q hq => List.mem_cons_of_mem _ hq) fun y => ?_; refine JH (k := 3) rfl rfl rfl rfl rfl (fun _ hS => (JG rfl)) ?_; refine JH (k := 4) rfl rfl rfl rfl rfl (fun _ hS => (Jf rfl rfl)) ?_; refine JH (k := 5) rfl rfl rfl rfl rfl (fun _ hS => (Jf rfl rfl)) ?_; refine JH (k := 6) rfl rfl rfl rfl rfl (fun _ hS => (JY rfl)) ?_; refine JH (k := 7) rfl rfl rfl rfl rfl (fun _ hS => (JY rfl)) ?_; refine Qc ?_; refine nK hK2 ?_; refine sR fun _ hK3 => ?_; refine Jb rfl (JC rfl rfl rfl YX QV ?_); refine nK hK3 ?_; refine sR fun _ hK4 => ?_; refine Jb rfl (Jb rfl ?_); refine nK hK4 ?_; refine Jd ?_; refine pT rfl rfl rfl fun w1 hs1 => ?_; exact ⟨rfl, hs1.keep⟩
def fnC (r ty : Nat) (f : FuncId) : Nat × Obj := (r, .cells #[.func (.func f) #[] #[]] ty (0, 0))
theorem Jjp (n : Nat) (f : FuncId) : PureE (α := Nat × Nat) Tryz.prog 213 [.int .i64 (n : Int), .func (.func f) #[] #[]].toArray (fun z => .func (.func 245) #[] #[Kw z.1, Kw z.2]) (fun z => [fnC z.2 196 f, jG z.1 n]) := by
 refine KZ Tryz.func213 rfl rfl fun w => ?_; refine sR fun _ hK1 => ?_; refine LN rfl fun r1 => ?_; refine LN rfl fun r2 => ?_; refine Jb rfl ?_; refine nK hK1 ?_; refine sR fun _ hK2 => ?_; refine LR rfl (JQ rfl rfl) ?_; refine Jb rfl ?_; refine nK hK2 ?_; refine Jd ?_; refine pT rfl rfl rfl fun w1 hs1 => ?_; exact ⟨(_, _), rfl, hs1⟩
theorem Ja6 (n : Nat) (f : FuncId) : PureE (α := Nat × Nat) Tryz.prog 128 [.int .i64 (n : Int), .func (.func f) #[] #[]].toArray (fun z => .func (.func 211) #[] #[Kw z.1, Kw z.2]) (fun z => [fnC z.2 222 f, jG z.1 n]) := by
 refine KZ Tryz.func128 rfl rfl fun w => ?_; refine sR fun _ hK1 => ?_; refine LN rfl fun r1 => ?_; refine LN rfl fun r2 => ?_; refine Jb rfl ?_; refine nK hK1 ?_; refine sR fun _ hK2 => ?_; refine LR rfl (JQ rfl rfl) ?_; refine Jb rfl ?_; refine nK hK2 ?_; refine Jd ?_; refine pT rfl rfl rfl fun w1 hs1 => ?_; exact ⟨(_, _), rfl, hs1⟩
theorem vL {l : List BS} {i : Nat} {s : BS} (h : l[i]? = some s) : (l.take i).map Jq ++ [Jq s] = (l.take (i + 1)).map Jq := by
 rw [List.take_add_one, h, Option.toList_some, List.map_append]; rfl
theorem er_get {xs : List ItL} {its : List It} (h : xs.map ItL.er = its) {i : Nat} {y : ItL} (hy : xs[i]? = some y) : its[i]? = some y.er := by
 rw [← h, List.getElem?_map, hy]; rfl
theorem Jgs {R : Jy} {x : ItL} {l : List BS} {n r1 r2 : Nat} (hx : x.In R) (hxs : x.xs.map ItL.er = l.map Ki) (hG : Qi x.er 0 n = 0) (hl : l.length ≤ 1000) (hk : ∀ s ∈ l, s.length = 32) (h1 : jG r1 n ∈ R) (h2 : fnC r2 196 214 ∈ R) :
  PureT (α := { row : QH // rowOk 1 l.length (l.map Jq) row }) Tryz.prog 245 (x.val :: [Kw r1, Kw r2]).toArray (fun y => .tuple #[JO l.length y.1, .int .i64 0]) [] (fun y => Kk 9 (l.map Jq) y.1) R := by
 have hgl := WI hx 0 n
 rw [if_pos hG, hG] at hgl
 have hs := hx.seg
 have hxl : x.xs.length = l.length := by have h := congrArg List.length hxs; rw [List.length_map, List.length_map] at h; exact h
 refine J1 Tryz.func245 rfl rfl fun w => ?_; refine sR fun _ hK1 => ?_; refine JX (cs := List.toArray (x.cells)) rfl rfl rfl rfl fun r3 => ?_; refine Jb rfl (Jb rfl ?_); refine nK hK1 ?_; refine sR fun _ hK2 => ?_; refine LR rfl (Jm (xs := x.cells) (n := 3) rfl (kn 0 rfl) rfl rfl (ItL.len x)) ?_; refine LR rfl (Jc rfl (Or.inr h1) rfl rfl) ?_; refine J4 rfl rfl rfl Jb8 hgl oR ?_; refine Jb rfl (LR rfl (Jf rfl rfl) (LR rfl (Jf rfl rfl) ?_)); refine Jb rfl (Jb rfl ?_); refine nK hK2 ?_; refine sR fun _ hK3 => ?_; refine Jb rfl ?_; refine nK hK3 ?_; refine sQ fun _ hK4 => ?_; refine sR fun _ hK5 => ?_; refine Jb rfl (LR rfl (JJ rfl hs rfl) (Jb rfl ?_)); refine nK hK5 ?_; refine J3 (JS (σ := Nat × QH) (fun z => z.1 ≤ l.length ∧ rowOk 1 z.1 ((l.take z.1).map Jq) z.2) (fun z => [(1, Kw r1), (2, Kw r2), (7, .int .i64 0), (8, JO z.1 z.2), (17, Ky x.xs.length x.p), (18, .int .i64 (x.xs.length : Int)), (19, .int .i64 (z.1 : Int))]) (fun z => Kk 9 ((l.take z.1).map Jq) z.2) (fun _ _ _ => True) (fun z => l.length - z.1) (0, none) ⟨Nat.zero_le _, rfl, rfl⟩ (lK rfl) (List.nil_sublist _) (fun _ _ h => h) ?_); rintro ⟨i, row⟩ hI
 obtain ⟨hi1, hrow⟩ := hI
 simp only at hi1 hrow; refine sR fun _ hK6 => ?_; refine J2 rfl ?_; refine nK hK6 ?_; refine sQ fun _ hK7 => ?_; refine cD (fun g => ?_) fun g => ?_
 ·refine Jg (hK7 ?_); refine sB fun _ hK9 => ?_; refine sQ fun _ hK10 => ?_
  obtain ⟨y, hy, hmy⟩ := QA (show i < x.xs.length by omega)
  obtain ⟨s, hsi, hms⟩ := QA (show i < l.length by omega)
  have hye : y.er = Ki s := by have h := er_get hxs hy; rw [List.getElem?_map, hsi] at h; exact (Option.some.inj h).symm
  refine Je ?_
  refine LR rfl (JB (j := i) rfl hs rfl rfl rfl (by first | rfl | omega) (by omega)) ?_; refine LR rfl (Kt ItL.len oR rfl hs hy rfl rfl) ?_; refine LN rfl fun rx => ?_; refine Js (k := 0) (n := 3) (ys := y.cells) rfl rfl rfl rfl rfl (ItL.len y) rfl (ItL.one y) rfl ?_; refine nK hK10 ?_; refine Je (Jb rfl (LR rfl (Jc rfl (Or.inr h2) rfl rfl) ?_))
  obtain ⟨yp, yxs, rfl⟩ := Xg hye
  refine LR rfl (Jm (xs := ItL.cells (.mk false s yp yxs)) (n := 3) rfl (kn 0 rfl) rfl rfl rfl) ?_; refine J4 rfl rfl rfl (enters_of Tryz.func214 (by kernel_rfl) rfl) (Joh (hk s hms)) oR ?_; refine JV (n := 1) (sz := 1) (vs := [_]) (zs := [_]) (r := [_]) rfl rfl rfl rfl rfl rfl rfl rfl rfl (by show (madeCells #[_] _).toList = _; rw [KA]; exact rfl) rfl fun rb => ?_; refine Kh (L0 := [(rb, _), (rx, _)]) (xs := (l.take i).map Jq) (row := row) (n := i) (sz := 1) (b := 16) (news := [Jq s]) (List.perm_append_comm (l₁ := [_, _])) rfl rfl rfl rfl (kn 0 rfl) rfl rfl rfl rfl rfl (by decide) rfl rfl rfl (by decide) hrow (by omega) (by omega) fun ra cap sp hra => ?_; refine Jb rfl (Jt ?_); refine Jo (hK9 ?_); refine Je ?_
  refine J2 rfl ?_; refine JA (show _ = Value.int .i64 ((i + 1 : Nat) : Int) from by rw [wrap_i64 (by omega) (by omega)]; congr 1 <;> omega) ?_; refine Jb rfl (Jt (JU ?_)); rw [vL hsi] at hra; exact JN (i + 1, some (ra, cap, sp)) ⟨by simp only; omega, hra⟩ (by simp only; omega) (lK rfl) (by rw [← vL hsi]; exact .cons_cons _ (List.nil_sublist _)) (fun _ _ h => h)
 ·refine JL (Jn ?_); refine Jn (J8 (hK4 ?_)); refine sR fun _ hK11 => ?_; refine Jb rfl (Jb rfl ?_); refine Jb rfl (Jb rfl ?_); refine nK hK11 ?_; refine Jd ?_; refine Jp rfl rfl (.cons (Jk rfl) (.cons (Jk rfl) .nil)) (fun w1 hs1 => ?_)
  have hiM : i = l.length := by omega
  rw [hiM, List.take_length] at hrow hs1; exact ⟨⟨row, hrow⟩, congrArg (fun n => Ending.returned (Value.tuple #[JO n row, Value.int IntKind.i64 0])) hiM, hs1.weakL (List.Sublist.refl _)⟩
structure AxN (a : AxE) where
  x : AxL
  L : Jy
  inn : x.In L
  er : x.er = a
theorem Jmt {xs : List ItL} {a b : It} (h : xs.map ItL.er = [a, b]) : ∃ y z, xs = [y, z] ∧ y.er = a ∧ z.er = b := by
 match xs, h with
 | [y, z], h => simp at h; exact ⟨y, z, rfl, h.1, h.2⟩
theorem Jmu {R : Jy} {x : ItL} {a : AxE} (hx : x.In R) (he : x.er = j5 a) (ha : a.addr.length = 20) (hl : a.keys.length ≤ 16) (hk : ∀ s ∈ a.keys, s.length = 32) :
  PureT (α := AxN a) Tryz.prog 129 [x.val].toArray (fun z => z.x.val) [] (fun z => z.L) R := by
 have hxs : x.xs.map ItL.er = [Ki a.addr, QZ a.keys] := by rw [← ItL.er_xs, he]; rfl
 obtain ⟨y, z, hyz, hy, hz⟩ := Jmt hxs
 obtain ⟨yp, yxs, rfl⟩ := Xg hy
 have hG : Qi x.er 2 2 = 0 := by rw [he]; exact Vx (by simp) (by simp)
 have hs := VN hx
 rw [hyz] at hs
 have hzI : z.In R := hx.sub z (by rw [hyz]; simp)
 have hzx : z.xs.map ItL.er = a.keys.map Ki := by rw [← ItL.er_xs, hz]; rfl
 have hzG : Qi z.er 0 (16 : Nat) = 0 := by rw [hz]; exact Vx (by omega) (by rw [List.length_map]; omega)
 have hT := Ja4 2 hx hG
 rw [hyz] at hT; refine J1 Tryz.func129 rfl rfl fun w => ?_; refine sR fun _ hK1 => ?_; refine JX (cs := List.toArray (x.cells)) rfl rfl rfl rfl fun r1 => ?_; refine LN rfl fun r2 => ?_; refine nK hK1 ?_; refine sR fun _ hK2 => ?_; refine LR rfl (Jm (xs := x.cells) (n := 3) rfl (kn 1 rfl) rfl rfl (ItL.len x)) ?_; refine Ka rfl rfl rfl Jic hT oR fun q => ?_; refine Jb rfl ?_; refine nK hK2 ?_; refine sR fun _ hK3 => ?_; refine Jb rfl (Qh rfl rfl rfl (enters_of Tryz.func119 (by kernel_rfl) rfl) (Ja5 20) fun re => ?_)
 have hg1 := (yB (R := jG re 20 :: R) (b := a.addr) (p := yp) (xs := yxs) (r := re) (by rw [ha]; exact List.mem_cons_self)).toT
 refine J9 (T := Vc q 2 x.p) (L0 := [jG re 20, (r2, _), (r1, _)]) (Rl := jG re 20 :: R) (List.Perm.swap _ _ _) rfl rfl rfl jw (Xf (hs.mono fun q hq => List.mem_cons_of_mem _ hq) (by simp) (enters_of Tryz.func206 (by kernel_rfl) rfl) hg1) (fun q hq => (List.mem_cons.1 hq).elim (fun h => Or.inl (h ▸ List.mem_cons_self)) Or.inr) fun _ => ?_; refine Jb rfl (Qh rfl rfl rfl (enters_of Tryz.func213 (by kernel_rfl) rfl) (Jjp 16 214) fun zz => ?_)
 have hg2 := Jgs (R := fnC zz.2 196 214 :: jG zz.1 16 :: R) (hzI.mono fun q hq => List.mem_cons_of_mem _ (List.mem_cons_of_mem _ hq)) hzx hzG (by omega) hk (List.mem_cons_of_mem _ List.mem_cons_self) List.mem_cons_self
 refine J9 (T := Vc q 1 (Ko 3 1 x.p)) (L0 := [fnC zz.2 196 214, jG zz.1 16, jG re 20, (r2, _), (r1, _)]) (Rl := fnC zz.2 196 214 :: jG zz.1 16 :: R) (jC _ _ _ _) rfl rfl rfl (enters_of Tryz.func212 (by kernel_rfl) rfl) (Jjo ((Jh hs).mono fun q hq => List.mem_cons_of_mem _ (List.mem_cons_of_mem _ hq)) (by simp) (enters_of Tryz.func245 (by kernel_rfl) rfl) hg2) (fun q hq => (List.mem_cons.1 hq).elim (fun h => Or.inl (h ▸ List.mem_cons_self)) fun hq => (List.mem_cons.1 hq).elim (fun h => Or.inl (h ▸ List.mem_cons_of_mem _ List.mem_cons_self)) Or.inr) fun row => ?_
 obtain ⟨row, hrow⟩ := row
 refine JA (show _ = Ky a.keys.length (Qm row) from Ql hrow) ?_; refine Kv (List.perm_append_comm (l₁ := Vc q 0 (Ko 3 1 (Ko 3 1 x.p)) ++ Kk 9 (a.keys.map Jq) row)) ?_; change HL _ _ _ (_ :: _ :: _ :: (r2, _) :: (r1, _) :: (_ :: Kk 9 (a.keys.map Jq) row)) _ _ _ _; refine LR rfl (J7 (r := [_, _]) rfl rfl) ?_; refine Js (k := 3) (n := 2) (ys := [Jq a.addr, Ky a.keys.length (Qm row)]) rfl rfl rfl rfl rfl rfl rfl rfl rfl ?_; refine nK hK3 ?_; refine Jd ?_; refine Jp rfl rfl (.cons (J0 (vs := [_, _]) rfl (kn 3 rfl) rfl rfl) .nil) (fun w1 hs1 => ?_); exact ⟨⟨⟨a.addr, Qm row, a.keys⟩, Kk 9 (a.keys.map Jq) row, ⟨(by show a.addr.length ≤ _; omega), (by show a.keys.length ≤ _; omega), Qg (e := 9) hrow (by decide), fun s hs => by rw [hk s hs]; decide⟩, rfl⟩, rfl, hs1.weakL (.cons _ (.cons _ (.cons _ (.cons _ (.cons _ (.cons _ (List.Sublist.refl _)))))))⟩
structure AxsN (l : List AxE) where
  ys : List AxL
  row : QH
  L : Jy
  ok : rowOk 2 ys.length (Xk ys) row
  hr : ∀ q ∈ Kk 175 (Xk ys) row, q ∈ L
  hx : ∀ a ∈ ys, a.In L
  er : ys.map AxL.er = l
structure AccS (l : List AxE) (i : Nat) (row : QH) (ys : List AxL) (F : Jy) : Prop where
  le : i ≤ l.length
  ok : rowOk 2 i (Xk ys) row
  len : ys.length = i
  er : ys.map AxL.er = l.take i
  inn : ∀ a ∈ ys, a.In F
theorem Jjq {α : Type} [DecidableEq α] (b c : α) (Z P F : List α) : (b :: (Z ++ (c :: (P ++ F)))).Perm (P ++ (b :: c :: (Z ++ F))) := by
 rw [List.perm_iff_count]; intro x; simp only [List.count_append, List.count_cons]; omega
theorem Jjr {α : Type} [DecidableEq α] (a b c : α) (Z : List α) : (a :: b :: c :: Z).Perm (a :: (Z ++ [b, c])) := by
 rw [List.perm_iff_count]; intro x; simp only [List.count_append, List.count_cons, List.count_nil]; omega
theorem Jgt (a b : List AxL) : Xk (a ++ b) = Xk a ++ Xk b := by unfold Xk; rw [List.flatMap_append]
open Classical in
theorem yC {R : Jy} {x : ItL} {l : List AxE} {n r1 r2 : Nat} (hx : x.In R) (hxs : x.xs.map ItL.er = l.map j5) (hG : Qi x.er 0 n = 0) (hl : l.length ≤ 1000) (ha : ∀ a ∈ l, a.addr.length = 20) (hkl : ∀ a ∈ l, a.keys.length ≤ 16) (hk : ∀ a ∈ l, ∀ s ∈ a.keys, s.length = 32) (h1 : jG r1 n ∈ R) (h2 : fnC r2 222 129 ∈ R) :
  PureT (α := AxsN l) Tryz.prog 211 (x.val :: [Kw r1, Kw r2]).toArray (fun y => .tuple #[JO y.ys.length y.row, .int .i64 0]) [] (fun y => y.L) R := by
 have hgl := WI hx 0 n
 rw [if_pos hG, hG] at hgl
 have hs := hx.seg
 have hxl : x.xs.length = l.length := by have h := congrArg List.length hxs; rw [List.length_map, List.length_map] at h; exact h
 refine J1 Tryz.func211 rfl rfl fun w => ?_; refine sR fun _ hK1 => ?_; refine JX (cs := List.toArray (x.cells)) rfl rfl rfl rfl fun r3 => ?_; refine Jb rfl (Jb rfl ?_); refine nK hK1 ?_; refine sR fun _ hK2 => ?_; refine LR rfl (Jm (xs := x.cells) (n := 3) rfl (kn 0 rfl) rfl rfl (ItL.len x)) ?_; refine LR rfl (Jc rfl (Or.inr h1) rfl rfl) ?_; refine J4 rfl rfl rfl Jb8 hgl oR ?_; refine Jb rfl (LR rfl (Jf rfl rfl) (LR rfl (Jf rfl rfl) ?_)); refine Jb rfl (Jb rfl ?_); refine nK hK2 ?_; refine sR fun _ hK3 => ?_; refine Jb rfl ?_; refine nK hK3 ?_; refine sQ fun _ hK4 => ?_; refine sR fun _ hK5 => ?_; refine Jb rfl (LR rfl (JJ rfl hs rfl) (Jb rfl ?_)); refine nK hK5 ?_; refine J3 (JS (σ := Nat × QH × List AxL × Jy) (fun z => AccS l z.1 z.2.1 z.2.2.1 z.2.2.2) (fun z => [(1, Kw r1), (2, Kw r2), (7, .int .i64 0), (8, JO z.1 z.2.1), (17, Ky x.xs.length x.p), (18, .int .i64 (x.xs.length : Int)), (19, .int .i64 (z.1 : Int))]) (fun z => Kk 175 (Xk z.2.2.1) z.2.1 ++ z.2.2.2) (fun _ _ _ => True) (fun z => l.length - z.1) (0, none, [], []) ⟨Nat.zero_le _, ⟨rfl, rfl⟩, rfl, rfl, fun _ h => nomatch h⟩ (lK rfl) (List.nil_sublist _) (fun _ _ h => h) ?_); rintro ⟨i, row, ys, F⟩ hP; simp only at hP; change HC _ _ _ (Kk 175 (Xk ys) row ++ F) _ _ _; refine sR fun _ hK6 => ?_; refine J2 rfl ?_; refine nK hK6 ?_; refine sQ fun _ hK7 => ?_; refine cD (fun g => ?_) fun g => ?_
 ·refine Jg (hK7 ?_); refine sB fun _ hK9 => ?_; refine sQ fun _ hK10 => ?_
  have hle := hP.le
  obtain ⟨y, hy, hmy⟩ := QA (show i < x.xs.length by omega)
  obtain ⟨a, hai, hma⟩ := QA (show i < l.length by omega)
  have hye : y.er = j5 a := by have h := er_get hxs hy; rw [List.getElem?_map, hai] at h; exact (Option.some.inj h).symm
  refine Je ?_
  refine LR rfl (JB (j := i) rfl hs rfl rfl rfl (by first | rfl | omega) (by omega)) ?_; refine LR rfl (Kt ItL.len oR rfl hs hy rfl rfl) ?_; refine LN rfl fun rx => ?_; refine Js (k := 0) (n := 3) (ys := y.cells) rfl rfl rfl rfl rfl (ItL.len y) rfl (ItL.one y) rfl ?_; refine nK hK10 ?_; refine Je (Jb rfl (LR rfl (Jc rfl (Or.inr h2) rfl rfl) ?_)); refine LR rfl (Jm (xs := y.cells) (n := 3) rfl (kn 0 rfl) rfl rfl (ItL.len y)) ?_; refine Ka rfl rfl rfl (enters_of Tryz.func129 (by kernel_rfl) rfl) (Jmu (hx.sub y hmy) hye (ha a hma) (hkl a hma) (hk a hma)) oR fun z => ?_
  obtain ⟨z, zL, zin, zer⟩ := z
  refine JV (n := 1) (sz := 2) (vs := [_]) (zs := [_, _]) (r := z.cells) rfl rfl rfl rfl rfl rfl rfl rfl rfl (by rw [Qo]; exact rfl) rfl fun rb => ?_; refine Kh (L0 := (rb, _) :: (rx, _) :: (zL ++ F)) (xs := Xk ys) (row := row) (n := i) (sz := 2) (b := 40) (news := z.cells) (Jjq _ _ _ _ _) rfl rfl rfl rfl (kn 0 rfl) rfl rfl rfl rfl rfl (by decide) rfl rfl rfl (by decide) hP.ok (by omega) (by omega) fun ra cap sp hra => ?_; refine Jb rfl (Jt ?_); refine Jo (hK9 ?_); refine Je ?_
  refine J2 rfl ?_; refine JA (show _ = Value.int .i64 ((i + 1 : Nat) : Int) from by rw [wrap_i64 (by omega) (by omega)]; congr 1 <;> omega) ?_; refine Jb rfl (Jt (JU ?_)); refine Wm (Jjr _ _ _ _) ?_
  have hcat : Xk ys ++ z.cells = Xk (ys ++ [z]) := by rw [Jgt]; simp [Xk]
  rw [hcat] at hra ⊢; exact JN (i + 1, some (ra, cap, sp), ys ++ [z], zL ++ F) ⟨by simp only; omega, hra, by simp only [List.length_append, hP.len]; rfl, by simp only; rw [List.map_append, hP.er, List.take_add_one, hai, Option.toList_some, List.map_singleton, zer], fun b hb => (List.mem_append.1 hb).elim (fun h => (hP.inn b h).mono fun q hq => List.mem_append_right _ hq) fun h => by rw [List.mem_singleton.1 h]; exact zin.mono fun q hq => List.mem_append_left _ hq⟩ (by simp only; omega) (lK rfl) (.cons_cons _ (List.sublist_append_left _ _)) (fun _ _ h => h)
 ·refine JL (Jn ?_); refine Jn (J8 (hK4 ?_)); refine sR fun _ hK11 => ?_; refine Jb rfl (Jb rfl ?_); refine Jb rfl (Jb rfl ?_); refine nK hK11 ?_; refine Jd ?_; refine Jp rfl rfl (.cons (Jk rfl) (.cons (Jk rfl) .nil)) (fun w1 hs1 => ?_)
  have hle := hP.le
  have hiM : i = l.length := by omega
  have hok := hP.ok
  have her := hP.er
  rw [← hP.len] at hok; exact ⟨⟨ys, row, Kk 175 (Xk ys) row ++ F, hok, fun q hq => List.mem_append_left _ hq, fun b hb => (hP.inn b hb).mono fun q hq => List.mem_append_right _ hq, by rw [her, hiM, List.take_length]⟩, congrArg (fun n => Ending.returned (Value.tuple #[JO n row, Value.int IntKind.i64 0])) hP.len.symm, hs1.weakL (List.Sublist.refl _)⟩
theorem X1 {R : Jy} {y : ItL} {n : Nat} (h : y.er = Qk n) (hu : VG n) : PureT (α := Unit) Tryz.prog 47 (y.val :: []).toArray (fun _ => .tuple #[uV n, .int .i64 0]) [] (fun _ => []) R := by
 have h1 := Zw (R := R) y
 rw [h, vK hu] at h1; exact h1.toT
theorem zZ {R : Jy} {y : ItL} {d : BS} (h : y.er = Ki d) (hd : d = [] ∨ d.length = 20) : PureT (α := Unit) Tryz.prog 120 (y.val :: []).toArray (fun _ => .tuple #[Jq d, .int .i64 0]) [] (fun _ => []) R := by
 have h1 := Jch (R := R) y
 rw [h, zQ hd] at h1; exact h1.toT
theorem xa {R : Jy} {y : ItL} {d : BS} (h : y.er = Ki d) (hd : d.length ≤ 4096) : PureT (α := Unit) Tryz.prog 126 (y.val :: []).toArray (fun _ => .tuple #[Jq d, .int .i64 0]) [] (fun _ => []) R := by
 obtain ⟨p, xs, rfl⟩ := Xg h
 exact (Jgr hd).toT
theorem V4 {R : Jy} {y : ItL} {x : W4} (h : y.er = Ks x) (hx : x.ok) : PureR Tryz.prog 122 (y.val :: []).toArray (.tuple #[.agg (wC x).toArray, .int .i64 0]) R := by
 obtain ⟨p, xs, rfl⟩ := Xg h
 have h0 : Pure Tryz.prog 203 (Jq (JE x.l) :: []).toArray (Jhw (QC (JE x.l))) := Yy _
 rw [Yz hx.wok] at h0; exact zM (l := false) (r := x.l) (e := 0) rfl h0.toR
theorem Jjs {xs : List ItL} {a b c d e f g h i : It} (hx : xs.map ItL.er = [a, b, c, d, e, f, g, h, i]) : ∃ y0 y1 y2 y3 y4 y5 y6 y7 y8, xs = [y0, y1, y2, y3, y4, y5, y6, y7, y8] ∧ y0.er = a ∧ y1.er = b ∧ y2.er = c ∧ y3.er = d ∧ y4.er = e ∧ y5.er = f ∧ y6.er = g ∧ y7.er = h ∧ y8.er = i := by
 match xs, hx with
 | [y0, y1, y2, y3, y4, y5, y6, y7, y8], hx =>
  simp only [List.map_cons, List.map_nil, List.cons.injEq, and_true] at hx; exact ⟨y0, y1, y2, y3, y4, y5, y6, y7, y8, rfl, hx⟩
structure TxN (t : TxE) where
  x : TxL
  L : Jy
  inn : ({ x with kind := t.kind } : TxL).In L
  er : ({ x with kind := t.kind } : TxL).er = t
theorem Jpm {t : TxE} (hb : TxB t) (hk : t.kind = 0) : t.access = [] ∧ t.auths = [] ∧ t.tip = w40 ∧ t.source = [] ∧ t.from_ = [] ∧ t.mint = w40 ∧ t.system = false := by
 have h := hb.nam
 unfold Y2 at h
 rw [if_neg (by omega)] at h; refine ⟨?_, hb.au, ?_, ?_, ?_, ?_, ?_⟩
 ·rw [h]; exact if_neg (by omega)
 ·rw [h]; exact if_neg (by omega)
 all_goals (rw [h]; rfl)
def Jjt (t : TxE) : TxL := { tx0L with nonce := t.nonce, price := t.price, gas := t.gas, dest := t.dest, value := t.value, data := t.data, r := t.r, s := t.s, chain := t.chain, y := t.y }
theorem Jgu {t : TxE} (hb : TxB t) (hk : t.kind = 0) : ({ Jjt t with kind := t.kind } : TxL).er = t := by
 obtain ⟨h1, h2, h3, h4, h5, h6, h7⟩ := Jpm hb hk
 obtain ⟨k, c, n, ti, pr, g, d, v, da, ac, au, y, r, s, so, fr, mi, sy⟩ := t
 simp only at h1 h2 h3 h4 h5 h6 h7; subst h1 h2 h3 h4 h5 h6 h7
 rfl
def Joi {t : TxE} (ho : t.ok) (hb : TxB t) (hk : t.kind = 0) : TxN t := ⟨Jjt t, [], ⟨by rw [Jgu hb hk]; exact ho, by show t.dest.length ≤ _; rcases hb.dest with h | h <;> simp [h], by show t.data.length ≤ _; have := hb.data; omega, Nat.zero_le _, Nat.zero_le _, Nat.zero_le _, Seg.nil, (fun _ h => nomatch h), Nat.zero_le _, Seg.nil, (fun _ h => nomatch h)⟩, Jgu hb hk⟩
theorem Jpn {y : Nat} (c : Nat) (h : y ≤ 1 ∧ c ≤ 4611686018427387904) : IntKind.u64.wrap (((2 * c + y : Nat) : Int).tdiv 2) = (c : Int) := by
 rw [Int.tdiv_eq_ediv_of_nonneg (by omega), wrap_u64 (by omega) (by omega)]; omega
theorem Jpo {y : Nat} (c : Nat) (h : y ≤ 1 ∧ c ≤ 4611686018427387904) : ((2 * c + y : Nat) : Int).tmod 2 = (y : Int) := by
 rw [Int.tmod_eq_emod_of_nonneg (by omega)]; omega
theorem Jju {t : TxE} (hk : t.kind = 0) : Qu t = [Qk t.nonce, Ks t.price, Qk t.gas, Ki t.dest, Ks t.value, Ki t.data, Qk (vE t.chain t.y), Ks t.r, Ks t.s] := by
 unfold Qu; rw [if_neg (by omega), if_pos hk]
theorem Jgv {R : Jy} {t : TxE} {ys : List ItL} {p : Pl} {q : Nat} (ho : t.ok) (hb : TxB t) (hk : t.kind = 0) (hxs : ys.map ItL.er = Qu t) (hs : Seg R ys.length (JK ys) p) :
    PureT (α := TxN t) Tryz.prog 54 [Kw q].toArray (fun z => z.x.val) (Vc q ys.length p) (fun z => z.L) R := by
  rw [Jju hk] at hxs
  obtain ⟨y0, y1, y2, y3, y4, y5, y6, y7, y8, rfl, h0, h1, h2, h3, h4, h5, h6, h7, h8⟩ := Jjs hxs
  have hvu := Jof hb hk
  have hch := hb.chain hk
  have hyy := hb.y
  have hv : (t.chain = 0 ∧ vE t.chain t.y = 27 + t.y) ∨ (t.chain ≠ 0 ∧ vE t.chain t.y = 35 + 2 * t.chain + t.y) := by
    unfold vE
    by_cases h : t.chain = 0
    exact .inl ⟨h, if_pos h⟩
    exact .inr ⟨h, if_neg h⟩
  obtain ⟨n, hn⟩ : ∃ n, vE t.chain t.y = n := ⟨_, rfl⟩
  rw [hn] at hv hvu h6
  have hvu' : n < 18446744073709551616 := hvu
  change PureT _ _ _ _ (Vc q 9 p) _ _; refine J1 Tryz.func54 rfl rfl fun w => ?_; refine sR fun _ hK1 => ?_; refine LN rfl fun r2 => ?_; refine nK hK1 ?_; refine sR fun _ hK2 => ?_; refine Jb rfl (J9 (T := Vc q 9 p) (Rl := R) (List.Perm.swap _ _ _) rfl rfl rfl Xs (Vy hs (by simp) ZB (X1 h0 ho.nonce)) oR fun _ => ?_); refine Jb rfl (J9 (T := Vc q 8 (Ko 3 1 p)) (Rl := R) (List.Perm.refl _) rfl rfl rfl WD (QW (Jh hs) (by simp) WE (V4 h1 ho.price)) oR fun _ => ?_); refine Jb rfl (J9 (T := Vc q 7 (Ko 3 1 (Ko 3 1 p))) (Rl := R) (List.Perm.refl _) rfl rfl rfl Xs (Vy (Jh (Jh hs)) (by simp) ZB (X1 h2 ho.gas)) oR fun _ => (LR rfl (J7 (r := ({ tx0L with nonce := t.nonce, price := t.price, gas := t.gas } : TxL).cells) rfl (by kernel_rfl)) ?_)); refine LN rfl fun r3 => ?_; refine Js (k := 0) (n := 36) (ys := ({ tx0L with nonce := t.nonce, price := t.price, gas := t.gas } : TxL).cells) rfl rfl rfl rfl rfl rfl rfl rfl rfl ?_; refine nK hK2 ?_; refine sR fun _ hK3 => ?_; refine Jb rfl (J9 (T := Vc q 6 (Ko 3 1 (Ko 3 1 (Ko 3 1 p)))) (Rl := R) (List.Perm.swap _ _ _) rfl rfl rfl jw (Xf (Jh (Jh (Jh hs))) (by simp) Jew (zZ h3 hb.dest)) oR fun _ => ?_); refine Jb rfl (J9 (T := Vc q 5 (Ko 3 1 (Ko 3 1 (Ko 3 1 (Ko 3 1 p))))) (Rl := R) (List.Perm.refl _) rfl rfl rfl WD (QW (Jh (Jh (Jh (Jh hs)))) (by simp) WE (V4 h4 ho.value)) oR fun _ => ?_); refine Jb rfl (J9 (T := Vc q 4 (Ko 3 1 (Ko 3 1 (Ko 3 1 (Ko 3 1 (Ko 3 1 p)))))) (Rl := R) (List.Perm.refl _) rfl rfl rfl jw (Xf (Jh (Jh (Jh (Jh (Jh hs))))) (by simp) Jex (xa h5 hb.data)) oR fun _ => ?_)
  refine LR rfl (Ja rfl rfl (by first | (simp only [Nat.zero_add, Nat.reduceAdd, Nat.reduceMul, Nat.zero_mul, Nat.mul_one, Nat.add_zero]; exact rfl) | exact rfl)) ?_; refine Ju (k := 1) (cs' := List.toArray (({ tx0L with nonce := t.nonce, price := t.price, gas := t.gas, dest := t.dest } : TxL)).cells) rfl rfl rfl rfl rfl rfl rfl rfl (by kernel_rfl) rfl ?_
  refine LR rfl (Ja rfl rfl (by first | (simp only [Nat.zero_add, Nat.reduceAdd, Nat.reduceMul, Nat.zero_mul, Nat.mul_one, Nat.add_zero]; exact rfl) | exact rfl)) ?_; refine Jv (k := 1) (n := 4) (cs' := List.toArray (({ tx0L with nonce := t.nonce, price := t.price, gas := t.gas, dest := t.dest, value := t.value } : TxL)).cells) (vs := #[_, _, _, _]) rfl rfl rfl rfl rfl rfl rfl (by exact Nat.le_of_ble_eq_true rfl) (by kernel_rfl) rfl ?_
  refine LR rfl (Ja rfl rfl (by first | (simp only [Nat.zero_add, Nat.reduceAdd, Nat.reduceMul, Nat.zero_mul, Nat.mul_one, Nat.add_zero]; exact rfl) | exact rfl)) ?_; refine Ju (k := 1) (cs' := List.toArray (({ tx0L with nonce := t.nonce, price := t.price, gas := t.gas, dest := t.dest, value := t.value, data := t.data } : TxL)).cells) rfl rfl rfl rfl rfl rfl rfl rfl (by kernel_rfl) rfl ?_; refine nK hK3 ?_; refine sR fun _ hK4 => ?_; refine Jb rfl (J9 (T := Vc q 3 (Ko 3 1 (Ko 3 1 (Ko 3 1 (Ko 3 1 (Ko 3 1 (Ko 3 1 p))))))) (Rl := R) (List.Perm.refl _) rfl rfl rfl Xs (Vy (Jh (Jh (Jh (Jh (Jh (Jh hs)))))) (by simp) ZB (X1 h6 hvu)) oR fun _ => (Jb rfl ?_)); refine nK hK4 ?_; refine sR fun _ hK5 => ?_; refine Jb rfl (J9 (T := Vc q 2 (Ko 3 1 (Ko 3 1 (Ko 3 1 (Ko 3 1 (Ko 3 1 (Ko 3 1 (Ko 3 1 p)))))))) (Rl := R) (List.Perm.refl _) rfl rfl rfl WD (QW (Jh (Jh (Jh (Jh (Jh (Jh (Jh hs))))))) (by simp) WE (V4 h7 ho.r)) oR fun _ => ?_); refine Jb rfl (J9 (T := Vc q 1 (Ko 3 1 (Ko 3 1 (Ko 3 1 (Ko 3 1 (Ko 3 1 (Ko 3 1 (Ko 3 1 (Ko 3 1 p))))))))) (Rl := R) (List.Perm.refl _) rfl rfl rfl WD (QW (Jh (Jh (Jh (Jh (Jh (Jh (Jh (Jh hs)))))))) (by simp) WE (V4 h8 ho.s)) oR fun _ => ?_)
  refine LR rfl (Ja rfl rfl (by first | (simp only [Nat.zero_add, Nat.reduceAdd, Nat.reduceMul, Nat.zero_mul, Nat.mul_one, Nat.add_zero]; exact rfl) | exact rfl)) ?_; refine Jv (k := 1) (n := 4) (cs' := List.toArray (({ tx0L with nonce := t.nonce, price := t.price, gas := t.gas, dest := t.dest, value := t.value, data := t.data, r := t.r } : TxL)).cells) (vs := #[_, _, _, _]) rfl rfl rfl rfl rfl rfl rfl (by exact Nat.le_of_ble_eq_true rfl) (by kernel_rfl) rfl ?_
  refine LR rfl (Ja rfl rfl (by first | (simp only [Nat.zero_add, Nat.reduceAdd, Nat.reduceMul, Nat.zero_mul, Nat.mul_one, Nat.add_zero]; exact rfl) | exact rfl)) ?_; refine Jv (k := 1) (n := 4) (cs' := List.toArray (({ tx0L with nonce := t.nonce, price := t.price, gas := t.gas, dest := t.dest, value := t.value, data := t.data, r := t.r, s := t.s } : TxL)).cells) (vs := #[_, _, _, _]) rfl rfl rfl rfl rfl rfl rfl (by exact Nat.le_of_ble_eq_true rfl) (by kernel_rfl) rfl ?_; refine nK hK5 ?_; refine sB fun _ hK6 => ?_; refine sR fun _ hK7 => ?_; refine Jb rfl (J2 rfl (Jb rfl ?_))
  refine JM 33 rfl (fun gb => ?_) (fun gb => ?_) <;> (try simp only [ZZ] at gb) <;> first | (refine Jb rfl ?_) | (refine LK rfl ?_)
  all_goals first | refine J2 rfl ?_ | refine LK rfl ?_
  all_goals first | refine LR rfl (Jx rfl rfl) ?_ | refine LR rfl (J5 rfl rfl) ?_
  all_goals (
   refine Jb rfl (Jt (hK7 ?_)); refine Jl rfl (fun g => ?_) (fun g => ?_)
   try simp only [ZZ] at g
   refine Je (Jb rfl ?_); refine J2 rfl (QQ (by omega) (by omega) (JA (show _ = uV t.y from congrArg (Value.int .u64) (by omega)) ?_))
   refine LR rfl (Ja rfl rfl (by first | (simp only [Nat.zero_add, Nat.reduceAdd, Nat.reduceMul, Nat.zero_mul, Nat.mul_one, Nat.add_zero]; exact rfl) | exact rfl)) ?_; refine Ju (k := 1) (cs' := List.toArray (({ tx0L with nonce := t.nonce, price := t.price, gas := t.gas, dest := t.dest, value := t.value, data := t.data, r := t.r, s := t.s, y := t.y } : TxL)).cells) rfl rfl rfl rfl rfl rfl rfl rfl (by kernel_rfl) rfl ?_; refine Jt ?_; refine Jo (hK6 ?_); refine sR fun _ hK11 => ?_
   first | (refine LR rfl (Jm (xs := ({ tx0L with nonce := t.nonce, price := t.price, gas := t.gas, dest := t.dest, value := t.value, data := t.data, r := t.r, s := t.s, y := t.y } : TxL).cells) (n := 36) rfl (kn 1 rfl) rfl rfl rfl) ?_) | (refine LR rfl (Jm (xs := ({ tx0L with nonce := t.nonce, price := t.price, gas := t.gas, dest := t.dest, value := t.value, data := t.data, r := t.r, s := t.s, chain := t.chain, y := t.y } : TxL).cells) (n := 36) rfl (kn 1 rfl) rfl rfl rfl) ?_)
   first | (refine Js (k := 2) (n := 36) (ys := ({ tx0L with nonce := t.nonce, price := t.price, gas := t.gas, dest := t.dest, value := t.value, data := t.data, r := t.r, s := t.s, y := t.y } : TxL).cells) rfl rfl rfl rfl rfl rfl rfl rfl rfl ?_) | (refine Js (k := 2) (n := 36) (ys := ({ tx0L with nonce := t.nonce, price := t.price, gas := t.gas, dest := t.dest, value := t.value, data := t.data, r := t.r, s := t.s, chain := t.chain, y := t.y } : TxL).cells) rfl rfl rfl rfl rfl rfl rfl rfl rfl ?_)
   refine nK hK11 ?_; refine Jd ?_
   (refine Jp rfl rfl (.cons (J0 (vs := ({ tx0L with nonce := t.nonce, price := t.price, gas := t.gas, dest := t.dest, value := t.value, data := t.data, r := t.r, s := t.s, y := t.y } : TxL).cells) rfl (kn 2 rfl) rfl rfl) .nil) (fun w1 hs1 => ?_)
    have hc0 : t.chain = 0 := by omega
    exact ⟨Joi ho hb hk, congrArg (fun z => Ending.returned (TxL.val z)) (show ({ tx0L with nonce := t.nonce, price := t.price, gas := t.gas, dest := t.dest, value := t.value, data := t.data, r := t.r, s := t.s, y := t.y } : TxL) = Jjt t by unfold Jjt; rw [hc0]; rfl), hs1.weakL (List.nil_sublist _)⟩)
   · try exact Bool.noConfusion g
     all_goals try simp only [ZZ] at g
     all_goals (
      refine sR fun _ hK12 => ?_; refine Jb rfl (J2 rfl (Jb rfl ?_))
      refine JM 43 rfl (fun gb => ?_) (fun gb => ?_) <;> (try simp only [ZZ] at gb) <;> first | (refine Jb rfl ?_) | (refine LK rfl ?_)
      all_goals first | refine J2 rfl ?_ | refine LK rfl ?_
      all_goals first | refine LR rfl (Jx rfl rfl) ?_ | refine LR rfl (J5 rfl rfl) ?_
      all_goals (
       refine Jb rfl (Jt (hK12 ?_)); refine Jl rfl (fun g => ?_) (fun g => ?_)
       · try exact Bool.noConfusion g
         all_goals try simp only [ZZ] at g
         all_goals (
          refine Je (Jb rfl ?_); refine J2 rfl (QQ (by omega) (by omega) (JA (show _ = uV (2 * t.chain + t.y) from congrArg (Value.int .u64) (by omega)) ?_)); refine J2 rfl (JA (show _ = uV t.chain from congrArg (Value.int .u64) (Jpn t.chain (by omega))) ?_); refine Jb rfl (J2 rfl (QQ (by omega) (by omega) ?_)); refine JA (show _ = uV (2 * t.chain + t.y) from congrArg (Value.int .u64) (by omega)) ?_; refine J2 rfl (JA (show _ = uV t.y from congrArg (Value.int .u64) (Jpo t.chain (by omega))) ?_)
          refine LR rfl (Ja rfl rfl (by first | (simp only [Nat.zero_add, Nat.reduceAdd, Nat.reduceMul, Nat.zero_mul, Nat.mul_one, Nat.add_zero]; exact rfl) | exact rfl)) ?_; refine Ju (k := 1) (cs' := List.toArray (({ tx0L with nonce := t.nonce, price := t.price, gas := t.gas, dest := t.dest, value := t.value, data := t.data, r := t.r, s := t.s, chain := t.chain } : TxL)).cells) rfl rfl rfl rfl rfl rfl rfl rfl (by kernel_rfl) rfl ?_
          refine LR rfl (Ja rfl rfl (by first | (simp only [Nat.zero_add, Nat.reduceAdd, Nat.reduceMul, Nat.zero_mul, Nat.mul_one, Nat.add_zero]; exact rfl) | exact rfl)) ?_; refine Ju (k := 1) (cs' := List.toArray (({ tx0L with nonce := t.nonce, price := t.price, gas := t.gas, dest := t.dest, value := t.value, data := t.data, r := t.r, s := t.s, chain := t.chain, y := t.y } : TxL)).cells) rfl rfl rfl rfl rfl rfl rfl rfl (by kernel_rfl) rfl ?_; refine Jt ?_; refine Jo (hK6 ?_); refine sR fun _ hK16 => ?_
          first | (refine LR rfl (Jm (xs := ({ tx0L with nonce := t.nonce, price := t.price, gas := t.gas, dest := t.dest, value := t.value, data := t.data, r := t.r, s := t.s, y := t.y } : TxL).cells) (n := 36) rfl (kn 1 rfl) rfl rfl rfl) ?_) | (refine LR rfl (Jm (xs := ({ tx0L with nonce := t.nonce, price := t.price, gas := t.gas, dest := t.dest, value := t.value, data := t.data, r := t.r, s := t.s, chain := t.chain, y := t.y } : TxL).cells) (n := 36) rfl (kn 1 rfl) rfl rfl rfl) ?_)
          first | (refine Js (k := 2) (n := 36) (ys := ({ tx0L with nonce := t.nonce, price := t.price, gas := t.gas, dest := t.dest, value := t.value, data := t.data, r := t.r, s := t.s, y := t.y } : TxL).cells) rfl rfl rfl rfl rfl rfl rfl rfl rfl ?_) | (refine Js (k := 2) (n := 36) (ys := ({ tx0L with nonce := t.nonce, price := t.price, gas := t.gas, dest := t.dest, value := t.value, data := t.data, r := t.r, s := t.s, chain := t.chain, y := t.y } : TxL).cells) rfl rfl rfl rfl rfl rfl rfl rfl rfl ?_)
          refine nK hK16 ?_; refine Jd ?_
          (refine Jp rfl rfl (.cons (J0 (vs := ({ tx0L with nonce := t.nonce, price := t.price, gas := t.gas, dest := t.dest, value := t.value, data := t.data, r := t.r, s := t.s, chain := t.chain, y := t.y } : TxL).cells) rfl (kn 2 rfl) rfl rfl) .nil) (fun w1 hs1 => ?_)
           exact ⟨Joi ho hb hk, rfl, hs1.weakL (List.nil_sublist _)⟩)
          skip)
       try simp only [ZZ] at g
       refine Je ?_
       exfalso; omega
       skip)
      skip)
   skip)
theorem Jcr {xs : List ItL} {a b c d e f g h i j k : It} (hx : xs.map ItL.er = [a, b, c, d, e, f, g, h, i, j, k]) : ∃ y0 y1 y2 y3 y4 y5 y6 y7 y8 y9 y10, xs = [y0, y1, y2, y3, y4, y5, y6, y7, y8, y9, y10] ∧ y0.er = a ∧ y1.er = b ∧ y2.er = c ∧ y3.er = d ∧ y4.er = e ∧ y5.er = f ∧ y6.er = g ∧ y7.er = h ∧ y8.er = i ∧ y9.er = j ∧ y10.er = k := by
 match xs, hx with
 | [y0, y1, y2, y3, y4, y5, y6, y7, y8, y9, y10], hx =>
  simp only [List.map_cons, List.map_nil, List.cons.injEq, and_true] at hx; exact ⟨y0, y1, y2, y3, y4, y5, y6, y7, y8, y9, y10, rfl, hx⟩
theorem Jcs {xs : List ItL} {a b c d e f g h i j k l : It} (hx : xs.map ItL.er = [a, b, c, d, e, f, g, h, i, j, k, l]) : ∃ y0 y1 y2 y3 y4 y5 y6 y7 y8 y9 y10 y11, xs = [y0, y1, y2, y3, y4, y5, y6, y7, y8, y9, y10, y11] ∧ y0.er = a ∧ y1.er = b ∧ y2.er = c ∧ y3.er = d ∧ y4.er = e ∧ y5.er = f ∧ y6.er = g ∧ y7.er = h ∧ y8.er = i ∧ y9.er = j ∧ y10.er = k ∧ y11.er = l := by
 match xs, hx with
 | [y0, y1, y2, y3, y4, y5, y6, y7, y8, y9, y10, y11], hx =>
  simp only [List.map_cons, List.map_nil, List.cons.injEq, and_true] at hx; exact ⟨y0, y1, y2, y3, y4, y5, y6, y7, y8, y9, y10, y11, rfl, hx⟩
theorem Jk2 {t : TxE} (hb : TxB t) (hk : t.kind = 1 ∨ t.kind = 2) : t.auths = [] ∧ (t.kind = 1 → t.tip = w40) ∧ t.source = [] ∧ t.from_ = [] ∧ t.mint = w40 ∧ t.system = false := by
 have h := hb.nam
 unfold Y2 at h
 rw [if_neg (by omega)] at h; refine ⟨hb.au, ?_, ?_, ?_, ?_, ?_⟩
 ·intro h1; rw [h]; exact if_neg (by omega)
 all_goals (rw [h]; rfl)
theorem Jjv {t : TxE} (hk : t.kind = 1) : Qu t = [Qk t.chain, Qk t.nonce, Ks t.price, Qk t.gas, Ki t.dest, Ks t.value, Ki t.data, KG (t.access.map j5), Qk t.y, Ks t.r, Ks t.s] := by
 unfold Qu; rw [if_neg (by omega), if_neg (by omega), if_pos hk, if_neg (by omega)]; rfl
theorem Jjw {t : TxE} (hk : t.kind = 2) : Qu t = [Qk t.chain, Qk t.nonce, Ks t.tip, Ks t.price, Qk t.gas, Ki t.dest, Ks t.value, Ki t.data, KG (t.access.map j5), Qk t.y, Ks t.r, Ks t.s] := by
 unfold Qu; rw [if_neg (by omega), if_neg (by omega), if_neg (by omega), if_neg (by omega)]; rfl
def typL (t : TxE) (z : AxsN t.access) : TxL := { tx0L with chain := t.chain, nonce := t.nonce, tip := t.tip, price := t.price, gas := t.gas, dest := t.dest, value := t.value, data := t.data, accP := Qm z.row, acc := z.ys, y := t.y, r := t.r, s := t.s }
theorem Jgw {t : TxE} (z : AxsN t.access) (hb : TxB t) (hk : t.kind = 1 ∨ t.kind = 2) : ({ typL t z with kind := t.kind } : TxL).er = t := by
 obtain ⟨h1, h2, h3, h4, h5, h6⟩ := Jk2 hb hk
 have he := z.er
 obtain ⟨k, c, n, ti, pr, g, d, v, da, ac, au, y, r, s, so, fr, mi, sy⟩ := t
 simp only at h1 h3 h4 h5 h6; subst h1 h3 h4 h5 h6
 show TxE.mk k c n ti pr g d v da (z.ys.map AxL.er) [] y r s [] [] w40 false = _
 rw [he]
def typN {t : TxE} (z : AxsN t.access) (ho : t.ok) (hb : TxB t) (hk : t.kind = 1 ∨ t.kind = 2) : TxN t :=
 ⟨typL t z, z.L, ⟨by rw [Jgw z hb hk]; exact ho, by show t.dest.length ≤ _; rcases hb.dest with h | h <;> simp [h], by show t.data.length ≤ _; have := hb.data; omega, Nat.zero_le _, Nat.zero_le _,
  by show z.ys.length ≤ _; have h := congrArg List.length z.er; rw [List.length_map] at h; have := hb.accL; omega, (Qg (e := 175) z.ok (by decide)).mono z.hr, z.hx, Nat.zero_le _, Seg.nil, (fun _ h => nomatch h)⟩, Jgw z hb hk⟩
theorem Jgx {R : Jy} {t : TxE} {ys : List ItL} {p : Pl} {q : Nat} (ho : t.ok) (hb : TxB t) (hk : t.kind = 1) (hxs : ys.map ItL.er = Qu t) (hs : Seg R ys.length (JK ys) p) (hin : ∀ y ∈ ys, y.In R) :
  PureT (α := TxN t) Tryz.prog 55 [Kw q, .int .i64 1].toArray (fun z => z.x.val) (Vc q ys.length p) (fun z => z.L) R := by
 have hk12 : t.kind = 1 ∨ t.kind = 2 := by omega
 have htip := (Jk2 hb hk12).2.1 hk
 rw [Jjv hk] at hxs
 obtain ⟨y0, y1, y2, y3, y4, y5, y6, y7, y8, y9, y10, rfl, ey0, ey1, ey2, ey3, ey4, ey5, ey6, ey7, ey8, ey9, ey10⟩ := Jcr hxs
 have hzI : y7.In R := hin _ (by simp)
 have hzx : y7.xs.map ItL.er = t.access.map j5 := by rw [← ItL.er_xs, ey7]; rfl
 have hzG : Qi y7.er 0 (16 : Nat) = 0 := by rw [ey7]; exact Vx (by omega) (by rw [List.length_map]; have := hb.accL; omega)
 change PureT _ _ _ _ (Vc q 11 p) _ _; refine J1 Tryz.func55 rfl rfl fun w => ?_; refine sR fun _ hK1 => ?_; refine LN rfl fun r4 => ?_; refine nK hK1 ?_; refine sR fun _ hK2 => ?_; refine Jb rfl (J9 (T := Vc q 11 p) (Rl := R) (List.Perm.swap _ _ _) rfl rfl rfl Xs (Vy hs (by simp) ZB (X1 ey0 ho.chain)) oR fun _ => ?_); refine Jb rfl (J9 (T := Vc q 10 (Ko 3 1 p)) (Rl := R) (List.Perm.refl _) rfl rfl rfl Xs (Vy (Jh hs) (by simp) ZB (X1 ey1 ho.nonce)) oR fun _ => (LR rfl (J7 (r := ({ tx0L with chain := t.chain, nonce := t.nonce } : TxL).cells) rfl (by kernel_rfl)) ?_)); refine LN rfl fun r5 => ?_; refine Js (k := 0) (n := 36) (ys := ({ tx0L with chain := t.chain, nonce := t.nonce } : TxL).cells) rfl rfl rfl rfl rfl rfl rfl rfl rfl ?_; refine nK hK2 ?_; refine sQ fun _ hK3 => ?_; refine sR fun _ hK4 => ?_; refine Jb rfl (J2 rfl ?_); refine nK hK4 ?_; refine Jl rfl (fun h5 => ?_) (fun h5 => ?_)
 exact absurd h5 ((by decide))
 ·try simp only [ZZ] at h5
  refine Jg (hK3 ?_); refine sR fun _ hK6 => ?_; refine Jb rfl (J9 (T := Vc q 9 (Ko 3 1 (Ko 3 1 p))) (Rl := R) (List.Perm.swap _ _ _) rfl rfl rfl WD (QW (Jh (Jh hs)) (by simp) WE (V4 ey2 ho.price)) oR fun _ => ?_); refine Jb rfl (J9 (T := Vc q 8 (Ko 3 1 (Ko 3 1 (Ko 3 1 p)))) (Rl := R) (List.Perm.refl _) rfl rfl rfl Xs (Vy (Jh (Jh (Jh hs))) (by simp) ZB (X1 ey3 ho.gas)) oR fun _ => ?_); refine Jb rfl (J9 (T := Vc q 7 (Ko 3 1 (Ko 3 1 (Ko 3 1 (Ko 3 1 p))))) (Rl := R) (List.Perm.refl _) rfl rfl rfl jw (Xf (Jh (Jh (Jh (Jh hs)))) (by simp) Jew (zZ ey4 hb.dest)) oR fun _ => ?_)
  refine LR rfl (Ja rfl rfl (by first | (simp only [Nat.zero_add, Nat.reduceAdd, Nat.reduceMul, Nat.zero_mul, Nat.mul_one, Nat.add_zero]; exact rfl) | exact rfl)) ?_; refine Jv (k := 1) (n := 4) (cs' := List.toArray (({ tx0L with chain := t.chain, nonce := t.nonce, price := t.price } : TxL)).cells) (vs := #[_, _, _, _]) rfl rfl rfl rfl rfl rfl rfl (by exact Nat.le_of_ble_eq_true rfl) (by kernel_rfl) rfl ?_
  refine LR rfl (Ja rfl rfl (by first | (simp only [Nat.zero_add, Nat.reduceAdd, Nat.reduceMul, Nat.zero_mul, Nat.mul_one, Nat.add_zero]; exact rfl) | exact rfl)) ?_; refine Ju (k := 1) (cs' := List.toArray (({ tx0L with chain := t.chain, nonce := t.nonce, price := t.price, gas := t.gas } : TxL)).cells) rfl rfl rfl rfl rfl rfl rfl rfl (by kernel_rfl) rfl ?_
  refine LR rfl (Ja rfl rfl (by first | (simp only [Nat.zero_add, Nat.reduceAdd, Nat.reduceMul, Nat.zero_mul, Nat.mul_one, Nat.add_zero]; exact rfl) | exact rfl)) ?_; refine Ju (k := 1) (cs' := List.toArray (({ tx0L with chain := t.chain, nonce := t.nonce, price := t.price, gas := t.gas, dest := t.dest } : TxL)).cells) rfl rfl rfl rfl rfl rfl rfl rfl (by kernel_rfl) rfl ?_; refine nK hK6 ?_; refine sR fun _ hK7 => ?_; refine Jb rfl (J9 (T := Vc q 6 (Ko 3 1 (Ko 3 1 (Ko 3 1 (Ko 3 1 (Ko 3 1 p)))))) (Rl := R) (List.Perm.refl _) rfl rfl rfl WD (QW (Jh (Jh (Jh (Jh (Jh hs))))) (by simp) WE (V4 ey5 ho.value)) oR fun _ => ?_); refine Jb rfl (J9 (T := Vc q 5 (Ko 3 1 (Ko 3 1 (Ko 3 1 (Ko 3 1 (Ko 3 1 (Ko 3 1 p))))))) (Rl := R) (List.Perm.refl _) rfl rfl rfl jw (Xf (Jh (Jh (Jh (Jh (Jh (Jh hs)))))) (by simp) Jex (xa ey6 hb.data)) oR fun _ => ?_)
  refine LR rfl (Ja rfl rfl (by first | (simp only [Nat.zero_add, Nat.reduceAdd, Nat.reduceMul, Nat.zero_mul, Nat.mul_one, Nat.add_zero]; exact rfl) | exact rfl)) ?_; refine Jv (k := 1) (n := 4) (cs' := List.toArray (({ tx0L with chain := t.chain, nonce := t.nonce, price := t.price, gas := t.gas, dest := t.dest, value := t.value } : TxL)).cells) (vs := #[_, _, _, _]) rfl rfl rfl rfl rfl rfl rfl (by exact Nat.le_of_ble_eq_true rfl) (by kernel_rfl) rfl ?_
  refine LR rfl (Ja rfl rfl (by first | (simp only [Nat.zero_add, Nat.reduceAdd, Nat.reduceMul, Nat.zero_mul, Nat.mul_one, Nat.add_zero]; exact rfl) | exact rfl)) ?_; refine Ju (k := 1) (cs' := List.toArray (({ tx0L with chain := t.chain, nonce := t.nonce, price := t.price, gas := t.gas, dest := t.dest, value := t.value, data := t.data } : TxL)).cells) rfl rfl rfl rfl rfl rfl rfl rfl (by kernel_rfl) rfl ?_; refine nK hK7 ?_; refine sR fun _ hK8 => ?_; refine Jb rfl (Qh rfl rfl rfl (enters_of Tryz.func128 (by kernel_rfl) rfl) (Ja6 16 129) fun zz => ?_)
  have hg2 := yC (R := fnC zz.2 222 129 :: jG zz.1 16 :: R) (hzI.mono fun q hq => List.mem_cons_of_mem _ (List.mem_cons_of_mem _ hq)) hzx hzG (by have := hb.accL; omega) hb.addr hb.keyL hb.keys (List.mem_cons_of_mem _ List.mem_cons_self) List.mem_cons_self
  refine J9 (T := Vc q 4 (Ko 3 1 (Ko 3 1 (Ko 3 1 (Ko 3 1 (Ko 3 1 (Ko 3 1 (Ko 3 1 p)))))))) (L0 := [fnC zz.2 222 129, jG zz.1 16, (r5, _), (r4, _)]) (Rl := fnC zz.2 222 129 :: jG zz.1 16 :: R) (jC _ _ _ _) rfl rfl rfl (enters_of Tryz.func127 (by kernel_rfl) rfl) (Ja3 ((Jh (Jh (Jh (Jh (Jh (Jh (Jh hs))))))).mono fun q hq => List.mem_cons_of_mem _ (List.mem_cons_of_mem _ hq)) (by simp) (enters_of Tryz.func211 (by kernel_rfl) rfl) hg2) (fun q hq => (List.mem_cons.1 hq).elim (fun h => Or.inl (h ▸ List.mem_cons_self)) fun hq => (List.mem_cons.1 hq).elim (fun h => Or.inl (h ▸ List.mem_cons_of_mem _ List.mem_cons_self)) Or.inr) fun z => ?_; refine JA (show _ = Ky z.ys.length (Qm z.row) from Ql z.ok) ?_; refine Kv ((List.perm_append_comm (l₁ := z.L)).cons _) ?_; change HL _ _ _ (_ :: _ :: _ :: (r5, _) :: (r4, _) :: z.L) _ _ _ _
  refine LR rfl (Ja rfl rfl (by first | (simp only [Nat.zero_add, Nat.reduceAdd, Nat.reduceMul, Nat.zero_mul, Nat.mul_one, Nat.add_zero]; exact rfl) | exact rfl)) ?_; refine Ju (k := 3) (cs' := List.toArray (({ tx0L with chain := t.chain, nonce := t.nonce, price := t.price, gas := t.gas, dest := t.dest, value := t.value, data := t.data, accP := Qm z.row, acc := z.ys } : TxL)).cells) rfl rfl rfl rfl rfl rfl rfl rfl (by kernel_rfl) rfl ?_; refine nK hK8 ?_; refine sQ fun _ hK9 => ?_; refine sR fun _ hK10 => ?_; refine Jb rfl (J2 rfl ?_); refine nK hK10 ?_; refine Jl rfl (fun h11 => ?_) (fun h11 => ?_)
  exact absurd h11 ((by decide))
  ·try simp only [ZZ] at h11
   refine Jg (hK9 ?_); refine sR fun _ hK12 => ?_; refine Jb rfl (J9 (T := Vc q 3 (Ko 3 1 (Ko 3 1 (Ko 3 1 (Ko 3 1 (Ko 3 1 (Ko 3 1 (Ko 3 1 (Ko 3 1 p))))))))) (Rl := R) (List.Perm.refl _) rfl rfl rfl Xs (Vy (Jh (Jh (Jh (Jh (Jh (Jh (Jh (Jh hs)))))))) (by simp) ZB (X1 ey8 ho.y)) oR fun _ => ?_); refine Jb rfl (J9 (T := Vc q 2 (Ko 3 1 (Ko 3 1 (Ko 3 1 (Ko 3 1 (Ko 3 1 (Ko 3 1 (Ko 3 1 (Ko 3 1 (Ko 3 1 p)))))))))) (Rl := R) (List.Perm.refl _) rfl rfl rfl WD (QW (Jh (Jh (Jh (Jh (Jh (Jh (Jh (Jh (Jh hs))))))))) (by simp) WE (V4 ey9 ho.r)) oR fun _ => ?_); refine Jb rfl (J9 (T := Vc q 1 (Ko 3 1 (Ko 3 1 (Ko 3 1 (Ko 3 1 (Ko 3 1 (Ko 3 1 (Ko 3 1 (Ko 3 1 (Ko 3 1 (Ko 3 1 p))))))))))) (Rl := R) (List.Perm.refl _) rfl rfl rfl WD (QW (Jh (Jh (Jh (Jh (Jh (Jh (Jh (Jh (Jh (Jh hs)))))))))) (by simp) WE (V4 ey10 ho.s)) oR fun _ => ?_)
   refine LR rfl (Ja rfl rfl (by first | (simp only [Nat.zero_add, Nat.reduceAdd, Nat.reduceMul, Nat.zero_mul, Nat.mul_one, Nat.add_zero]; exact rfl) | exact rfl)) ?_; refine Ju (k := 3) (cs' := List.toArray (({ tx0L with chain := t.chain, nonce := t.nonce, price := t.price, gas := t.gas, dest := t.dest, value := t.value, data := t.data, accP := Qm z.row, acc := z.ys, y := t.y } : TxL)).cells) rfl rfl rfl rfl rfl rfl rfl rfl (by kernel_rfl) rfl ?_
   refine LR rfl (Ja rfl rfl (by first | (simp only [Nat.zero_add, Nat.reduceAdd, Nat.reduceMul, Nat.zero_mul, Nat.mul_one, Nat.add_zero]; exact rfl) | exact rfl)) ?_; refine Jv (k := 3) (n := 4) (cs' := List.toArray (({ tx0L with chain := t.chain, nonce := t.nonce, price := t.price, gas := t.gas, dest := t.dest, value := t.value, data := t.data, accP := Qm z.row, acc := z.ys, y := t.y, r := t.r } : TxL)).cells) (vs := #[_, _, _, _]) rfl rfl rfl rfl rfl rfl rfl (by exact Nat.le_of_ble_eq_true rfl) (by kernel_rfl) rfl ?_
   refine LR rfl (Ja rfl rfl (by first | (simp only [Nat.zero_add, Nat.reduceAdd, Nat.reduceMul, Nat.zero_mul, Nat.mul_one, Nat.add_zero]; exact rfl) | exact rfl)) ?_; refine Jv (k := 3) (n := 4) (cs' := List.toArray (({ tx0L with chain := t.chain, nonce := t.nonce, price := t.price, gas := t.gas, dest := t.dest, value := t.value, data := t.data, accP := Qm z.row, acc := z.ys, y := t.y, r := t.r, s := t.s } : TxL)).cells) (vs := #[_, _, _, _]) rfl rfl rfl rfl rfl rfl rfl (by exact Nat.le_of_ble_eq_true rfl) (by kernel_rfl) rfl ?_; refine nK hK12 ?_; refine sR fun _ hK13 => ?_; refine LR rfl (Jm (xs := ({ tx0L with chain := t.chain, nonce := t.nonce, price := t.price, gas := t.gas, dest := t.dest, value := t.value, data := t.data, accP := Qm z.row, acc := z.ys, y := t.y, r := t.r, s := t.s } : TxL).cells) (n := 36) rfl (kn 3 rfl) rfl rfl rfl) ?_; refine Js (k := 4) (n := 36) (ys := ({ tx0L with chain := t.chain, nonce := t.nonce, price := t.price, gas := t.gas, dest := t.dest, value := t.value, data := t.data, accP := Qm z.row, acc := z.ys, y := t.y, r := t.r, s := t.s } : TxL).cells) rfl rfl rfl rfl rfl rfl rfl rfl rfl ?_; refine nK hK13 ?_; refine Jd ?_; refine Jp rfl rfl (.cons (J0 (vs := ({ tx0L with chain := t.chain, nonce := t.nonce, price := t.price, gas := t.gas, dest := t.dest, value := t.value, data := t.data, accP := Qm z.row, acc := z.ys, y := t.y, r := t.r, s := t.s } : TxL).cells) rfl (kn 4 rfl) rfl rfl) .nil) (fun w1 hs1 => ?_); exact ⟨typN z ho hb hk12, congrArg (fun z => Ending.returned (TxL.val z)) (show ({ tx0L with chain := t.chain, nonce := t.nonce, price := t.price, gas := t.gas, dest := t.dest, value := t.value, data := t.data, accP := Qm z.row, acc := z.ys, y := t.y, r := t.r, s := t.s } : TxL) = typL t z by unfold typL; rw [htip]; rfl), hs1.weakL (.cons _ (.cons _ (.cons _ (.cons _ (.cons _ (List.Sublist.refl _))))))⟩
theorem Jgy {R : Jy} {t : TxE} {ys : List ItL} {p : Pl} {q : Nat} (ho : t.ok) (hb : TxB t) (hk : t.kind = 2) (hxs : ys.map ItL.er = Qu t) (hs : Seg R ys.length (JK ys) p) (hin : ∀ y ∈ ys, y.In R) :
  PureT (α := TxN t) Tryz.prog 55 [Kw q, .int .i64 2].toArray (fun z => z.x.val) (Vc q ys.length p) (fun z => z.L) R := by
 have hk12 : t.kind = 1 ∨ t.kind = 2 := by omega
 rw [Jjw hk] at hxs
 obtain ⟨y0, y1, y2, y3, y4, y5, y6, y7, y8, y9, y10, y11, rfl, ey0, ey1, ey2, ey3, ey4, ey5, ey6, ey7, ey8, ey9, ey10, ey11⟩ := Jcs hxs
 have hzI : y8.In R := hin _ (by simp)
 have hzx : y8.xs.map ItL.er = t.access.map j5 := by rw [← ItL.er_xs, ey8]; rfl
 have hzG : Qi y8.er 0 (16 : Nat) = 0 := by rw [ey8]; exact Vx (by omega) (by rw [List.length_map]; have := hb.accL; omega)
 change PureT _ _ _ _ (Vc q 12 p) _ _; refine J1 Tryz.func55 rfl rfl fun w => ?_; refine sR fun _ hK1 => ?_; refine LN rfl fun r4 => ?_; refine nK hK1 ?_; refine sR fun _ hK2 => ?_; refine Jb rfl (J9 (T := Vc q 12 p) (Rl := R) (List.Perm.swap _ _ _) rfl rfl rfl Xs (Vy hs (by simp) ZB (X1 ey0 ho.chain)) oR fun _ => ?_); refine Jb rfl (J9 (T := Vc q 11 (Ko 3 1 p)) (Rl := R) (List.Perm.refl _) rfl rfl rfl Xs (Vy (Jh hs) (by simp) ZB (X1 ey1 ho.nonce)) oR fun _ => (LR rfl (J7 (r := ({ tx0L with chain := t.chain, nonce := t.nonce } : TxL).cells) rfl (by kernel_rfl)) ?_)); refine LN rfl fun r5 => ?_; refine Js (k := 0) (n := 36) (ys := ({ tx0L with chain := t.chain, nonce := t.nonce } : TxL).cells) rfl rfl rfl rfl rfl rfl rfl rfl rfl ?_; refine nK hK2 ?_; refine sQ fun _ hK3 => ?_; refine sR fun _ hK4 => ?_; refine Jb rfl (J2 rfl ?_); refine nK hK4 ?_; refine Jl rfl (fun h5 => ?_) (fun h5 => ?_)
 ·try simp only [ZZ] at h5
  refine Je (Jb rfl (J9 (T := Vc q 10 (Ko 3 1 (Ko 3 1 p))) (Rl := R) (List.Perm.swap _ _ _) rfl rfl rfl WD (QW (Jh (Jh hs)) (by simp) WE (V4 ey2 ho.tip)) oR fun _ => ?_))
  refine LR rfl (Ja rfl rfl (by first | (simp only [Nat.zero_add, Nat.reduceAdd, Nat.reduceMul, Nat.zero_mul, Nat.mul_one, Nat.add_zero]; exact rfl) | exact rfl)) ?_; refine Jv (k := 1) (n := 4) (cs' := List.toArray (({ tx0L with chain := t.chain, nonce := t.nonce, tip := t.tip } : TxL)).cells) (vs := #[_, _, _, _]) rfl rfl rfl rfl rfl rfl rfl (by exact Nat.le_of_ble_eq_true rfl) (by kernel_rfl) rfl ?_; refine nK hK3 ?_; refine sR fun _ hK6 => ?_; refine Jb rfl (J9 (T := Vc q 9 (Ko 3 1 (Ko 3 1 (Ko 3 1 p)))) (Rl := R) (List.Perm.refl _) rfl rfl rfl WD (QW (Jh (Jh (Jh hs))) (by simp) WE (V4 ey3 ho.price)) oR fun _ => ?_); refine Jb rfl (J9 (T := Vc q 8 (Ko 3 1 (Ko 3 1 (Ko 3 1 (Ko 3 1 p))))) (Rl := R) (List.Perm.refl _) rfl rfl rfl Xs (Vy (Jh (Jh (Jh (Jh hs)))) (by simp) ZB (X1 ey4 ho.gas)) oR fun _ => ?_); refine Jb rfl (J9 (T := Vc q 7 (Ko 3 1 (Ko 3 1 (Ko 3 1 (Ko 3 1 (Ko 3 1 p)))))) (Rl := R) (List.Perm.refl _) rfl rfl rfl jw (Xf (Jh (Jh (Jh (Jh (Jh hs))))) (by simp) Jew (zZ ey5 hb.dest)) oR fun _ => ?_)
  refine LR rfl (Ja rfl rfl (by first | (simp only [Nat.zero_add, Nat.reduceAdd, Nat.reduceMul, Nat.zero_mul, Nat.mul_one, Nat.add_zero]; exact rfl) | exact rfl)) ?_; refine Jv (k := 1) (n := 4) (cs' := List.toArray (({ tx0L with chain := t.chain, nonce := t.nonce, tip := t.tip, price := t.price } : TxL)).cells) (vs := #[_, _, _, _]) rfl rfl rfl rfl rfl rfl rfl (by exact Nat.le_of_ble_eq_true rfl) (by kernel_rfl) rfl ?_
  refine LR rfl (Ja rfl rfl (by first | (simp only [Nat.zero_add, Nat.reduceAdd, Nat.reduceMul, Nat.zero_mul, Nat.mul_one, Nat.add_zero]; exact rfl) | exact rfl)) ?_; refine Ju (k := 1) (cs' := List.toArray (({ tx0L with chain := t.chain, nonce := t.nonce, tip := t.tip, price := t.price, gas := t.gas } : TxL)).cells) rfl rfl rfl rfl rfl rfl rfl rfl (by kernel_rfl) rfl ?_
  refine LR rfl (Ja rfl rfl (by first | (simp only [Nat.zero_add, Nat.reduceAdd, Nat.reduceMul, Nat.zero_mul, Nat.mul_one, Nat.add_zero]; exact rfl) | exact rfl)) ?_; refine Ju (k := 1) (cs' := List.toArray (({ tx0L with chain := t.chain, nonce := t.nonce, tip := t.tip, price := t.price, gas := t.gas, dest := t.dest } : TxL)).cells) rfl rfl rfl rfl rfl rfl rfl rfl (by kernel_rfl) rfl ?_; refine nK hK6 ?_; refine sR fun _ hK7 => ?_; refine Jb rfl (J9 (T := Vc q 6 (Ko 3 1 (Ko 3 1 (Ko 3 1 (Ko 3 1 (Ko 3 1 (Ko 3 1 p))))))) (Rl := R) (List.Perm.refl _) rfl rfl rfl WD (QW (Jh (Jh (Jh (Jh (Jh (Jh hs)))))) (by simp) WE (V4 ey6 ho.value)) oR fun _ => ?_); refine Jb rfl (J9 (T := Vc q 5 (Ko 3 1 (Ko 3 1 (Ko 3 1 (Ko 3 1 (Ko 3 1 (Ko 3 1 (Ko 3 1 p)))))))) (Rl := R) (List.Perm.refl _) rfl rfl rfl jw (Xf (Jh (Jh (Jh (Jh (Jh (Jh (Jh hs))))))) (by simp) Jex (xa ey7 hb.data)) oR fun _ => ?_)
  refine LR rfl (Ja rfl rfl (by first | (simp only [Nat.zero_add, Nat.reduceAdd, Nat.reduceMul, Nat.zero_mul, Nat.mul_one, Nat.add_zero]; exact rfl) | exact rfl)) ?_; refine Jv (k := 1) (n := 4) (cs' := List.toArray (({ tx0L with chain := t.chain, nonce := t.nonce, tip := t.tip, price := t.price, gas := t.gas, dest := t.dest, value := t.value } : TxL)).cells) (vs := #[_, _, _, _]) rfl rfl rfl rfl rfl rfl rfl (by exact Nat.le_of_ble_eq_true rfl) (by kernel_rfl) rfl ?_
  refine LR rfl (Ja rfl rfl (by first | (simp only [Nat.zero_add, Nat.reduceAdd, Nat.reduceMul, Nat.zero_mul, Nat.mul_one, Nat.add_zero]; exact rfl) | exact rfl)) ?_; refine Ju (k := 1) (cs' := List.toArray (({ tx0L with chain := t.chain, nonce := t.nonce, tip := t.tip, price := t.price, gas := t.gas, dest := t.dest, value := t.value, data := t.data } : TxL)).cells) rfl rfl rfl rfl rfl rfl rfl rfl (by kernel_rfl) rfl ?_; refine nK hK7 ?_; refine sR fun _ hK8 => ?_; refine Jb rfl (Qh rfl rfl rfl (enters_of Tryz.func128 (by kernel_rfl) rfl) (Ja6 16 129) fun zz => ?_)
  have hg2 := yC (R := fnC zz.2 222 129 :: jG zz.1 16 :: R) (hzI.mono fun q hq => List.mem_cons_of_mem _ (List.mem_cons_of_mem _ hq)) hzx hzG (by have := hb.accL; omega) hb.addr hb.keyL hb.keys (List.mem_cons_of_mem _ List.mem_cons_self) List.mem_cons_self
  refine J9 (T := Vc q 4 (Ko 3 1 (Ko 3 1 (Ko 3 1 (Ko 3 1 (Ko 3 1 (Ko 3 1 (Ko 3 1 (Ko 3 1 p))))))))) (L0 := [fnC zz.2 222 129, jG zz.1 16, (r5, _), (r4, _)]) (Rl := fnC zz.2 222 129 :: jG zz.1 16 :: R) (jC _ _ _ _) rfl rfl rfl (enters_of Tryz.func127 (by kernel_rfl) rfl) (Ja3 ((Jh (Jh (Jh (Jh (Jh (Jh (Jh (Jh hs)))))))).mono fun q hq => List.mem_cons_of_mem _ (List.mem_cons_of_mem _ hq)) (by simp) (enters_of Tryz.func211 (by kernel_rfl) rfl) hg2) (fun q hq => (List.mem_cons.1 hq).elim (fun h => Or.inl (h ▸ List.mem_cons_self)) fun hq => (List.mem_cons.1 hq).elim (fun h => Or.inl (h ▸ List.mem_cons_of_mem _ List.mem_cons_self)) Or.inr) fun z => ?_; refine JA (show _ = Ky z.ys.length (Qm z.row) from Ql z.ok) ?_; refine Kv ((List.perm_append_comm (l₁ := z.L)).cons _) ?_; change HL _ _ _ (_ :: _ :: _ :: (r5, _) :: (r4, _) :: z.L) _ _ _ _
  refine LR rfl (Ja rfl rfl (by first | (simp only [Nat.zero_add, Nat.reduceAdd, Nat.reduceMul, Nat.zero_mul, Nat.mul_one, Nat.add_zero]; exact rfl) | exact rfl)) ?_; refine Ju (k := 3) (cs' := List.toArray (({ tx0L with chain := t.chain, nonce := t.nonce, tip := t.tip, price := t.price, gas := t.gas, dest := t.dest, value := t.value, data := t.data, accP := Qm z.row, acc := z.ys } : TxL)).cells) rfl rfl rfl rfl rfl rfl rfl rfl (by kernel_rfl) rfl ?_; refine nK hK8 ?_; refine sQ fun _ hK9 => ?_; refine sR fun _ hK10 => ?_; refine Jb rfl (J2 rfl ?_); refine nK hK10 ?_; refine Jl rfl (fun h11 => ?_) (fun h11 => ?_)
  exact absurd h11 ((by decide))
  try simp only [ZZ] at h11
  refine Jg (hK9 ?_); refine sR fun _ hK12 => ?_; refine Jb rfl (J9 (T := Vc q 3 (Ko 3 1 (Ko 3 1 (Ko 3 1 (Ko 3 1 (Ko 3 1 (Ko 3 1 (Ko 3 1 (Ko 3 1 (Ko 3 1 p)))))))))) (Rl := R) (List.Perm.refl _) rfl rfl rfl Xs (Vy (Jh (Jh (Jh (Jh (Jh (Jh (Jh (Jh (Jh hs))))))))) (by simp) ZB (X1 ey9 ho.y)) oR fun _ => ?_); refine Jb rfl (J9 (T := Vc q 2 (Ko 3 1 (Ko 3 1 (Ko 3 1 (Ko 3 1 (Ko 3 1 (Ko 3 1 (Ko 3 1 (Ko 3 1 (Ko 3 1 (Ko 3 1 p))))))))))) (Rl := R) (List.Perm.refl _) rfl rfl rfl WD (QW (Jh (Jh (Jh (Jh (Jh (Jh (Jh (Jh (Jh (Jh hs)))))))))) (by simp) WE (V4 ey10 ho.r)) oR fun _ => ?_); refine Jb rfl (J9 (T := Vc q 1 (Ko 3 1 (Ko 3 1 (Ko 3 1 (Ko 3 1 (Ko 3 1 (Ko 3 1 (Ko 3 1 (Ko 3 1 (Ko 3 1 (Ko 3 1 (Ko 3 1 p)))))))))))) (Rl := R) (List.Perm.refl _) rfl rfl rfl WD (QW (Jh (Jh (Jh (Jh (Jh (Jh (Jh (Jh (Jh (Jh (Jh hs))))))))))) (by simp) WE (V4 ey11 ho.s)) oR fun _ => ?_)
  refine LR rfl (Ja rfl rfl (by first | (simp only [Nat.zero_add, Nat.reduceAdd, Nat.reduceMul, Nat.zero_mul, Nat.mul_one, Nat.add_zero]; exact rfl) | exact rfl)) ?_; refine Ju (k := 3) (cs' := List.toArray (({ tx0L with chain := t.chain, nonce := t.nonce, tip := t.tip, price := t.price, gas := t.gas, dest := t.dest, value := t.value, data := t.data, accP := Qm z.row, acc := z.ys, y := t.y } : TxL)).cells) rfl rfl rfl rfl rfl rfl rfl rfl (by kernel_rfl) rfl ?_
  refine LR rfl (Ja rfl rfl (by first | (simp only [Nat.zero_add, Nat.reduceAdd, Nat.reduceMul, Nat.zero_mul, Nat.mul_one, Nat.add_zero]; exact rfl) | exact rfl)) ?_; refine Jv (k := 3) (n := 4) (cs' := List.toArray (({ tx0L with chain := t.chain, nonce := t.nonce, tip := t.tip, price := t.price, gas := t.gas, dest := t.dest, value := t.value, data := t.data, accP := Qm z.row, acc := z.ys, y := t.y, r := t.r } : TxL)).cells) (vs := #[_, _, _, _]) rfl rfl rfl rfl rfl rfl rfl (by exact Nat.le_of_ble_eq_true rfl) (by kernel_rfl) rfl ?_
  refine LR rfl (Ja rfl rfl (by first | (simp only [Nat.zero_add, Nat.reduceAdd, Nat.reduceMul, Nat.zero_mul, Nat.mul_one, Nat.add_zero]; exact rfl) | exact rfl)) ?_; refine Jv (k := 3) (n := 4) (cs' := List.toArray (({ tx0L with chain := t.chain, nonce := t.nonce, tip := t.tip, price := t.price, gas := t.gas, dest := t.dest, value := t.value, data := t.data, accP := Qm z.row, acc := z.ys, y := t.y, r := t.r, s := t.s } : TxL)).cells) (vs := #[_, _, _, _]) rfl rfl rfl rfl rfl rfl rfl (by exact Nat.le_of_ble_eq_true rfl) (by kernel_rfl) rfl ?_; refine nK hK12 ?_; refine sR fun _ hK13 => ?_; refine LR rfl (Jm (xs := ({ tx0L with chain := t.chain, nonce := t.nonce, tip := t.tip, price := t.price, gas := t.gas, dest := t.dest, value := t.value, data := t.data, accP := Qm z.row, acc := z.ys, y := t.y, r := t.r, s := t.s } : TxL).cells) (n := 36) rfl (kn 3 rfl) rfl rfl rfl) ?_; refine Js (k := 4) (n := 36) (ys := ({ tx0L with chain := t.chain, nonce := t.nonce, tip := t.tip, price := t.price, gas := t.gas, dest := t.dest, value := t.value, data := t.data, accP := Qm z.row, acc := z.ys, y := t.y, r := t.r, s := t.s } : TxL).cells) rfl rfl rfl rfl rfl rfl rfl rfl rfl ?_; refine nK hK13 ?_; refine Jd ?_; refine Jp rfl rfl (.cons (J0 (vs := ({ tx0L with chain := t.chain, nonce := t.nonce, tip := t.tip, price := t.price, gas := t.gas, dest := t.dest, value := t.value, data := t.data, accP := Qm z.row, acc := z.ys, y := t.y, r := t.r, s := t.s } : TxL).cells) rfl (kn 4 rfl) rfl rfl) .nil) (fun w1 hs1 => ?_); exact ⟨typN z ho hb hk12, rfl, hs1.weakL (.cons _ (.cons _ (.cons _ (.cons _ (.cons _ (List.Sublist.refl _))))))⟩
 ·exact absurd h5 ((by decide))
theorem Jjx (r2 r3 : Nat) (w : World) : CallsDIn (FW none) 0 Tryz.prog 49 [Kw r2, Kw r3].toArray .returning w (fun e u' w' => (∃ x, e = .returned x) ∧ settle u' = .returning ∧ Keep [] w w') := by
 refine VM (wy Tryz.prog w [] [] Tryz.f49.ntmps) Tryz.func49 rfl rfl rfl rfl (L := []) (X := fun _ _ => True) (St.startT (fun p hp => nomatch hp) (fun p hp => nomatch hp) List.Pairwise.nil (fun p hp => nomatch hp)) fun c₀ cs hu => ?_
 obtain ⟨hrv, hrc⟩ := wG (cs := cs) hu
 refine vx fun K hK => ?_; refine XV ?_; change HS _ _ _ _ _ _ [0, 1, 2, 3, 4, 5, 6, 7] _ _; refine XX rfl rfl rfl rfl (fun a w hf => rfl) hrv hrc ?_; refine XW rfl rfl rfl rfl (KC rfl rfl rfl) ?_; refine XW rfl rfl rfl rfl (JG rfl) ?_; refine XW rfl rfl rfl rfl (Jf rfl rfl) ?_; refine XW rfl rfl rfl rfl (Jf rfl rfl) ?_; refine Za rfl Xw rfl rfl (LN rfl fun r2 => Jt (XC ?_)); refine Za rfl Xx rfl rfl (Jv (k := 0) (n := 1) (cs' := #[_]) (vs := #[_]) rfl rfl rfl rfl rfl rfl rfl (by exact Nat.le_of_ble_eq_true rfl) rfl rfl (Jt (XC ?_))); refine XW rfl rfl rfl rfl (JY rfl) ?_; refine zu ?_; refine hK _ _ _ _ _ (vw rfl ?_); clear hK K; refine sR fun _ hK1 => ?_; refine Jb rfl ?_; refine nK hK1 ?_; refine Jl rfl (fun g => ?_) (fun g => ?_)
 try exact Bool.noConfusion g
 ·try simp only [ZZ] at g
  refine Jg ?_; refine X9 (u' := .returning) rfl rfl rfl .nil (fun w1 hs1 => ?_); refine ⟨⟨_, rfl⟩, rfl, by have := hs1.keep; simpa [wy] using this⟩
section
variable {c : Cx} {l : KK} {L : Jy} {X : XP} {d : List Deferred} {fn : Func} {R : Ending → World → Prop}
theorem vM {r2 r3 : Nat} (hP : c.P = Tryz.prog) (h : HQ c d l L X (bodyPostM (FW none) 0 Tryz.prog fn R .ret)) : HQ c (dF 49 [Kw r2, Kw r3] :: d) l L X (bodyPostM (FW none) 0 Tryz.prog fn R .ret) :=
 zt (enters_of Tryz.func49 (by kernel_rfl) rfl) (fun w hs => CallsDIn.mono (Jjx r2 r3 w) fun _ _ _ ⟨h1, h2, h3⟩ => ⟨h1, h2, St.turnT (T := []) (LL := []) (L0 := L) hs h3 (fun p hp => nomatch hp) List.Pairwise.nil⟩) h
end
structure TxR (t : TxE) where
  x : TxL
  L : Jy
  inn : x.In L
  er : x.er = t
theorem Yb {xs : List It} (h : (KM (KG xs)).length < 16777216) : 192 ≤ ((KM (KG xs)).getD 0 0).toNat := by
 have e : KM (KG xs) = Qq (KY xs).length 192 ++ KY xs := by unfold KG; rw [Zc]; rfl
 rw [e] at h ⊢; rw [List.length_append] at h
 have := (j4 [] (KY xs) (n := (KY xs).length) (by_ := 192) (by omega) (.inr rfl) (Nat.le_refl _)).2.1
 simpa using this
theorem yD {t : TxE} (ho : t.ok) (hk : t.kind = 0) (hchk : Wx t = 0) : PureT (α := TxR t) Tryz.prog 12 [Jq (We t)].toArray (fun z => .tuple #[z.x.val, .int .i64 0]) [] (fun z => z.L) [] := by
 have hk3 : K012 t.kind := by unfold K012; omega
 have hb := jB hk3 hchk
 obtain ⟨hl, hok⟩ := vJ hk3 ho hb
 have hu := Jam hok (by omega)
 have h192 := Yb (xs := Qu t) (by omega)
 have hp0 := XB (KG (Qu t))
 have hU := Xd (s := KM (KG (Qu t))) (by omega)
 rw [hu] at hU; rw [show We t = KM (KG (Qu t)) from by unfold We Jcd; rw [if_pos hk]; rfl]
 obtain ⟨s, hs⟩ : ∃ s, KM (KG (Qu t)) = s := ⟨_, rfl⟩
 rw [hs] at hl hu h192 hp0 hU; rw [hs]
 have hne : s ≠ [] := fun h => by rw [h] at hp0; exact absurd hp0 (by decide)
 have hpos : 0 < s.length := hp0
 refine J1 Tryz.func12 rfl rfl fun w => ?_; refine sR fun _ hK1 => ?_; refine LN rfl fun r2 => ?_; refine LN rfl fun r3 => ?_; refine nK hK1 ?_; refine sR fun _ hK2 => ?_; refine LR rfl (JQ rfl rfl) ?_; refine Xq (caps := [Kw r2, Kw r3]) rfl rfl rfl ?_ rfl; refine nK hK2 ?_; refine sQ fun _ hK3 => ?_; refine sR fun _ hK4 => ?_; refine Jb rfl (LR rfl (Q3 rfl rfl) ?_); refine nK hK4 ?_; refine Jl rfl (fun h5 => ?_) (fun h5 => ?_)
 exact absurd h5 ((by intro h; exact hne (of_decide_eq_true h)))
 ·try simp only [ZZ] at h5
  refine Jg (hK3 ?_); refine sR fun _ hK6 => ?_; refine Jb rfl ?_; refine nK hK6 ?_; refine sQ fun _ hK7 => ?_; refine sR fun _ hK8 => ?_; refine Jb rfl (LR rfl (Kp (j := 0) (n := ((s.getD 0 0).toNat : Int)) rfl rfl rfl rfl hpos rfl) (J2 rfl ?_)); refine nK hK8 ?_; refine Jl rfl (fun h9 => ?_) (fun h9 => ?_)
  exact absurd h9 ((by intro h; have := of_decide_eq_true h; omega))
  ·try simp only [ZZ] at h9
   refine Jg (hK7 ?_); refine sR fun _ hK10 => ?_; refine Jb rfl (Ka rfl rfl rfl Jib hU oN fun y => ?_)
   obtain ⟨yx, yL, yin, yer⟩ := y
   rw [hu] at yer; refine Kv List.perm_append_comm ?_; change HL _ _ _ ((r3, _) :: (r2, _) :: yL) _ _ _ _; refine Jb rfl (LR rfl (Jf rfl rfl) (LR rfl (Jf rfl rfl) ?_)); refine LN rfl fun r5 => ?_; refine Js (k := 0) (n := 3) (ys := yx.cells) rfl rfl rfl rfl rfl (ItL.len _) rfl (ItL.one _) rfl ?_; refine Ju (k := 1) (cs' := #[.int .i64 0]) rfl rfl rfl rfl rfl rfl rfl rfl rfl rfl ?_; refine nK hK10 ?_; refine sR fun _ hK11 => ?_; refine LR rfl (Jc rfl (kn 1 rfl) rfl rfl) ?_; refine JC rfl rfl rfl YX QV ?_; refine nK hK11 ?_; refine sQ fun _ hK12 => ?_
   have hyf : yx.xs.map ItL.er = Qu t := by rw [← ItL.er_xs, yer]; rfl
   have hyn : yx.xs.length = 9 := by have h := congrArg List.length hyf; rw [List.length_map, Jju hk] at h; exact h
   have hT := Ja4 9 yin (by rw [yer]; exact Vx (by rw [Jju hk]; simp) (by rw [Jju hk]; simp))
   have hsg := VN yin
   refine Km ((r5, .cells (List.toArray yx.cells) 91 (0, 0)) :: yL) [(1, .grow (QY (0 : Nat) (fun r => .map (some r)) (fun r => [yi r]))), (2, .pure), (4, .grow (QY (0 : Nat) (fun q => Kw q) (fun q => Vc q yx.xs.length yx.p))), (5, .pure)] 6 [0, 2, 1, 3, 4, 5] (by kernel_rfl) (by kernel_rfl) (fun p hp => (List.mem_cons.1 hp).elim (fun h => h ▸ List.mem_cons_self) fun h => (List.mem_cons_of_mem _ (List.mem_cons_of_mem _ (List.mem_cons_of_mem _ h)))) ?_; refine Q5 (k := 0) rfl rfl rfl rfl rfl (Jm (xs := yx.cells) (n := 3) rfl (kn 0 rfl) rfl rfl (ItL.len _)) ?_; refine JH (k := 2) rfl rfl rfl rfl rfl (fun _ hS => (JG rfl)) ?_; refine VQ (k := 1) rfl rfl rfl rfl rfl Jb9 Zd fun rm => ?_
   refine Q5 (k := 3) rfl rfl rfl rfl rfl (Vb (v := .int .i64 9) (Ww (t := 3) (by kernel_rfl)) rfl rfl (kn 0 rfl) rfl rfl ⟨_, rfl⟩ (by intro e he; simp at he; rcases he with rfl | rfl | rfl | rfl | rfl <;> exact ⟨_, rfl⟩) rfl) ?_; refine VR (k := 4) rfl rfl rfl rfl rfl Jic hT (fun q hq => .inl (List.mem_cons_of_mem _ hq)) fun q => ?_; refine JH (k := 5) rfl rfl rfl rfl rfl (fun _ hS => (JY rfl)) ?_; refine Qc ?_; refine nK hK12 ?_; refine sR fun _ hK13 => ?_; refine LN rfl fun r7 => ?_; refine nK hK13 ?_; refine sQ fun _ hK14 => ?_; refine sR fun _ hK15 => ?_; refine Jb rfl ?_; refine nK hK15 ?_; refine J3 (sR fun _ hK16 => ?_); refine J2 rfl (Jb rfl ?_); refine nK hK16 ?_; refine Jl rfl (fun h17 => ?_) (fun h17 => ?_)
   exact absurd h17 ((by decide))
   ·try simp only [ZZ] at h17
    refine sR fun _ hK18 => ?_; refine J2 rfl (Jb rfl ?_); refine nK hK18 ?_; refine Jl rfl (fun h19 => ?_) (fun h19 => ?_)
    ·try simp only [ZZ] at h19
     refine Je (Jb rfl (J9 (T := Vc q yx.xs.length yx.p) (L0 := (r7, _) :: (rm, _) :: (r5, _) :: (r3, _) :: (r2, _) :: yL) (Rl := yL) (List.Perm.swap _ _ _) rfl rfl rfl (enters_of Tryz.func54 (by kernel_rfl) rfl) (Jgv ho hb hk hyf hsg) (fun q hq => .inl (List.mem_cons_of_mem _ (List.mem_cons_of_mem _ (List.mem_cons_of_mem _ (List.mem_cons_of_mem _ (List.mem_cons_of_mem _ hq)))))) fun z => ?_))
     obtain ⟨zx, zL, zin, zer⟩ := z
     rw [hk] at zin zer; refine Kv List.perm_append_comm ?_; change HL _ _ _ ((r7, _) :: (rm, _) :: (r5, _) :: (r3, _) :: (r2, _) :: (yL ++ zL)) _ _ _ _; refine Js (k := 0) (n := 36) (ys := zx.cells) rfl rfl rfl rfl rfl rfl rfl rfl rfl ?_; refine Jt ?_; refine Jo (hK14 ?_); refine sR fun _ hK20 => ?_; refine Jb rfl ?_
     refine LR rfl (Ja rfl rfl (by first | (simp only [Nat.zero_add, Nat.reduceAdd, Nat.reduceMul, Nat.zero_mul, Nat.mul_one, Nat.add_zero]; exact rfl) | exact rfl)) ?_; refine Ju (k := 0) (cs' := List.toArray (({ zx with kind := 0 } : TxL)).cells) rfl rfl rfl rfl rfl rfl rfl rfl (by kernel_rfl) rfl ?_; refine nK hK20 ?_; refine sR fun _ hK21 => ?_; refine LR rfl (Jm (xs := ({ zx with kind := 0 } : TxL).cells) (n := 36) rfl (kn 0 rfl) rfl rfl rfl) ?_
     have hck := WG zin (show K012 0 from by unfold K012; omega)
     rw [zer, hchk] at hck; refine J4 rfl rfl rfl Jeu hck (fun q hq => .inl (List.mem_cons_of_mem _ (List.mem_cons_of_mem _ (List.mem_cons_of_mem _ (List.mem_cons_of_mem _ (List.mem_cons_of_mem _ (List.mem_append_right _ hq))))))) ?_; refine JC rfl rfl rfl YX QV ?_; refine nK hK21 ?_; refine sR fun _ hK22 => ?_; refine LR rfl (Jm (xs := ({ zx with kind := 0 } : TxL).cells) (n := 36) rfl (kn 0 rfl) rfl rfl rfl) ?_; refine Js (k := 4) (n := 36) (ys := ({ zx with kind := 0 } : TxL).cells) rfl rfl rfl rfl rfl rfl rfl rfl rfl ?_; refine Ju (k := 3) (cs' := #[.int .i64 0]) rfl rfl rfl rfl rfl rfl rfl rfl rfl rfl ?_; refine nK hK22 ?_; refine Jd (vM rfl ?_); refine Jp rfl rfl (.cons (J0 (vs := ({ zx with kind := 0 } : TxL).cells) rfl (kn 4 rfl) rfl rfl) (.cons (KW rfl (kn 3 rfl) rfl rfl) .nil)) (fun w1 hs1 => ?_); exact ⟨⟨_, zL, zin, zer⟩, rfl, hs1.weakL (.cons _ (.cons _ (.cons _ (.cons _ (.cons _ ((List.sublist_append_right _ _)))))))⟩
    ·exact absurd h19 ((by decide))
theorem yE {t : TxE} (ho : t.ok) (hk : t.kind = 1) (hchk : Wx t = 0) : PureT (α := TxR t) Tryz.prog 12 [Jq (We t)].toArray (fun z => .tuple #[z.x.val, .int .i64 0]) [] (fun z => z.L) [] := by
 have hk3 : K012 t.kind := by unfold K012; omega
 have hb := jB hk3 hchk
 obtain ⟨hl, hok⟩ := vJ hk3 ho hb
 have hu := Jam hok (by omega)
 have h192 := Yb (xs := Qu t) (by omega)
 have hp0 := XB (KG (Qu t))
 have hU := Xd (s := KM (KG (Qu t))) (by omega)
 rw [hu] at hU; rw [show We t = UInt8.ofNat 1 :: KM (KG (Qu t)) from by unfold We Jcd; rw [if_neg (by omega), hk]; rfl]
 obtain ⟨s, hs⟩ : ∃ s, KM (KG (Qu t)) = s := ⟨_, rfl⟩
 rw [hs] at hl hu h192 hp0 hU; rw [hs]
 have hne : UInt8.ofNat 1 :: s ≠ [] := fun h => nomatch h
 have hpos : 0 < (UInt8.ofNat 1 :: s).length := by simp
 refine J1 Tryz.func12 rfl rfl fun w => ?_; refine sR fun _ hK1 => ?_; refine LN rfl fun r2 => ?_; refine LN rfl fun r3 => ?_; refine nK hK1 ?_; refine sR fun _ hK2 => ?_; refine LR rfl (JQ rfl rfl) ?_; refine Xq (caps := [Kw r2, Kw r3]) rfl rfl rfl ?_ rfl; refine nK hK2 ?_; refine sQ fun _ hK3 => ?_; refine sR fun _ hK4 => ?_; refine Jb rfl (LR rfl (Q3 rfl rfl) ?_); refine nK hK4 ?_; refine Jl rfl (fun h5 => ?_) (fun h5 => ?_)
 exact absurd h5 ((by intro h; exact hne (of_decide_eq_true h)))
 ·try simp only [ZZ] at h5
  refine Jg (hK3 ?_); refine sR fun _ hK6 => ?_; refine Jb rfl ?_; refine nK hK6 ?_; refine sQ fun _ hK7 => ?_; refine sR fun _ hK8 => ?_; refine Jb rfl (LR rfl (Kp (j := 0) (n := 1) rfl rfl rfl rfl hpos rfl) (J2 rfl ?_)); refine nK hK8 ?_; refine Jl rfl (fun h9 => ?_) (fun h9 => ?_)
  ·try simp only [ZZ] at h9
   refine sQ fun _ hK10 => ?_; refine Qs 7 (by kernel_rfl) (by kernel_rfl) ?_; refine JD rfl rfl rfl (JG rfl) ?_; refine JD rfl rfl rfl (Kp (j := 0) (n := 1) rfl rfl rfl rfl hpos rfl) ?_; refine JD rfl rfl rfl (KC rfl rfl rfl) ?_; refine VB (by omega) (by omega) ?_; refine JD rfl rfl rfl (JG rfl) ?_; refine JD rfl rfl rfl (Qx (kl := some (.i64, 1)) (kh := none) (m := 1) (n := s.length + 1) rfl rfl rfl rfl rfl rfl (by omega) (Nat.le_refl _) (r := s) (by simp)) ?_; refine JD rfl rfl rfl (JY rfl) ?_; refine JD rfl rfl rfl (JY rfl) ?_; refine Q8 ?_; refine nK hK10 ?_; refine sR fun _ hK11 => ?_; refine Jb rfl (J2 rfl ?_); refine Jb rfl (Qh rfl rfl rfl Jb9 Zd fun rm0 => (Jb rfl ?_))
   refine LR rfl (Vb (v := .int .i64 11) (Ww (t := 3) (by kernel_rfl)) rfl rfl (kn 0 rfl) rfl rfl ⟨_, rfl⟩ (by intro e he; simp at he; rcases he with rfl | rfl | rfl | rfl | rfl <;> exact ⟨_, rfl⟩) rfl) ?_; refine J2 rfl (LR rfl (J5 rfl rfl) ?_); refine nK hK11 ?_; refine Jl rfl (fun h16 => ?_) (fun h16 => ?_)
   exact absurd h16 ((by decide))
   ·try simp only [ZZ] at h16
    refine Jg (hK7 ?_); refine sR fun _ hK17 => ?_; refine Jb rfl (Ka rfl rfl rfl Jib hU oN fun y => ?_)
    obtain ⟨yx, yL, yin, yer⟩ := y
    rw [hu] at yer; refine Kv List.perm_append_comm ?_; change HL _ _ _ ((_, _) :: (r3, _) :: (r2, _) :: yL) _ _ _ _; refine Jb rfl (LR rfl (Jf rfl rfl) (LR rfl (Jf rfl rfl) ?_)); refine LN rfl fun r5 => ?_; refine Js (k := 0) (n := 3) (ys := yx.cells) rfl rfl rfl rfl rfl (ItL.len _) rfl (ItL.one _) rfl ?_; refine Ju (k := 2) (cs' := #[.int .i64 0]) rfl rfl rfl rfl rfl rfl rfl rfl rfl rfl ?_; refine nK hK17 ?_; refine sR fun _ hK18 => ?_; refine LR rfl (Jc rfl (kn 2 rfl) rfl rfl) ?_; refine JC rfl rfl rfl YX QV ?_; refine nK hK18 ?_; refine sQ fun _ hK19 => ?_
    have hyf : yx.xs.map ItL.er = Qu t := by rw [← ItL.er_xs, yer]; rfl
    have hyn : yx.xs.length = 11 := by have h := congrArg List.length hyf; rw [List.length_map, Jjv hk] at h; exact h
    have hT := Ja4 11 yin (by rw [yer]; exact Vx (by rw [Jjv hk]; simp) (by rw [Jjv hk]; simp))
    have hsg := VN yin
    refine Km ((r5, .cells (List.toArray yx.cells) 91 (0, 0)) :: yL) [(1, .grow (QY (0 : Nat) (fun r => .map (some r)) (fun r => [yi r]))), (2, .pure), (4, .grow (QY (0 : Nat) (fun q => Kw q) (fun q => Vc q yx.xs.length yx.p))), (5, .pure)] 6 [0, 2, 1, 3, 4, 5] (by kernel_rfl) (by kernel_rfl) (fun p hp => (List.mem_cons.1 hp).elim (fun h => h ▸ List.mem_cons_self) fun h => (List.mem_cons_of_mem _ (List.mem_cons_of_mem _ (List.mem_cons_of_mem _ (List.mem_cons_of_mem _ h))))) ?_; refine Q5 (k := 0) rfl rfl rfl rfl rfl (Jm (xs := yx.cells) (n := 3) rfl (kn 0 rfl) rfl rfl (ItL.len _)) ?_; refine JH (k := 2) rfl rfl rfl rfl rfl (fun _ hS => (JG rfl)) ?_; refine VQ (k := 1) rfl rfl rfl rfl rfl Jb9 Zd fun rm => ?_
    refine Q5 (k := 3) rfl rfl rfl rfl rfl (Vb (v := .int .i64 11) (Ww (t := 3) (by kernel_rfl)) rfl rfl (kn 0 rfl) rfl rfl ⟨_, rfl⟩ (by intro e he; simp at he; rcases he with rfl | rfl | rfl | rfl | rfl <;> exact ⟨_, rfl⟩) rfl) ?_; refine VR (k := 4) rfl rfl rfl rfl rfl Jic hT (fun q hq => .inl (List.mem_cons_of_mem _ hq)) fun q => ?_; refine JH (k := 5) rfl rfl rfl rfl rfl (fun _ hS => (JY rfl)) ?_; refine Qc ?_; refine nK hK19 ?_; refine sR fun _ hK20 => ?_; refine LN rfl fun r7 => ?_; refine nK hK20 ?_; refine sQ fun _ hK21 => ?_; refine sR fun _ hK22 => ?_; refine Jb rfl ?_; refine nK hK22 ?_; refine J3 (sR fun _ hK23 => ?_); refine J2 rfl (Jb rfl ?_); refine nK hK23 ?_; refine Jl rfl (fun h24 => ?_) (fun h24 => ?_)
    exact absurd h24 ((by decide))
    ·try simp only [ZZ] at h24
     refine sR fun _ hK25 => ?_; refine J2 rfl (Jb rfl ?_); refine nK hK25 ?_; refine Jl rfl (fun h26 => ?_) (fun h26 => ?_)
     exact absurd h26 ((by decide))
     ·try simp only [ZZ] at h26
      refine Je (Jb rfl ?_); refine Jb rfl (J9 (T := Vc q yx.xs.length yx.p) (L0 := (r7, _) :: (rm, _) :: (r5, _) :: (_, _) :: (r3, _) :: (r2, _) :: yL) (Rl := yL) (List.Perm.swap _ _ _) rfl rfl rfl (enters_of Tryz.func55 (by kernel_rfl) rfl) (Jgx ho hb hk hyf hsg (yin.sub)) (fun q hq => .inl (List.mem_cons_of_mem _ (List.mem_cons_of_mem _ (List.mem_cons_of_mem _ (List.mem_cons_of_mem _ (List.mem_cons_of_mem _ (List.mem_cons_of_mem _ hq))))))) fun z => ?_)
      obtain ⟨zx, zL, zin, zer⟩ := z
      rw [hk] at zin zer; refine Kv List.perm_append_comm ?_; change HL _ _ _ ((r7, _) :: (rm, _) :: (r5, _) :: (_, _) :: (r3, _) :: (r2, _) :: (yL ++ zL)) _ _ _ _; refine Js (k := 0) (n := 36) (ys := zx.cells) rfl rfl rfl rfl rfl rfl rfl rfl rfl ?_; refine Jt ?_; refine Jo (hK21 ?_); refine sR fun _ hK27 => ?_; refine Jb rfl ?_
      refine LR rfl (Ja rfl rfl (by first | (simp only [Nat.zero_add, Nat.reduceAdd, Nat.reduceMul, Nat.zero_mul, Nat.mul_one, Nat.add_zero]; exact rfl) | exact rfl)) ?_; refine Ju (k := 0) (cs' := List.toArray (({ zx with kind := 1 } : TxL)).cells) rfl rfl rfl rfl rfl rfl rfl rfl (by kernel_rfl) rfl ?_; refine nK hK27 ?_; refine sR fun _ hK28 => ?_; refine LR rfl (Jm (xs := ({ zx with kind := 1 } : TxL).cells) (n := 36) rfl (kn 0 rfl) rfl rfl rfl) ?_
      have hck := WG zin (show K012 1 from by unfold K012; omega)
      rw [zer, hchk] at hck; refine J4 rfl rfl rfl Jeu hck (fun q hq => .inl (List.mem_cons_of_mem _ (List.mem_cons_of_mem _ (List.mem_cons_of_mem _ (List.mem_cons_of_mem _ (List.mem_cons_of_mem _ (List.mem_cons_of_mem _ (List.mem_append_right _ hq)))))))) ?_; refine JC rfl rfl rfl YX QV ?_; refine nK hK28 ?_; refine sR fun _ hK29 => ?_; refine LR rfl (Jm (xs := ({ zx with kind := 1 } : TxL).cells) (n := 36) rfl (kn 0 rfl) rfl rfl rfl) ?_; refine Js (k := 5) (n := 36) (ys := ({ zx with kind := 1 } : TxL).cells) rfl rfl rfl rfl rfl rfl rfl rfl rfl ?_; refine Ju (k := 4) (cs' := #[.int .i64 0]) rfl rfl rfl rfl rfl rfl rfl rfl rfl rfl ?_; refine nK hK29 ?_; refine Jd (vM rfl ?_); refine Jp rfl rfl (.cons (J0 (vs := ({ zx with kind := 1 } : TxL).cells) rfl (kn 5 rfl) rfl rfl) (.cons (KW rfl (kn 4 rfl) rfl rfl) .nil)) (fun w1 hs1 => ?_); exact ⟨⟨_, zL, zin, zer⟩, rfl, hs1.weakL (.cons _ (.cons _ (.cons _ (.cons _ (.cons _ (.cons _ ((List.sublist_append_right _ _))))))))⟩
  ·exact absurd h9 ((by decide))
theorem yF {t : TxE} (ho : t.ok) (hk : t.kind = 2) (hchk : Wx t = 0) : PureT (α := TxR t) Tryz.prog 12 [Jq (We t)].toArray (fun z => .tuple #[z.x.val, .int .i64 0]) [] (fun z => z.L) [] := by
 have hk3 : K012 t.kind := by unfold K012; omega
 have hb := jB hk3 hchk
 obtain ⟨hl, hok⟩ := vJ hk3 ho hb
 have hu := Jam hok (by omega)
 have h192 := Yb (xs := Qu t) (by omega)
 have hp0 := XB (KG (Qu t))
 have hU := Xd (s := KM (KG (Qu t))) (by omega)
 rw [hu] at hU; rw [show We t = UInt8.ofNat 2 :: KM (KG (Qu t)) from by unfold We Jcd; rw [if_neg (by omega), hk]; rfl]
 obtain ⟨s, hs⟩ : ∃ s, KM (KG (Qu t)) = s := ⟨_, rfl⟩
 rw [hs] at hl hu h192 hp0 hU; rw [hs]
 have hne : UInt8.ofNat 2 :: s ≠ [] := fun h => nomatch h
 have hpos : 0 < (UInt8.ofNat 2 :: s).length := by simp
 refine J1 Tryz.func12 rfl rfl fun w => ?_; refine sR fun _ hK1 => ?_; refine LN rfl fun r2 => ?_; refine LN rfl fun r3 => ?_; refine nK hK1 ?_; refine sR fun _ hK2 => ?_; refine LR rfl (JQ rfl rfl) ?_; refine Xq (caps := [Kw r2, Kw r3]) rfl rfl rfl ?_ rfl; refine nK hK2 ?_; refine sQ fun _ hK3 => ?_; refine sR fun _ hK4 => ?_; refine Jb rfl (LR rfl (Q3 rfl rfl) ?_); refine nK hK4 ?_; refine Jl rfl (fun h5 => ?_) (fun h5 => ?_)
 exact absurd h5 ((by intro h; exact hne (of_decide_eq_true h)))
 ·try simp only [ZZ] at h5
  refine Jg (hK3 ?_); refine sR fun _ hK6 => ?_; refine Jb rfl ?_; refine nK hK6 ?_; refine sQ fun _ hK7 => ?_; refine sR fun _ hK8 => ?_; refine Jb rfl (LR rfl (Kp (j := 0) (n := 2) rfl rfl rfl rfl hpos rfl) (J2 rfl ?_)); refine nK hK8 ?_; refine Jl rfl (fun h9 => ?_) (fun h9 => ?_)
  ·try simp only [ZZ] at h9
   refine sQ fun _ hK10 => ?_; refine Qs 7 (by kernel_rfl) (by kernel_rfl) ?_; refine JD rfl rfl rfl (JG rfl) ?_; refine JD rfl rfl rfl (Kp (j := 0) (n := 2) rfl rfl rfl rfl hpos rfl) ?_; refine JD rfl rfl rfl (KC rfl rfl rfl) ?_; refine VB (by omega) (by omega) ?_; refine JD rfl rfl rfl (JG rfl) ?_; refine JD rfl rfl rfl (Qx (kl := some (.i64, 1)) (kh := none) (m := 1) (n := s.length + 1) rfl rfl rfl rfl rfl rfl (by omega) (Nat.le_refl _) (r := s) (by simp)) ?_; refine JD rfl rfl rfl (JY rfl) ?_; refine JD rfl rfl rfl (JY rfl) ?_; refine Q8 ?_; refine nK hK10 ?_; refine sR fun _ hK11 => ?_; refine Jb rfl (J2 rfl ?_); refine Jb rfl (Qh rfl rfl rfl Jb9 Zd fun rm0 => (Jb rfl ?_))
   refine LR rfl (Vb (v := .int .i64 12) (Ww (t := 3) (by kernel_rfl)) rfl rfl (kn 0 rfl) rfl rfl ⟨_, rfl⟩ (by intro e he; simp at he; rcases he with rfl | rfl | rfl | rfl | rfl <;> exact ⟨_, rfl⟩) rfl) ?_; refine J2 rfl (LR rfl (J5 rfl rfl) ?_); refine nK hK11 ?_; refine Jl rfl (fun h16 => ?_) (fun h16 => ?_)
   exact absurd h16 ((by decide))
   ·try simp only [ZZ] at h16
    refine Jg (hK7 ?_); refine sR fun _ hK17 => ?_; refine Jb rfl (Ka rfl rfl rfl Jib hU oN fun y => ?_)
    obtain ⟨yx, yL, yin, yer⟩ := y
    rw [hu] at yer; refine Kv List.perm_append_comm ?_; change HL _ _ _ ((_, _) :: (r3, _) :: (r2, _) :: yL) _ _ _ _; refine Jb rfl (LR rfl (Jf rfl rfl) (LR rfl (Jf rfl rfl) ?_)); refine LN rfl fun r5 => ?_; refine Js (k := 0) (n := 3) (ys := yx.cells) rfl rfl rfl rfl rfl (ItL.len _) rfl (ItL.one _) rfl ?_; refine Ju (k := 2) (cs' := #[.int .i64 0]) rfl rfl rfl rfl rfl rfl rfl rfl rfl rfl ?_; refine nK hK17 ?_; refine sR fun _ hK18 => ?_; refine LR rfl (Jc rfl (kn 2 rfl) rfl rfl) ?_; refine JC rfl rfl rfl YX QV ?_; refine nK hK18 ?_; refine sQ fun _ hK19 => ?_
    have hyf : yx.xs.map ItL.er = Qu t := by rw [← ItL.er_xs, yer]; rfl
    have hyn : yx.xs.length = 12 := by have h := congrArg List.length hyf; rw [List.length_map, Jjw hk] at h; exact h
    have hT := Ja4 12 yin (by rw [yer]; exact Vx (by rw [Jjw hk]; simp) (by rw [Jjw hk]; simp))
    have hsg := VN yin
    refine Km ((r5, .cells (List.toArray yx.cells) 91 (0, 0)) :: yL) [(1, .grow (QY (0 : Nat) (fun r => .map (some r)) (fun r => [yi r]))), (2, .pure), (4, .grow (QY (0 : Nat) (fun q => Kw q) (fun q => Vc q yx.xs.length yx.p))), (5, .pure)] 6 [0, 2, 1, 3, 4, 5] (by kernel_rfl) (by kernel_rfl) (fun p hp => (List.mem_cons.1 hp).elim (fun h => h ▸ List.mem_cons_self) fun h => (List.mem_cons_of_mem _ (List.mem_cons_of_mem _ (List.mem_cons_of_mem _ (List.mem_cons_of_mem _ h))))) ?_; refine Q5 (k := 0) rfl rfl rfl rfl rfl (Jm (xs := yx.cells) (n := 3) rfl (kn 0 rfl) rfl rfl (ItL.len _)) ?_; refine JH (k := 2) rfl rfl rfl rfl rfl (fun _ hS => (JG rfl)) ?_; refine VQ (k := 1) rfl rfl rfl rfl rfl Jb9 Zd fun rm => ?_
    refine Q5 (k := 3) rfl rfl rfl rfl rfl (Vb (v := .int .i64 12) (Ww (t := 3) (by kernel_rfl)) rfl rfl (kn 0 rfl) rfl rfl ⟨_, rfl⟩ (by intro e he; simp at he; rcases he with rfl | rfl | rfl | rfl | rfl <;> exact ⟨_, rfl⟩) rfl) ?_; refine VR (k := 4) rfl rfl rfl rfl rfl Jic hT (fun q hq => .inl (List.mem_cons_of_mem _ hq)) fun q => ?_; refine JH (k := 5) rfl rfl rfl rfl rfl (fun _ hS => (JY rfl)) ?_; refine Qc ?_; refine nK hK19 ?_; refine sR fun _ hK20 => ?_; refine LN rfl fun r7 => ?_; refine nK hK20 ?_; refine sQ fun _ hK21 => ?_; refine sR fun _ hK22 => ?_; refine Jb rfl ?_; refine nK hK22 ?_; refine J3 (sR fun _ hK23 => ?_); refine J2 rfl (Jb rfl ?_); refine nK hK23 ?_; refine Jl rfl (fun h24 => ?_) (fun h24 => ?_)
    exact absurd h24 ((by decide))
    ·try simp only [ZZ] at h24
     refine sR fun _ hK25 => ?_; refine J2 rfl (Jb rfl ?_); refine nK hK25 ?_; refine Jl rfl (fun h26 => ?_) (fun h26 => ?_)
     exact absurd h26 ((by decide))
     ·try simp only [ZZ] at h26
      refine Je (Jb rfl ?_); refine Jb rfl (J9 (T := Vc q yx.xs.length yx.p) (L0 := (r7, _) :: (rm, _) :: (r5, _) :: (_, _) :: (r3, _) :: (r2, _) :: yL) (Rl := yL) (List.Perm.swap _ _ _) rfl rfl rfl (enters_of Tryz.func55 (by kernel_rfl) rfl) (Jgy ho hb hk hyf hsg (yin.sub)) (fun q hq => .inl (List.mem_cons_of_mem _ (List.mem_cons_of_mem _ (List.mem_cons_of_mem _ (List.mem_cons_of_mem _ (List.mem_cons_of_mem _ (List.mem_cons_of_mem _ hq))))))) fun z => ?_)
      obtain ⟨zx, zL, zin, zer⟩ := z
      rw [hk] at zin zer; refine Kv List.perm_append_comm ?_; change HL _ _ _ ((r7, _) :: (rm, _) :: (r5, _) :: (_, _) :: (r3, _) :: (r2, _) :: (yL ++ zL)) _ _ _ _; refine Js (k := 0) (n := 36) (ys := zx.cells) rfl rfl rfl rfl rfl rfl rfl rfl rfl ?_; refine Jt ?_; refine Jo (hK21 ?_); refine sR fun _ hK27 => ?_; refine Jb rfl ?_
      refine LR rfl (Ja rfl rfl (by first | (simp only [Nat.zero_add, Nat.reduceAdd, Nat.reduceMul, Nat.zero_mul, Nat.mul_one, Nat.add_zero]; exact rfl) | exact rfl)) ?_; refine Ju (k := 0) (cs' := List.toArray (({ zx with kind := 2 } : TxL)).cells) rfl rfl rfl rfl rfl rfl rfl rfl (by kernel_rfl) rfl ?_; refine nK hK27 ?_; refine sR fun _ hK28 => ?_; refine LR rfl (Jm (xs := ({ zx with kind := 2 } : TxL).cells) (n := 36) rfl (kn 0 rfl) rfl rfl rfl) ?_
      have hck := WG zin (show K012 2 from by unfold K012; omega)
      rw [zer, hchk] at hck; refine J4 rfl rfl rfl Jeu hck (fun q hq => .inl (List.mem_cons_of_mem _ (List.mem_cons_of_mem _ (List.mem_cons_of_mem _ (List.mem_cons_of_mem _ (List.mem_cons_of_mem _ (List.mem_cons_of_mem _ (List.mem_append_right _ hq)))))))) ?_; refine JC rfl rfl rfl YX QV ?_; refine nK hK28 ?_; refine sR fun _ hK29 => ?_; refine LR rfl (Jm (xs := ({ zx with kind := 2 } : TxL).cells) (n := 36) rfl (kn 0 rfl) rfl rfl rfl) ?_; refine Js (k := 5) (n := 36) (ys := ({ zx with kind := 2 } : TxL).cells) rfl rfl rfl rfl rfl rfl rfl rfl rfl ?_; refine Ju (k := 4) (cs' := #[.int .i64 0]) rfl rfl rfl rfl rfl rfl rfl rfl rfl rfl ?_; refine nK hK29 ?_; refine Jd (vM rfl ?_); refine Jp rfl rfl (.cons (J0 (vs := ({ zx with kind := 2 } : TxL).cells) rfl (kn 5 rfl) rfl rfl) (.cons (KW rfl (kn 4 rfl) rfl rfl) .nil)) (fun w1 hs1 => ?_); exact ⟨⟨_, zL, zin, zer⟩, rfl, hs1.weakL (.cons _ (.cons _ (.cons _ (.cons _ (.cons _ (.cons _ ((List.sublist_append_right _ _))))))))⟩
  ·exact absurd h9 ((by decide))
end Go.Proofs.YtckoepmdmhdepaaGreatDoor
