import Derived.Test.YteceenlfegnigaaGreatDoorZtSetsd
set_option maxRecDepth 100000
namespace Go.Proofs.YteceenlfegnigaaGreatDoor
set_option linter.all false
open Go.SL Go.RowKit Go.Shelf
theorem Jqy {c : Cx} {d : List Deferred} {l : Ko} {L : Jr} {X : XP} {Q : Exit → Act → World → Prop} {code : Code} (js : List Nat) {L' : Jr} (hn : js.Nodup) (hL : zv L js = L') (h : HCE c d l L' X code Q) : HCE c d l L X code Q := fun a w hf hs => h a w hf (hL ▸ hs.sel js hn)
theorem qj {σ τ : Type} {c3 : Cx} {d : List Deferred} {l : Ko} {L : Jr} {Xb : XP} {I : σ → Prop} {LI : σ → Jr} {E : Code → τ → Prop} {LE : τ → Jr} {pc : List PanicEntry → Prop} (s : σ) (h : I s) (hL : L.Sublist (LI s) ∧ (LI s).Sublist L) : HQ c3 d l L Xb (vo c3 Xb I LI E LE pc .normal) := fun a w hf hs => ⟨s, h, hs.weakL hL.2⟩
theorem row_some {sz n : Nat} {xs : List Value} {row : Vw} (h : rowOk sz n xs row) (h0 : 0 < n) : ∃ r cap sp, row = some (r, cap, sp) := by
  cases row with
  | none => have := h.1; omega
  | some q => obtain ⟨r, cap, sp⟩ := q; exact ⟨r, cap, sp, rfl⟩
def vp (s : BS) (TY : List Ty) (i : Nat) (pre : List Nat) : List (Ty × Nat × Nat) := KF (TY.take i) 0 (pre ++ [s.length])
structure PInv (s : BS) (H : Nat) (TY : List Ty) (i A la : Nat) (op : Int) (pre : List Nat) : Prop where
  le : i ≤ TY.length
  cv : pre.length = cV (TY.take i)
  opv : op = Vj (TY.take i)
  at_ : (A : Int) = Kg (TY.take i)
  off : QD s H TY 0 H false = (QD s H (TY.drop i) A la (decide (0 ≤ op))).map (pre ++ ·)
section
variable {s : BS} {H : Nat} {TY : List Ty} {i A la : Nat} {op : Int} {pre : List Nat} {x : Ty}
theorem PInv.start : PInv s H TY 0 0 H (-1) [] := ⟨Nat.zero_le _, rfl, rfl, rfl, by rw [List.drop_zero, show decide ((0 : Int) ≤ -1) = false from rfl]; cases QD s H TY 0 H false <;> rfl⟩
theorem Kt {α : Type} {l : List α} {i : Nat} {x : α} (h : l[i]? = some x) : l.take (i + 1) = l.take i ++ [x] := by rw [List.take_add_one, h]; rfl
theorem KN {α : Type} {l : List α} {i : Nat} {x : α} (h : l[i]? = some x) : l.drop i = x :: l.drop (i + 1) := by
  obtain ⟨h1, rfl⟩ := List.getElem?_eq_some_iff.1 h
  exact List.drop_eq_getElem_cons h1
theorem Zt (l : List Ty) : 0 ≤ Kg l := (j0 l).1
theorem PInv.bound (h : PInv s H TY i A la op pre) (hx : TY[i]? = some x) (hH : Kg TY = (H : Int)) : (A : Int) + WF x ≤ H := by
  have e : TY = TY.take i ++ (x :: TY.drop (i + 1)) := by rw [← KN hx, List.take_append_drop]
  rw [e, V0, Kg] at hH
  have := Zt (TY.drop (i + 1))
  have := h.at_
  omega
theorem PInv.len (h : PInv s H TY i A la op pre) : (vp s TY i pre).length = i := by unfold vp; rw [qf, List.length_take, Nat.min_eq_left h.le]
theorem PInv.fix (h : PInv s H TY i A la op pre) (hx : TY[i]? = some x) (hf : JK x = true) (hz : ∀ y ∈ TY, JK y = true → 0 ≤ JV y) : PInv s H TY (i + 1) (A + (JV x).toNat) la op pre ∧ vp s TY (i + 1) pre = vp s TY i pre ++ [(x, A, A + (JV x).toNat)] := by
  have h0 := hz x (List.mem_of_getElem? hx) hf
  have hlt := (List.getElem?_eq_some_iff.1 hx).1
  have h1 := h.off
  rw [KN hx, QD, if_pos hf] at h1; refine ⟨⟨hlt, ?_, ?_, ?_, h1⟩, ?_⟩
  · rw [Kt hx, xU, if_pos hf]; exact h.cv
  · rw [Kt hx, ZK, if_pos hf]; exact h.opv
  · rw [Kt hx, V0, Kg, Kg, WF, if_pos hf, ← h.at_]; omega
  · unfold vp
    rw [Kt hx, qh hf _ 0 _ (fun y hy => hz y (List.mem_of_mem_take hy)) A (by rw [h.at_]; simp)]
theorem PInv.bad (h : PInv s H TY i A la op pre) (hx : TY[i]? = some x) (hf : JK x = false) {v : Nat} (hv : v = W8 ((s.drop A).take 4)) (hb : (¬ 0 ≤ op ∧ v ≠ H) ∨ v < la ∨ s.length < v) : QD s H TY 0 H false = none := by
  subst hv
  rw [h.off, KN hx, QD, if_neg (by rw [hf]; decide), if_pos (by
    rcases hb with ⟨h1, h2⟩ | h1
    · exact .inl ⟨by simp [h1], h2⟩
    · exact .inr h1)]
  rfl
theorem PInv.var (h : PInv s H TY i A la op pre) (hx : TY[i]? = some x) (hf : JK x = false) {v : Nat} (hv : v = W8 ((s.drop A).take 4)) (h1 : 0 ≤ op ∨ v = H) (h2 : la ≤ v) (h3 : v ≤ s.length) :
    PInv s H TY (i + 1) (A + 4) v i (pre ++ [v]) ∧ (op = -1 → vp s TY (i + 1) (pre ++ [v]) = vp s TY i pre ++ [(x, v, s.length)]) ∧
      (∀ j : Nat, op = (j : Int) → ∃ x0 f0, (vp s TY i pre)[j]? = some (x0, f0, s.length) ∧ vp s TY (i + 1) (pre ++ [v]) = (vp s TY i pre).set j (x0, f0, v) ++ [(x, v, s.length)]) := by
  have hlt := (List.getElem?_eq_some_iff.1 hx).1
  have hn : ¬ JK x = true := by rw [hf]; decide
  have hlv : W8 ((s.drop A).take 4) = v := hv.symm
  have ho := h.off
  rw [KN hx, QD, if_neg hn, hlv, if_neg (by
    rintro (⟨g1, g2⟩ | g | g)
    · simp only [decide_eq_false_iff_not] at g1; omega
    · omega
    · omega), Option.map_map] at ho
  have hps : vp s TY (i + 1) (pre ++ [v]) = KF (TY.take i) 0 (pre ++ [v]) ++ [(x, v, s.length)] := by
    unfold vp
    rw [Kt hx, List.append_assoc]; exact qi hn v s.length _ 0 pre h.cv
  refine ⟨⟨hlt, ?_, ?_, ?_, ?_⟩, fun e => ?_, fun j e => ?_⟩
  · rw [Kt hx, xU, if_neg hn, List.length_append, h.cv]; rfl
  · rw [Kt hx, ZK, if_neg hn, List.length_take, Nat.min_eq_left h.le]
  · rw [Kt hx, V0, Kg, Kg, WF, if_neg hn, ← h.at_]; omega
  · rw [ho, show decide (0 ≤ (i : Int)) = true by simp]
    congr 1
    funext r
    simp
  · rw [hps, ZL _ 0 (pre ++ [v]) (pre ++ [s.length]) (by rw [← h.opv]; exact e)]; rfl
  · obtain ⟨x0, f0, g1, g2⟩ := wH v s.length (TY.take i) 0 pre j h.cv (by rw [← h.opv]; exact e)
    exact ⟨x0, f0, g1, by rw [hps, g2]; rfl⟩
theorem PInv.done (h : PInv s H TY TY.length A la op pre) : vp s TY TY.length pre = KF TY 0 (pre ++ [s.length]) ∧ QD s H TY 0 H false = if ¬ 0 ≤ op ∧ H ≠ s.length then none else some (pre ++ [s.length]) := by
  refine ⟨by unfold vp; rw [List.take_length], ?_⟩; rw [h.off, List.drop_length, QD]
  by_cases hc : ¬ 0 ≤ op ∧ H ≠ s.length
  · rw [if_pos hc, if_pos ⟨by simp [hc.1], hc.2⟩]; rfl
  · rw [if_neg hc, if_neg (by rintro ⟨g1, g2⟩; exact hc ⟨by simpa using g1, g2⟩)]; rfl
end
abbrev Y9 (k n : Int) (ins : List Ty) (s : BS) : List (Ty × Nat × Nat) := KF (Kx k ins (JW k n ins s).1) 0 (QV k n ins s).1
section
variable {k n : Int} {ins : List Ty} {s : BS} {M H : Nat}
theorem j7 (h : (JW k n ins s).2 ≠ 0) : (QV k n ins s).2 = (JW k n ins s).2 := by unfold QV; rw [if_pos h]
theorem Jg0 (h0 : (JW k n ins s).2 = 0) (hM : M = (JW k n ins s).1) (hH : Kg (Kx k ins M) = (H : Int)) (h : s.length < H) : (QV k n ins s).2 = 2 := by
  unfold QV; rw [if_neg (by rw [h0]; decide), ← hM, hH, if_pos (by omega)]
theorem xV (h0 : (JW k n ins s).2 = 0) (hM : M = (JW k n ins s).1) (hH : Kg (Kx k ins M) = (H : Int)) (h : H ≤ s.length) : QV k n ins s = match QD s H (Kx k ins M) 0 H false with | none => ([], 2) | some os => (os, 0) := by
  unfold QV; rw [if_neg (by rw [h0]; decide), ← hM, hH, if_neg (by omega), Int.toNat_natCast]
  cases QD s H (Kx k ins M) 0 H false <;> rfl
theorem Jg1 (h0 : (JW k n ins s).2 = 0) (hM : M = (JW k n ins s).1) (hH : Kg (Kx k ins M) = (H : Int)) (h : H ≤ s.length) (ho : QD s H (Kx k ins M) 0 H false = none) : (QV k n ins s).2 = 2 := by
  rw [xV h0 hM hH h, ho]
end
set_option maxHeartbeats 2000000 in
theorem Jqz {R : Jr} {k n : Int} {p : Pl} {ins : List Ty} {s : BS} (ht : Ty.In R (.mk k n p ins)) (hc : V2 (.mk k n p ins) 0 = 0) (hk3 : k = 3 ∨ k = 4 ∨ k = 7) (hl : s.length ≤ 100000) :
    PureX (α := { row : Vw // rowOk 5 (Y9 k n ins s).length (Xw (Y9 k n ins s)) row }) Tryz.prog 147 [Ty.val (.mk k n p ins), J5 s].toArray ((QV k n ins s).2 = 0) (fun v => (QV k n ins s).2 ≠ 0 ∧ v = zf (QV k n ins s).2) (fun x => JE (Y9 k n ins s).length x.1) (fun x => JX 162 (Xw (Y9 k n ins s)) x.1) R := by
  obtain ⟨hk8, ho, _, _⟩ := QP hc
  have hmny := Jtw ht hc hk3 hl
  have hmok := vn (s := s) hk8 ho hk3
  have hmX := wy (s := s) hk8 ho hk3
  obtain ⟨M, hM⟩ : ∃ M, M = (JW k n ins s).1 := ⟨_, rfl⟩
  rw [← hM] at hmny hmok hmX
  obtain ⟨TY, hTY⟩ : ∃ TY, TY = Kx k ins M := ⟨_, rfl⟩
  have hTl : TY.length = M := by rw [hTY, Xt]
  have hzz : ∀ z ∈ TY, JK z = true → 0 ≤ JV z := fun z _ hz => by have := j4 hz; omega
  have hbl := Zt TY
  obtain ⟨H, hH⟩ : ∃ H, H = (Kg TY).toNat := ⟨_, rfl⟩
  have hHi : Kg TY = (H : Int) := by omega
  have hHi' : Kg (Kx k ins M) = (H : Int) := by rw [← hTY]; exact hHi
  refine xQ Tryz.func147 rfl rfl fun w => ?_; refine Wg fun K1 hK1 => ?_; refine Jb (Jp (cs := #[_, _, _]) rfl rfl rfl rfl fun r1 => (Jp (cs := #[_]) rfl rfl rfl rfl fun r2 => ?_)); refine Jj rfl ?_; refine Jh (hK1 _ _ _ _ ?_); refine Wg fun K2 hK2 => ?_; refine Jb (LS 2 [1, 0] rfl rfl ?_); refine KT rfl rfl rfl (enters_of Tryz.func185 (by kernel_rfl) rfl) hmny (fun q hq => Or.inr hq) (fun hm0 _ => ?_) (fun v hv => Qo rfl rfl (by rw [j7 hv.1]; exact hv))
  have hM5 := (hmok hm0).1
  have hX := hmX hm0
  have hti := fun i (h : i < M) => ht.sub _ (Qp (hX i h)).2
  have hbg := Jcn ht (m := M) (by omega) hX
  rw [hHi'] at hbg; refine Jj rfl ?_; refine Jh (hK2 _ _ _ _ ?_); refine Wg fun K3 hK3 => ?_; refine Jb (LS 2 [1] rfl rfl (Ji rfl rfl rfl (enters_of Tryz.func163 (by kernel_rfl) rfl) hbg (fun q hq => Or.inr hq) ?_)); refine Js (cs := #[_]) rfl rfl rfl rfl fun r3 => ?_
  refine LT 0 rfl rfl ?_; refine Jh (hK3 _ _ _ _ ?_); refine Wg fun K4 hK4 => ?_; refine Jb (LS 2 [0, 1] rfl rfl (LR rfl (JY rfl rfl) ?_)); refine JZ rfl ?_; refine KT rfl rfl rfl (enters_of Tryz.func94 (by kernel_rfl) rfl) (VA (_) 2) (fun q hq => nomatch hq) (fun hok _ => ?_) (fun v hv => Qo rfl rfl (Ww (Jg0 hm0 hM hHi' (by have := Z2.1 hv.1; omega)) (by decide) hv))
  have hHl : H ≤ s.length := by have := Z1.mp hok; omega
  refine Jh (hK4 _ _ _ _ ?_); refine Wg fun K5 hK5 => ?_; refine Jb (Js (cs := #[_]) rfl rfl rfl rfl fun r4 => ?_); refine Jh (hK5 _ _ _ _ ?_); refine Wg fun K6 hK6 => ?_
  refine JU [(r3, .cells #[.int .i64 (H : Int)] 3 (0, 0))] [(0, .pure), (1, .grow (Wa zD (.cells #[.int .i64 0] 3 (0, 0)))), (2, .grow (Wa zD (.cells #[.int .i64 0] 3 (0, 0)))), (3, .grow (Wa zD (.cells #[.int .i64 0] 3 (0, 0)))), (4, .turn), (5, .turn), (6, .turn)] 7 [0, 1, 2, 3, 4, 5, 6] (by kernel_rfl) (by kernel_rfl) (by first | exact (fun _ h => absurd h List.not_mem_nil) | simp [SubS] | (intro p hp; simp [hp])) ?_; refine Jz (k := 0) rfl rfl rfl rfl rfl (fun _ hS => (Jm rfl (.inl (hS _ (Ky (n := 0) rfl))) rfl rfl)) ?_; refine Ya (k := 1) (cs := #[_]) rfl rfl rfl rfl rfl rfl fun r5 => ?_; refine Ya (k := 2) (cs := #[_]) rfl rfl rfl rfl rfl rfl fun r6 => ?_; refine Ya (k := 3) (cs := #[_]) rfl rfl rfl rfl rfl rfl fun r7 => ?_
  refine WC (k := 4) (q := 2) rfl rfl rfl rfl rfl rfl rfl rfl rfl (by first | (simp only [List.setIfInBounds_toArray, List.set_cons_zero, List.set_cons_succ]; exact rfl) | exact rfl) (by first | (simp only [List.set_cons_zero, List.set_cons_succ]; exact rfl) | exact rfl) (by first | exact (fun _ h => absurd h List.not_mem_nil) | simp [SubS] | (intro p hp; simp [hp])) ?_
  refine WC (k := 5) (q := 1) rfl rfl rfl rfl rfl rfl rfl rfl rfl (by first | (simp only [List.setIfInBounds_toArray, List.set_cons_zero, List.set_cons_succ]; exact rfl) | exact rfl) (by first | (simp only [List.set_cons_zero, List.set_cons_succ]; exact rfl) | exact rfl) (by first | exact (fun _ h => absurd h List.not_mem_nil) | simp [SubS] | (intro p hp; simp [hp])) ?_
  refine WC (k := 6) (q := 0) rfl rfl rfl rfl rfl rfl rfl rfl rfl (by first | (simp only [List.setIfInBounds_toArray, List.set_cons_zero, List.set_cons_succ]; exact rfl) | exact rfl) (by first | (simp only [List.set_cons_zero, List.set_cons_succ]; exact rfl) | exact rfl) (by first | exact (fun _ h => absurd h List.not_mem_nil) | simp [SubS] | (intro p hp; simp [hp])) ?_; refine KD ?_; refine Jh (hK6 _ _ _ _ ?_); refine Jgt fun K7 hK7 => ?_; refine Wg fun K8 hK8 => ?_; refine Jb (LS 2 [6] rfl rfl (Vk rfl rfl rfl (enters_of Tryz.func164 (by kernel_rfl) rfl) (xG (.mk k n p ins) (M : Int)) fun pp => ?_))
  obtain ⟨ra, rb⟩ := pp
  change HL _ _ _ (ZE rb M :: VF ra (.mk k n p ins) :: _) _ _ _ _; refine Jh (hK8 _ _ _ _ ?_); refine Jit ?_; refine Jqy [4, 3, 2, 5, 0, 1, 6, 7, 8] (L' := [_, _, _, _, _, _, _, _, _]) (by decide) rfl ?_
  refine Jiu (τ := Unit) (fun ch => ∃ v, ((QV k n ins s).2 ≠ 0 ∧ v = zf (QV k n ins s).2) ∧ ch = wz v) (fun i (q : Nat × Nat × Nat × Int × Vw × List Nat) => q.1 = i ∧ PInv s H TY q.1 q.2.1 q.2.2.1 q.2.2.2.1 q.2.2.2.2.2 ∧ rowOk 5 q.1 (Xw (vp s TY q.1 q.2.2.2.2.2)) q.2.2.2.2.1) (fun q => (r5, .cells #[.int .i64 (q.2.1 : Int)] 3 (0, 0)) :: (r6, .cells #[.int .i64 (q.2.2.1 : Int)] 3 (0, 0)) :: (r7, .cells #[.int .i64 q.2.2.2.1] 3 (0, 0)) :: (r4, .cells #[JE q.1 q.2.2.2.2.1] 159 (0, 0)) :: JX 162 (Xw (vp s TY q.1 q.2.2.2.2.2)) q.2.2.2.2.1) (fun _ _ => False) (fun _ => []) [ZE rb M, VF ra (.mk k n p ins), _, _, _] (0, 0, H, -1, none, []) rfl rfl (enters_of Tryz.func230 (by kernel_rfl) rfl) (Jm4 ht (by omega) hX ra rb) (by rintro _ _ _ ⟨_, rfl, _⟩; rfl) rfl (fun q hq => by rcases List.mem_cons.1 hq with rfl | hq; exact .inl (by simp); rcases List.mem_cons.1 hq with rfl | hq; exact .inl (by simp); exact .inr hq) rfl ⟨rfl, PInv.start, rfl, rfl⟩ ?_ ?_ ?_ ?_
  · rintro q Xr Xb w3 i _ _ ⟨i2, A, la, op, row, pre⟩ ⟨hii, rfl, rfl⟩ ⟨he, hinv, hrow⟩ Kr hKr
    simp only at he hinv hrow; subst he
    have hti1 := hti i2 hii
    have hxx : TY[i2]? = some (JM k 0 ins i2) := by rw [hTY]; unfold Kx; rw [List.getElem?_map, List.getElem?_range hii]; rfl
    have hsz := vh hti1
    have hbd := hinv.bound hxx hHi
    have hbt := vi (JM k 0 ins i2)
    have hbe := xF (JM k 0 ins i2)
    unfold itV
    obtain ⟨x, hx⟩ : ∃ x, x = JM k 0 ins i2 := ⟨_, rfl⟩
    rw [← hx] at hti1 hxx hsz hbd hbt hbe ⊢
    obtain ⟨y, hy⟩ : ∃ y : Nat, WF x = (y : Int) := ⟨_, (Int.toNat_of_nonneg (by omega)).symm⟩
    rw [hy] at hsz hbd hbt hbe
    obtain ⟨xk, xn, xp, xi⟩ := x
    refine Wk fun K9 hK9 => Jb ?_; refine Jj rfl ?_; refine Jh (hK9 _ _ _ _ ?_); refine Jb (Js (cs := #[_, _, _]) rfl rfl rfl rfl fun r8 => ?_)
    refine QT (k := 0) (n := 3) (cs' := #[_, _, _]) (vs := #[_, _, _]) rfl rfl rfl rfl rfl rfl rfl (by exact Nat.le_of_ble_eq_true rfl) rfl (by first | (simp only [List.set_cons_zero, List.set_cons_succ]; exact rfl) | exact rfl) ?_; refine Jh ?_; refine hKr _ _ ?_; clear hKr; refine Jv (Wk fun K10 hK10 => Jb (LR rfl (Ju (xs := Ty.cells (.mk xk xn xp xi)) (n := 3) rfl (Ja (k := 0) rfl) rfl rfl (Ty.len _)) ?_)); refine Ji rfl rfl rfl (enters_of Tryz.func165 (by kernel_rfl) rfl) hsz (fun q hq => Or.inr (List.mem_append_right _ hq)) ?_; refine LS 5 [] rfl rfl ?_; refine Jh (hK10 _ _ _ _ ?_); refine Wk fun K11 hK11 => Jb ?_; refine LR rfl (Ju (xs := Ty.cells (.mk xk xn xp xi)) (n := 3) rfl (Ja (k := 0) rfl) rfl rfl (Ty.len _)) ?_; refine LS 4 [1, 1] rfl rfl ?_; refine J1 (show _ = Value.int .i64 ((A + y : Nat)) from congrArg (Value.int .i64) (by rw [wrap_i64 (by omega) (by omega)]; omega)) ?_; refine LR rfl (JJ (r := [_, _, _, _, _]) rfl rfl) ?_; refine Js (cs := #[_, _, _, _, _]) rfl rfl rfl rfl fun r9 => ?_
    refine LT 0 rfl rfl ?_; refine Jh (hK11 _ _ _ _ ?_); refine Wk fun K12 hK12 => ?_; refine Wk fun K13 hK13 => Jb ?_; refine LS 2 [] rfl rfl ?_; refine Jh (hK13 _ _ _ _ ?_); refine Jd rfl (fun h14 => ?_) (fun h14 => ?_)
    · try simp only [ZZ] at h14
      refine Wk fun K15 hK15 => ?_
      have hff : JK (Ty.mk xk xn xp xi) = false := ‹_›
      rw [hff, if_neg (by decide)] at hbe; refine Jb (LR rfl (Jm rfl (J9 (k := 3) rfl) rfl rfl) (LR rfl (Jm rfl (Ja (k := 2) rfl) rfl rfl) ?_)); refine LR rfl (V4 (kl := some (.i64, (A : Int))) (kh := none) (m := A) (n := s.length) rfl rfl rfl rfl rfl rfl (by omega) (by omega) (show _ = s.drop A from by rw [List.take_length])) ?_; refine JF rfl rfl rfl (enters_of Tryz.func186 (by kernel_rfl) rfl) (Jmw (s := s.drop A) (by rw [List.length_drop]; omega)) ?_
      obtain ⟨v, hv⟩ : ∃ v, v = W8 ((s.drop A).take 4) := ⟨_, rfl⟩
      rw [← hv]; refine LS 1 [] rfl rfl ?_
      refine LT 0 rfl rfl ?_; refine Jh (hK15 _ _ _ _ ?_); refine Wk fun K16 hK16 => Jb ?_; refine LS 5 [0, 3] rfl rfl ?_
      refine JH 55 rfl (fun hb17 => ?_) (fun hb17 => ?_) <;> (try simp only [ZZ] at hb17) <;> first | (refine LR rfl (JP rfl rfl rfl) ?_) | (refine LK rfl ?_)
      all_goals refine LW 1 [0] rfl rfl ?_
      all_goals first
        | (refine LR rfl (Jm rfl (J9 (k := 3) rfl) rfl rfl) ?_)
        | (refine LK rfl ?_)
      all_goals first
        | (refine LR rfl (JY rfl rfl) ?_)
        | (refine LK rfl ?_)
      all_goals refine LW 3 [] rfl rfl ?_
      all_goals first
        | (refine LK rfl ?_)
        | (refine JH 62 rfl (fun hb22 => ?_) (fun hb22 => ?_) <;> (try simp only [ZZ] at hb22) <;> first | (refine LR rfl (Jm rfl (Ja (k := 0) rfl) rfl rfl) ?_) | (refine LR rfl (Jm rfl (Ja (k := 1) rfl) rfl rfl) ?_) | (refine LR rfl (Jm rfl (Ja (k := 2) rfl) rfl rfl) ?_) | (refine LR rfl (Jm rfl (Ja (k := 3) rfl) rfl rfl) ?_) | (refine LR rfl (Jm rfl (Ja (k := 4) rfl) rfl rfl) ?_) | (refine LR rfl (Jm rfl (Ja (k := 5) rfl) rfl rfl) ?_) | (refine LR rfl (Jm rfl (Ja (k := 6) rfl) rfl rfl) ?_) | (refine LR rfl (Jm rfl (J9 (k := 0) rfl) rfl rfl) ?_) | (refine LR rfl (Jm rfl (J9 (k := 1) rfl) rfl rfl) ?_) | (refine LR rfl (Jm rfl (J9 (k := 2) rfl) rfl rfl) ?_) | (refine LR rfl (Jm rfl (J9 (k := 3) rfl) rfl rfl) ?_) | (refine LR rfl (Jm rfl (J9 (k := 4) rfl) rfl rfl) ?_) | (refine LK rfl ?_))
      all_goals refine LW 2 [] rfl rfl ?_
      all_goals first
        | (refine LK rfl ?_)
        | (refine JH 65 rfl (fun hb25 => ?_) (fun hb25 => ?_) <;> (try simp only [ZZ] at hb25) <;> first | (refine LR rfl (JP rfl rfl rfl) ?_) | (refine LK rfl ?_))
      all_goals refine LW 1 [0] rfl rfl ?_
      all_goals first
        | (refine LR rfl (Jm rfl (J9 (k := 2) rfl) rfl rfl) ?_)
        | (refine LK rfl ?_)
      all_goals refine LW 3 [] rfl rfl ?_
      all_goals refine KT rfl rfl rfl (enters_of Tryz.func94 (by kernel_rfl) rfl) (VA (_) 2) (fun q hq => nomatch hq) (fun hok _ => ?_) (fun v1 hv1 => by first | exact Bool.noConfusion hv1.1 | ((repeat (first | refine Jmk ?_ | refine Jio ?_)); exact Jir ⟨v1, Ww (Jg1 hm0 hM hHi' hHl (by rw [← hTY]; exact hinv.bad hxx hff hv (by first | (refine .inr (.inl ?_); omega) | (refine .inr (.inr ?_); omega) | (refine .inl ⟨?_, fun e => ?_⟩; omega; have := Z4.1 hv1.1; omega)))) (by decide) hv1, rfl⟩))
      all_goals try exact Bool.noConfusion hok
      all_goals refine Jh ?_
      all_goals (
       refine hK16 _ _ _ _ ?_; refine Wk fun K30 hK30 => ?_; refine Wk fun K31 hK31 => ?_
       obtain ⟨hvi, hvn, hvj⟩ := hinv.var hxx hff hv (by first | (left; omega) | (right; have := Z3.1 hok; omega)) (by omega) (by omega)
       refine Jb (LS 2 [4] rfl rfl ?_); refine Jh (hK31 _ _ _ _ ?_); refine Jd rfl (fun h32 => ?_) (fun h32 => ?_)
       try simp only [ZZ] at h32
       obtain ⟨j, hj0⟩ : ∃ j : Nat, op = (j : Int) := ⟨op.toNat, by omega⟩
       have hj : j < i2 := by have := hinv.opv; have := Yk (TY.take i2); rw [List.length_take, Nat.min_eq_left hinv.le] at this; omega
       obtain ⟨rr, cap, sp, rfl⟩ := row_some hrow (by omega)
       obtain ⟨x0, f0, g1, g2⟩ := hvj j hj0
       have hjp : j * 5 + 4 < (Xw (vp s TY i2 pre)).length := by rw [Jc4, hinv.len]; omega
       have hjl : j * 5 + 4 < (Xw (vp s TY i2 pre) ++ sp).length := by rw [List.length_append]; omega
       have hrowJ : rowOk 5 i2 (Xw ((vp s TY i2 pre).set j (x0, f0, v))) (some (rr, cap, sp)) := ⟨by rw [Jc4, List.length_set, hinv.len], hrow.2⟩
       refine Jb (LR rfl (Jm (v := JE i2 (some (rr, cap, sp))) rfl (Ja (k := 5) rfl) rfl rfl) (LR rfl (Jm rfl (Ja (k := 4) rfl) rfl rfl) ?_))
       refine LS 2 [0] rfl rfl ?_; refine LR rfl (Jdx (row := some (rr, cap, sp)) (j := j) (m := 5) (off' := j * 5) rfl hrow rfl rfl rfl hj0 hj rfl) ?_; refine LR rfl (KG (off' := j * 5 + 4) rfl rfl rfl) ?_; refine Kz (k := 6) (cs' := (Xw ((vp s TY i2 pre).set j (x0, f0, v)) ++ sp).toArray) rfl rfl rfl rfl rfl rfl (by rw [List.getElem?_toArray, List.getElem?_eq_getElem hjl]; rfl) (Js0 _) (by rw [List.setIfInBounds_toArray, List.set_append_left _ _ hjp, Jc5 v g1]) rfl ?_; refine Jh (hK30 _ _ _ _ ?_); refine Jb (LR rfl (Jm rfl (J9 (k := 3) rfl) rfl rfl) (LR rfl (JY rfl rfl) ?_)); refine LS 4 [0] rfl rfl ?_
       refine LT 0 rfl rfl ?_
       refine LT 3 rfl rfl ?_
       refine Kz (k := 4) rfl rfl rfl rfl rfl rfl rfl rfl (by first | (simp only [List.setIfInBounds_toArray, List.set_cons_zero, List.set_cons_succ]; exact rfl) | exact rfl) (by first | (simp only [List.set_cons_zero, List.set_cons_succ]; exact rfl) | exact rfl) ?_; refine Jh (hK12 _ _ _ _ ?_); refine Wk fun K33 hK33 => Jb ?_; refine LR rfl (Jm (v := JE i2 (some (rr, cap, sp))) rfl (Ja (k := 5) rfl) rfl rfl) ?_; refine LR rfl (J0 (vs := [_, _, _, _, _]) rfl (Ja (k := 0) rfl) rfl rfl rfl rfl) ?_; refine Ka (vs := [_]) (zs := [_, _, _, _, _]) (r := [_, _, _, _, _]) rfl rfl rfl rfl rfl rfl rfl rfl rfl (by rw [Ku]; exact rfl) rfl fun r10 => ?_; refine Km (L0 := [_, _, _, _, _, _, _]) (xs := Xw ((vp s TY i2 pre).set j (x0, f0, v))) (row := some (rr, cap, sp)) (n := i2) (sz := 5) (b := 56) (news := [_, _, _, _, _]) (List.perm_append_comm (l₁ := [_, _, _, _, _, _, _])) rfl rfl rfl rfl (Ja (k := 0) rfl) rfl rfl rfl rfl rfl (by decide) rfl rfl rfl (by decide) hrowJ (by omega) (by omega) fun ra2 cap2 sp2 hra => ?_; refine Kz (k := 7) (cs' := #[JE (i2 + 1) (some (ra2, cap2, sp2))]) rfl rfl rfl rfl rfl rfl rfl rfl rfl rfl ?_; refine Jh (hK33 _ _ _ _ ?_); refine Jb (LS 3 [4] rfl rfl ?_); refine J1 (show _ = Value.int .i64 ((A + y : Nat)) from congrArg (Value.int .i64) (by rw [wrap_i64 (by omega) (by omega)]; omega)) ?_
       refine LT 4 rfl rfl ?_; refine Jh ?_; refine Jk (Vc [4, 5, 6, 7, 0] (L' := [_, _, _, _, _]) (by decide) rfl ?_)
       (obtain rfl : y = 4 := by omega
        exact qj (i2 + 1, A + 4, v, (i2 : Int), some (ra2, cap2, sp2), pre ++ [v]) ⟨rfl, hvi, by simp only; rw [g2, Xe]; exact hra⟩ (by simp only; rw [g2, Xe]; exact ⟨List.Sublist.refl _, List.Sublist.refl _⟩))
       try simp only [ZZ] at h32
       refine Jg (hK30 _ _ _ _ ?_); refine Jb (LR rfl (Jm rfl (J9 (k := 3) rfl) rfl rfl) (LR rfl (JY rfl rfl) ?_)); refine LS 4 [0] rfl rfl ?_
       refine LT 0 rfl rfl ?_
       refine LT 3 rfl rfl ?_
       refine Kz (k := 4) rfl rfl rfl rfl rfl rfl rfl rfl (by first | (simp only [List.setIfInBounds_toArray, List.set_cons_zero, List.set_cons_succ]; exact rfl) | exact rfl) (by first | (simp only [List.set_cons_zero, List.set_cons_succ]; exact rfl) | exact rfl) ?_; refine Jh (hK12 _ _ _ _ ?_); refine Wk fun K34 hK34 => Jb ?_; refine LR rfl (Jm (v := JE i2 row) rfl (Ja (k := 5) rfl) rfl rfl) ?_; refine LR rfl (J0 (vs := [_, _, _, _, _]) rfl (Ja (k := 0) rfl) rfl rfl rfl rfl) ?_; refine Ka (vs := [_]) (zs := [_, _, _, _, _]) (r := [_, _, _, _, _]) rfl rfl rfl rfl rfl rfl rfl rfl rfl (by rw [Ku]; exact rfl) rfl fun r11 => ?_; refine Km (L0 := [_, _, _, _, _, _, _]) (xs := Xw (vp s TY i2 pre)) (row := row) (n := i2) (sz := 5) (b := 56) (news := [_, _, _, _, _]) (List.perm_append_comm (l₁ := [_, _, _, _, _, _, _])) rfl rfl rfl rfl (Ja (k := 0) rfl) rfl rfl rfl rfl rfl (by decide) rfl rfl rfl (by decide) hrow (by omega) (by omega) fun ra2 cap2 sp2 hra => ?_; refine Kz (k := 7) (cs' := #[JE (i2 + 1) (some (ra2, cap2, sp2))]) rfl rfl rfl rfl rfl rfl rfl rfl rfl rfl ?_; refine Jh (hK34 _ _ _ _ ?_); refine Jb (LS 3 [4] rfl rfl ?_); refine J1 (show _ = Value.int .i64 ((A + y : Nat)) from congrArg (Value.int .i64) (by rw [wrap_i64 (by omega) (by omega)]; omega)) ?_
       refine Kz (k := 4) rfl rfl rfl rfl rfl rfl rfl rfl (by first | (simp only [List.setIfInBounds_toArray, List.set_cons_zero, List.set_cons_succ]; exact rfl) | exact rfl) (by first | (simp only [List.set_cons_zero, List.set_cons_succ]; exact rfl) | exact rfl) ?_; refine Jh ?_; refine Jk (Vc [4, 5, 6, 7, 0] (L' := [_, _, _, _, _]) (by decide) rfl ?_)
       (obtain rfl : y = 4 := by omega
        have g3 := hvn (by have := hinv.opv; have := Yk (TY.take i2); omega)
        exact qj (i2 + 1, A + 4, v, (i2 : Int), some (ra2, cap2, sp2), pre ++ [v]) ⟨rfl, hvi, by simp only; rw [g3, Xe]; exact hra⟩ (by simp only; rw [g3, Xe]; exact ⟨List.Sublist.refl _, List.Sublist.refl _⟩))
       skip)
    try simp only [ZZ] at h14
    refine Jg (hK12 _ _ _ _ ?_); refine Wk fun K35 hK35 => Jb ?_; refine LR rfl (Jm (v := JE i2 row) rfl (Ja (k := 5) rfl) rfl rfl) ?_; refine LR rfl (J0 (vs := [_, _, _, _, _]) rfl (Ja (k := 0) rfl) rfl rfl rfl rfl) ?_; refine Ka (vs := [_]) (zs := [_, _, _, _, _]) (r := [_, _, _, _, _]) rfl rfl rfl rfl rfl rfl rfl rfl rfl (by rw [Ku]; exact rfl) rfl fun r12 => ?_; refine Km (L0 := [_, _, _, _, _, _, _]) (xs := Xw (vp s TY i2 pre)) (row := row) (n := i2) (sz := 5) (b := 56) (news := [_, _, _, _, _]) (List.perm_append_comm (l₁ := [_, _, _, _, _, _, _])) rfl rfl rfl rfl (Ja (k := 0) rfl) rfl rfl rfl rfl rfl (by decide) rfl rfl rfl (by decide) hrow (by omega) (by omega) fun ra2 cap2 sp2 hra => ?_; refine Kz (k := 7) (cs' := #[JE (i2 + 1) (some (ra2, cap2, sp2))]) rfl rfl rfl rfl rfl rfl rfl rfl rfl rfl ?_; refine Jh (hK35 _ _ _ _ ?_); refine Jb (LS 3 [4] rfl rfl ?_); refine J1 (show _ = Value.int .i64 ((A + y : Nat)) from congrArg (Value.int .i64) (by rw [wrap_i64 (by omega) (by omega)]; omega)) ?_
    refine LT 4 rfl rfl ?_; refine Jh ?_; refine Jk (Vc [4, 5, 6, 7, 0] (L' := [_, _, _, _, _]) (by decide) rfl ?_)
    (have hfx : JK (Ty.mk xk xn xp xi) = true := ‹_›
     rw [hfx, if_pos rfl] at hbe
     obtain ⟨f1, f2⟩ := hinv.fix hxx hfx hzz
     rw [show (JV (Ty.mk xk xn xp xi)).toNat = y by omega] at f1 f2
     exact qj (i2 + 1, A + y, la, op, some (ra2, cap2, sp2), pre) ⟨rfl, f1, by simp only; rw [f2, Xe]; exact hra⟩ (by simp only; rw [f2, Xe]; exact ⟨List.Sublist.refl _, List.Sublist.refl _⟩))
  · rintro D i ⟨i2, A, la, op, row, pre⟩ hfi ⟨he, hinv, hrow⟩
    simp only at he hinv hrow
    have hin : i = M := hfi
    have he2 : i2 = TY.length := by omega
    subst he2
    have hfin := hinv.done
    refine Jk (hK7 _ _ _ _ ?_); refine Wg fun K36 hK36 => ?_; refine Jb (LR rfl (Jm (v := .int .i64 op) rfl (Ja (k := 3) rfl) rfl rfl) (LS 2 [] rfl rfl ?_))
    refine JH 96 rfl (fun hb37 => ?_) (fun hb37 => ?_) <;> (try simp only [ZZ] at hb37) <;> first | (refine LR rfl (Jm (v := .int .i64 (H : Int)) rfl (Or.inl (List.mem_cons_of_mem _ (List.mem_append_right _ (List.mem_cons_of_mem _ (List.mem_cons_of_mem _ List.mem_cons_self))))) rfl rfl) ?_) | (refine LK rfl ?_)
    all_goals first
      | (refine LR rfl (Jm (v := J5 s) rfl (Or.inl (List.mem_cons_of_mem _ (List.mem_append_right _ (List.mem_cons_of_mem _ (List.mem_cons_of_mem _ (List.mem_cons_of_mem _ List.mem_cons_self)))))) rfl rfl) ?_)
      | (refine LK rfl ?_)
    all_goals first
      | (refine LR rfl (JY rfl rfl) ?_)
      | (refine LK rfl ?_)
    all_goals refine LW 2 [] rfl rfl ?_
    all_goals refine KT rfl rfl rfl (enters_of Tryz.func94 (by kernel_rfl) rfl) (VA (_) 2) (fun q hq => nomatch hq) (fun hok _ => ?_) (fun v hv => by first | exact Bool.noConfusion hv.1 | exact Jcy (k := 0) rfl rfl (Qo rfl rfl (Ww (Jg1 hm0 hM hHi' hHl (by rw [← hTY]; exact (hfin.2).trans (if_pos ⟨by omega, fun e => by have := Z4.1 hv.1; omega⟩))) (by decide) hv)))
    all_goals refine Jh ?_
    all_goals (
     refine hK36 _ _ _ _ ?_; refine Wg fun K41 hK41 => ?_; refine Jb (LR rfl (Jm (v := JE TY.length row) rfl (Ja (k := 4) rfl) rfl rfl) (Jj rfl ?_)); refine Jh (hK41 _ _ _ _ ?_); refine Jmm ?_; refine Jc ?_
     have hpo := xV hm0 hM hHi' hHl
     rw [← hTY, hfin.2, if_neg (by first | (rintro ⟨g1, g2⟩; omega) | (rintro ⟨g1, g2⟩; have := Z3.1 hok; omega))] at hpo; simp only at hpo
     have hps : Y9 k n ins s = vp s TY TY.length pre := by unfold Y9; rw [hpo, ← hM, ← hTY, hfin.1]
     rw [hps]; refine QI (k := 0) rfl rfl ?_; refine Jx rfl rfl (.cons (J4 rfl) .nil) (fun w1 hs1 => ?_); exact .inl ⟨by rw [hpo], ⟨row, by rw [hinv.len]; exact hrow⟩, congrArg (fun m => Ending.returned (JE m row)) hinv.len.symm, hs1.weakL (.cons _ (.cons _ (.cons _ (.cons _ (.cons _ (List.sublist_append_left _ _))))))⟩
     skip)
  exact fun _ _ _ h => h.elim
  · rintro D _ ⟨v, hv, rfl⟩
    exact Jcy (k := 0) rfl rfl (Qo rfl rfl hv)
open Go.Proofs (Enters enters_of)
theorem zh : ∀ {l : List (Gf × BS)} {vs : List Vl} {f : Gf} {s : BS} {v : Vl}, V6 l = (vs, 0) → f s = (v, 0) → V6 (l ++ [(f, s)]) = (vs ++ [v], 0)
  | [], vs, f, s, v, h, hv => by
    rw [V6] at h
    obtain rfl := (Prod.mk.inj h).1
    rw [List.nil_append, V6, V6, hv, if_neg (by simp), if_neg (by simp)]; rfl
  | (f', s') :: l, vs, f, s, v, h, hv => by
    rw [V6] at h
    by_cases h1 : (f' s').2 ≠ 0
    · rw [if_pos h1] at h; exact absurd (Prod.mk.inj h).2 h1
    rw [if_neg h1] at h
    by_cases h2 : (V6 l).2 ≠ 0
    · rw [if_pos h2] at h; exact absurd (Prod.mk.inj h).2 h2
    rw [if_neg h2] at h
    obtain rfl := (Prod.mk.inj h).1
    have ih := zh (l := l) (vs := (V6 l).1) (Prod.ext rfl (Decidable.not_not.1 h2)) hv
    rw [List.cons_append, V6, if_neg h1, ih, if_neg (by simp)]; rfl
theorem Jc6 : ∀ {l r : List (Gf × BS)} {vs : List Vl} {f : Gf} {s : BS}, V6 l = (vs, 0) → (f s).2 ≠ 0 → (V6 (l ++ (f, s) :: r)).2 = (f s).2
  | [], r, vs, f, s, _, hv => by rw [List.nil_append, V6, if_pos hv]
  | (f', s') :: l, r, vs, f, s, h, hv => by
    rw [V6] at h
    by_cases h1 : (f' s').2 ≠ 0
    · rw [if_pos h1] at h; exact absurd (Prod.mk.inj h).2 h1
    rw [if_neg h1] at h
    by_cases h2 : (V6 l).2 ≠ 0
    · rw [if_pos h2] at h; exact absurd (Prod.mk.inj h).2 h2
    have ih := Jc6 (r := r) (l := l) (vs := (V6 l).1) (Prod.ext rfl (Decidable.not_not.1 h2)) hv
    rw [List.cons_append, V6, if_neg h1, if_pos (by rw [ih]; exact hv)]; exact ih
theorem wI {s : BS} {H : Nat} (hH : H ≤ s.length) : ∀ {ts : List Ty} {a la : Nat} {op : Bool} {os : List Nat}, QD s H ts a la op = some os → la ≤ s.length → (op = false → la = H) → (∀ x ∈ ts, JK x = true → 0 ≤ JV x) → (a : Int) + Kg ts = H → ∀ q ∈ KF ts a os, q.2.1 ≤ q.2.2 ∧ q.2.2 ≤ s.length
  | [], _, _, _, _, _, _, _, _, _, q, hq => by rw [KF] at hq; cases hq
  | x :: xs, a, la, op, os, h, hla, hop, hz, hb, q, hq => by
    have hz2 : ∀ y ∈ xs, JK y = true → 0 ≤ JV y := fun y hy => hz y (List.mem_cons_of_mem _ hy)
    have hn := Zt xs
    rw [Kg, WF] at hb; rw [QD] at h; rw [KF] at hq
    by_cases hf : JK x = true
    · rw [if_pos hf] at h hb hq
      have h0 := hz x List.mem_cons_self hf
      rcases List.mem_cons.1 hq with rfl | hq
      · simp only; omega
      · exact wI hH h hla hop hz2 (by omega) q hq
    · rw [if_neg hf] at h hb hq
      split at h
      · cases h
      · rename_i h1
        obtain ⟨r, h2, rfl⟩ := Option.map_eq_some_iff.1 h
        obtain ⟨o, r2, rfl, g1, g2, _⟩ := vl h2 (by omega) (fun h => by cases h)
        rcases List.mem_cons.1 hq with rfl | hq
        · exact ⟨g1, g2⟩
        · exact wI hH h2 (by omega) (fun h => by cases h) hz2 (by omega) q hq
def gq (s : BS) (q : Ty × Nat × Nat) : Gf × BS := (KM q.1, (s.take q.2.2).drop q.2.1)
theorem j8 {α β γ : Type} (f : α → β) (g : α → γ) : ∀ l : List α, (l.map f).zip (l.map g) = l.map fun a => (f a, g a)
  | [] => rfl
  | x :: xs => by rw [List.map_cons, List.map_cons, List.zip_cons_cons, j8 f g xs]; rfl
theorem Jq0 {k n : Int} {ins : List Ty} {s : BS} (hX : (JW k n ins s).2 = 0 → ∀ i, i < (JW k n ins s).1 → VV k 0 i < ins.length) :
    xN k n ins (Y8 ins) s = if (QV k n ins s).2 ≠ 0 then (v0L, (QV k n ins s).2) else if (V6 ((Y9 k n ins s).map (gq s))).2 ≠ 0 then (v0L, (V6 ((Y9 k n ins s).map (gq s))).2) else (KL (V6 ((Y9 k n ins s).map (gq s))).1 0, 0) := by
  unfold xN
  by_cases hm : (JW k n ins s).2 ≠ 0
  · rw [if_pos hm, if_pos (by rw [j7 hm]; exact hm), j7 hm]
  rw [if_neg hm]
  have hm0 := Decidable.not_not.1 hm
  have hX := hX hm0
  unfold Y9 QV
  rw [if_neg hm]
  by_cases hb : (s.length : Int) < Kg (Kx k ins (JW k n ins s).1)
  · rw [if_pos hb, if_pos hb, if_pos (by simp)]
  rw [if_neg hb, if_neg hb]
  generalize (JW k n ins s).1 = M at *
  cases QD s (Kg (Kx k ins M)).toNat (Kx k ins M) 0 (Kg (Kx k ins M)).toNat false with
  | none => simp
  | some os =>
    simp only [ne_eq, not_true_eq_false, if_false]
    have e : ((List.range M).map fun i => (Y8 ins).getD (VV k 0 i) g0).zip (V1 s (Kx k ins M) 0 os) = (KF (Kx k ins M) 0 os).map (gq s) := by
      have e1 : ((List.range M).map fun i => (Y8 ins).getD (VV k 0 i) g0) = (KF (Kx k ins M) 0 os).map fun q => KM q.1 := by
        have e2 : ((KF (Kx k ins M) 0 os).map Prod.fst).map KM = (Kx k ins M).map KM := by rw [qg]
        rw [List.map_map] at e2; rw [show (fun q : Ty × Nat × Nat => KM q.1) = KM ∘ Prod.fst from rfl, e2]
        unfold Kx
        rw [List.map_map]; exact List.map_congr_left fun i hi => vm (Qp (hX i (List.mem_range.1 hi))).1
      rw [e1, ZJ, j8]; rfl
    rw [e]
section
variable {k n : Int} {p : Pl} {ins : List Ty} {s : BS}
theorem g_w (h : JK (.mk k n p ins) = true ∧ (s.length : Int) ≠ JV (.mk k n p ins)) : KM (.mk k n p ins) s = (v0L, 2) := by rw [KM]; unfold ZG; rw [if_pos h]
variable (hnf : ¬ (JK (.mk k n p ins) = true ∧ (s.length : Int) ≠ JV (.mk k n p ins)))
include hnf
theorem g_1 (h1 : k = 1) : KM (.mk k n p ins) s = (wx (XN s), 0) := by rw [KM]; unfold ZG; rw [if_neg hnf, if_pos h1]
theorem g_2 (h1 : k ≠ 1) (h2 : k = 2) : KM (.mk k n p ins) s = if 1 < (s.getD 0 0).toNat then (v0L, 2) else (wx (XN s), 0) := by rw [KM]; unfold ZG; rw [if_neg hnf, if_neg h1, if_pos h2]
theorem g_5 (h1 : k ≠ 1) (h2 : k ≠ 2) (h5 : k = 5) : KM (.mk k n p ins) s = if ((JO s (8 * s.length)).drop n.toNat).any id then (v0L, 8) else (ZF (JO s n.toNat), 0) := by rw [KM]; unfold ZG; rw [if_neg hnf, if_neg h1, if_neg h2, if_pos h5]
theorem g_6 (h1 : k ≠ 1) (h2 : k ≠ 2) (h5 : k ≠ 5) (h6 : k = 6) : KM (.mk k n p ins) s = blT n s := by rw [KM]; unfold ZG; rw [if_neg hnf, if_neg h1, if_neg h2, if_neg h5, if_pos h6]; rfl
theorem Jwz (h1 : k ≠ 1) (h2 : k ≠ 2) (h5 : k ≠ 5) (h6 : k ≠ 6) (h8 : k = 8) (hs : s = []) : KM (.mk k n p ins) s = (v0L, 2) := by rw [KM]; unfold ZG; rw [if_neg hnf, if_neg h1, if_neg h2, if_neg h5, if_neg h6, if_pos h8, hs]
theorem g_r (h1 : k ≠ 1) (h2 : k ≠ 2) (h5 : k ≠ 5) (h6 : k ≠ 6) (h8 : k ≠ 8) : KM (.mk k n p ins) s = xN k n ins (Y8 ins) s := by rw [KM]; unfold ZG; rw [if_neg hnf, if_neg h1, if_neg h2, if_neg h5, if_neg h6, if_neg h8]
theorem Jw0 (h1 : k ≠ 1) (h2 : k ≠ 2) (h5 : k ≠ 5) (h6 : k ≠ 6) (h8 : k = 8) (hs : s ≠ []) (hb : ins.length ≤ (s.getD 0 0).toNat) : KM (.mk k n p ins) s = (v0L, 9) := by
  rw [KM]; unfold ZG; rw [if_neg hnf, if_neg h1, if_neg h2, if_neg h5, if_neg h6, if_pos h8]
  cases s with
  | nil => exact absurd rfl hs
  | cons b r => simp only; rw [if_pos (by simpa using hb)]
theorem g_8 (h1 : k ≠ 1) (h2 : k ≠ 2) (h5 : k ≠ 5) (h6 : k ≠ 6) (h8 : k = 8) (hs : s ≠ []) {x : Ty} (hx : ins[(s.getD 0 0).toNat]? = some x) : KM (.mk k n p ins) s = if (KM x (s.drop 1)).2 ≠ 0 then (v0L, (KM x (s.drop 1)).2) else (KL [(KM x (s.drop 1)).1] (s.getD 0 0).toNat, 0) := by
  rw [KM]; unfold ZG; rw [if_neg hnf, if_neg h1, if_neg h2, if_neg h5, if_neg h6, if_pos h8]
  cases s with
  | nil => exact absurd rfl hs
  | cons b r =>
    simp only [List.getD_cons_zero, List.drop_succ_cons, List.drop_zero] at hx ⊢
    have hlt := (List.getElem?_eq_some_iff.1 hx).1
    rw [if_neg (by omega), vm hx]
end
theorem Jm5 {s : BS} {a b c d : Nat} (h : XN s = [a, b, c, d]) : Vl.In [] (.mk a b c d [] none [] none 0) := by
  have h2 := (xg s).2
  rw [h] at h2
  have hU : ∀ x ∈ [a, b, c, d], X5 x := fun x hx => h2 x hx
  exact .mk (hU a (by simp)) (hU b (by simp)) (hU c (by simp)) (hU d (by simp)) (by decide) rfl (by decide) rfl i0 (fun x hx => nomatch hx)
theorem j9 {vs : List Vl} {E Lr : Jr} {p : Pl} {pick : Int} (hl : vs.length ≤ 9223372036854775807) (hs : Seg Lr vs.length (Ql vs) p) (hE : ∀ x ∈ vs, x.In E) (hp : jI pick) : Vl.In (Lr ++ E) (.mk 0 0 0 0 [] none vs p pick) :=
  .mk u0 u0 u0 u0 (by decide) rfl hl (hs.mono fun q hq => List.mem_append_left _ hq) hp fun x hx => (hE x hx).mono fun q hq => List.mem_append_right _ hq
theorem wJ {α : Type} {c : Cx} {d : List Deferred} {l : Ko} {L : Jr} {X : XP} {Q : Exit → Act → World → Prop} {ok : Prop} {bad : Value → Prop} {V : α → Value} {LL : α → Jr} {Rl : Jr} {dst : Option Nat} {f : Operand} {args : Array Operand} {at_ : Array TypeId} {ty : TypeId} {ps : String} {af : Array Edge} {gd : Option (Nat × Bool)} {g : FuncId} {vs : List Value}
    (hca : KA l f args = some (g, vs)) (eg : Enters c.P g) (hpt : PureX c.P g vs.toArray ok bad V LL Rl) (hno : ok → α → False) (hR : ∀ p ∈ Rl, known c L p.1 p.2) (hp : ∀ v, bad v → HQ c d l L X (Q (.panic (wz v)))) :
    ∀ (next : Act → World → Prop) a w, Fr c.n d l a → St c L X w → Oper.uponIn (FW c.ro) 0 c.P ⟨dst, .call ⟨.value f, args, at_⟩, ty, ps, af, gd⟩ a next Q ((execOp a.eval ⟨dst, .call ⟨.value f, args, at_⟩, ty, ps, af, gd⟩).run c.P w) := fun next a w hf hs => by
  rw [V3 hf hca c.P w _ rfl eg, Oper.uponIn_enter]; refine ⟨fun hdep => (by cases hdep), ?_⟩
  have hc := callsIn_wide (n := 0) |>.2 (hpt.run w fun p hp => hs.known (hR p hp))
  refine CallsIn.mono (show CallsIn (FW c.ro) 0 c.P g vs.toArray w _ from hc) ?_
  rintro e w' (⟨ho, x, rfl, hk, h1, h2⟩ | ⟨v, hv, rfl, hk⟩)
  · exact (hno ho x).elim
  · exact hp v hv a w' hf (hs.more hk)
section
variable {c : Cx} {X : XP} {S : Jr} {ops : Array Oper} {l : Ko} {E : Jr} {d : List Deferred} {tb : ji} {rest : List Nat} {T : Jr → Act → Prop} {i k : Nat} {v : Value}
theorem YY {t ty : TypeId} {ps : String} {af : Array Edge} {gd : Option (Nat × Bool)} {n e sz : Nat} {pa : List (Nat × Operand)} {vs : Ko} {r zs : List Value} {z : Value} (hk : Wj ops.toList k = some ⟨some i, .buildSlice t n pa.toArray, ty, ps, af, gd⟩) (hg : Kk l ops ⟨some i, .buildSlice t n pa.toArray, ty, ps, af, gd⟩ = some true) (hi : Nat.ble (i + 1) c.n = true)
    (hA : tb k = .turn) (hS : SubS S E)
    (hp : Wy l pa = some vs) (ht : Kl c.P t = some e) (hz : QJ c.P e = some z) (hs : KI c.P e = some sz) (hzs : z.cells.size = sz) (hb : Nat.ble (n * sz) 16777216 = true) (h0 : Nat.ble 1 (n * sz) = true)
    (hmk : (madeCells z.cells (n * sz)).toList = zs) (hf : Y6 (fun i => some (i * sz, sz)) zs (Qz vs) = some r)
    (h : ∀ q, HB c d ((i, .slice (some ⟨q, 0, none⟩) n n) :: l) ((q, .cells r.toArray e (0, 0)) :: E) X S ops tb rest T) : HB c d l E X S ops tb (k :: rest) T := fun a hfr => by
  refine ⟨_, QH hk, ?_⟩; rw [hA]; refine .inl ⟨Nat, slV n, fun q => (q, .cells r.toArray e (0, 0)) :: E, ⟨JD hfr hg, fun w hst => ?_⟩, fun q => ⟨fun p hp => List.mem_cons_of_mem _ (hS p hp), h q _ (hfr.put (Nat.le_of_ble_eq_true hi))⟩⟩
  have h1 := Vb hfr hp
  have h2 : (pa.toArray.map fun (p : Nat × Operand) => (p.1, a.eval p.2)) = vs.toArray := by
    apply Array.toList_inj.1; rw [Array.toList_map]; simpa using h1
  rw [Qt] at hf; subst hmk
  have h3 := Vu ht hz hs hzs (Nat.le_of_ble_eq_true hb) (Nat.le_of_ble_eq_true h0) hf w
  rw [← h2] at h3
  have h4 : (Instr.buildSlice t n (pa.toArray.map fun (i, x) => (i, a.eval x))).run c.P w = .ok (.slice (some ⟨w.heap.size, 0, none⟩) n n) (w.alloc (.cells r.toArray e)) := h3
  refine Ys (v := .slice (some ⟨w.heap.size, 0, none⟩) n n) (w' := w.alloc (.cells r.toArray e)) ?_ ⟨w.heap.size, rfl, hst.alloc _⟩; simp only [execOp, Sem.run_bind]; rw [h4]; rfl
end
open Classical in
theorem Jty {α : Type} (a b c d e : α) (Y A P E : List α) : (a :: (Y ++ (b :: c :: d :: e :: (A ++ (P ++ E))))).Perm (A ++ (a :: b :: c :: d :: e :: (Y ++ (P ++ E)))) := by
  rw [List.perm_iff_count]; intro x; simp only [List.count_append, List.count_cons]; omega
open Classical in
theorem Jtz {α : Type} (a b c d e f : α) (Y P E : List α) : (a :: b :: c :: d :: e :: f :: (Y ++ (P ++ E))).Perm (b :: c :: d :: e :: f :: (a :: (P ++ (Y ++ E)))) := by
  rw [List.perm_iff_count]; intro x; simp only [List.count_append, List.count_cons]; omega
theorem Xx {c : Cx} {d : List Deferred} {l : Ko} {L L' : Jr} {X : XP} {K : Act → World → Prop} (hp : L.Perm L') (h : HQ c d l L' X K) : HQ c d l L X K := fun a w hf hs => h a w hf (hs.perm hp)
theorem Jm6 {s : BS} {N j : Nat} (h : N + j < 8 * s.length) (hb : QU s (N + j) = true) : ((JO s (8 * s.length)).drop N).any id = true :=
  List.any_eq_true.2 ⟨_, List.mem_iff_getElem?.2 ⟨j, by rw [List.getElem?_drop]; exact QX s h⟩, by simpa using hb⟩
theorem Jt0 {s : BS} {N : Nat} (h : ∀ j, j < 8 * s.length - N → QU s (N + j) = false) : ((JO s (8 * s.length)).drop N).any id = false := by
  rw [List.any_eq_false]; intro b hb
  obtain ⟨j, hj⟩ := List.getElem?_of_mem hb
  rw [List.getElem?_drop] at hj
  have hlt := (List.getElem?_eq_some_iff.1 hj).1
  rw [Kp] at hlt; rw [QX s hlt] at hj
  cases hj
  rw [h j (by omega)]; simp
theorem Jm7 {R : Jr} {k n : Int} {p : Pl} {ins : List Ty} {s : BS} (ht : Ty.In R (.mk k n p ins)) (hc : V2 (.mk k n p ins) 0 = 0) (hk3 : k = 3 ∨ k = 4 ∨ k = 7) (hl : s.length ≤ 100000) :
    PureX (α := { row : Vw // rowOk 5 (Y9 k n ins s).length (Xw (Y9 k n ins s)) row }) Tryz.prog 147 [Ty.val (.mk k n p ins), J5 s].toArray ((QV k n ins s).2 = 0) (fun v => (QV k n ins s).2 ≠ 0 ∧ v = zf (QV k n ins s).2) (fun x => KU (Y9 k n ins s).length (Vi x.1)) (fun x => JX 162 (Xw (Y9 k n ins s)) x.1) R :=
  (Jqz ht hc hk3 hl).map id (fun x => (Wc _ _ (fun h => by have := x.2; rw [h] at this; exact this.1)).symm) fun x => List.Sublist.refl _
theorem Jt1 {k n : Int} {ins : List Ty} {s : BS} (hX : ∀ i, i < (JW k n ins s).1 → VV k 0 i < ins.length) {i : Nat} {q : Ty × Nat × Nat} (h : (Y9 k n ins s)[i]? = some q) : q.1 ∈ ins := by
  have h1 : ((Y9 k n ins s).map Prod.fst)[i]? = some q.1 := by rw [List.getElem?_map, h]; rfl
  unfold Y9 at h1
  rw [qg] at h1
  unfold Kx at h1
  rw [List.getElem?_map] at h1
  obtain ⟨j, hj, e⟩ := Option.map_eq_some_iff.1 h1
  have hj2 := List.mem_range.1 (List.mem_of_getElem? hj)
  rw [← e]; exact (Qp (hX j hj2)).2
theorem Jvp {k n : Int} {ins : List Ty} {s : BS} (h0 : (QV k n ins s).2 = 0) {q : Ty × Nat × Nat} (hq : q ∈ Y9 k n ins s) : (JW k n ins s).2 = 0 ∧ q.2.1 ≤ q.2.2 ∧ q.2.2 ≤ s.length := by
  by_cases hm : (JW k n ins s).2 ≠ 0
  · rw [j7 hm] at h0; exact absurd h0 hm
  have hm0 := Decidable.not_not.1 hm
  refine ⟨hm0, ?_⟩
  have hb0 := Zt (Kx k ins (JW k n ins s).1)
  obtain ⟨H, hH⟩ : ∃ H : Nat, Kg (Kx k ins (JW k n ins s).1) = (H : Int) := ⟨_, (Int.toNat_of_nonneg hb0).symm⟩
  by_cases hl : s.length < H
  · rw [Jg0 hm0 rfl hH hl] at h0; cases h0
  have ho := xV hm0 rfl hH (by omega)
  cases e : QD s H (Kx k ins (JW k n ins s).1) 0 H false with
  | none => rw [e] at ho; rw [ho] at h0; cases h0
  | some os =>
    rw [e] at ho
    unfold Y9 at hq
    rw [ho] at hq; exact wI (by omega) e (by omega) (fun _ => rfl) (fun x _ hx => by have := j4 hx; omega) (by rw [hH]; simp) q hq
set_option maxHeartbeats 4000000 in
theorem Jvq {R : Jr} {t : Ty} (ht : t.In R) : V2 t 0 = 0 → ∀ s : BS, s.length ≤ 100000 → PureX (α := VR (KM t s).1) Tryz.prog 95 [t.val, J5 s].toArray ((KM t s).2 = 0) (fun v => (KM t s).2 ≠ 0 ∧ v = zf (KM t s).2) (fun y => y.x.val) (fun y => y.L) R := by
  induction ht with
  | @mk k n p ins hk hn hil hs hi ih =>
  intro hc s hl
  have ht : Ty.In R (.mk k n p ins) := .mk hk hn hil hs hi
  obtain ⟨hk8, ho, _, _⟩ := QP hc
  have hsub := XG hc
  have hF := zY ht
  have hZ := Jeb ht
  unfold vK at hZ
  have hbl := Jix (k := k) (p := p) (ins := ins) hl hn
  have hT := Jmx (s := s) (n := 8 * s.length) (Nat.le_refl _) hl
  have hpl : ¬ (JK (.mk k n p ins) = true ∧ (s.length : Int) ≠ JV (.mk k n p ins)) → k = 1 ∨ k = 2 ∨ k = 5 → (s.length : Int) = if k = 1 then n else if k = 2 then 1 else (n + 7) / 8 := fun hnf h => by
    have hi0 : ins = [] := by
      unfold Kj at ho
      rcases h with rfl | rfl | rfl <;> simp at ho <;> first | exact ho.1 | exact ho.1.1
    have hx : JK (.mk k n p ins) = true := by
      rw [Jme hc, W9, hi0, Z0]
      rcases h with rfl | rfl | rfl <;> rfl
    have e : (s.length : Int) = JV (.mk k n p ins) := Decidable.byContradiction fun h2 => hnf ⟨hx, h2⟩
    rw [e, JV]
    rcases h with rfl | rfl | rfl <;> simp
  have hn1 : k = 1 → 1 ≤ n ∧ n ≤ 32 := fun e => by subst e; unfold Kj at ho; simp at ho; omega
  have hn5 : k = 5 → 1 ≤ n ∧ n ≤ 512 := fun e => by subst e; unfold Kj at ho; simp at ho; omega
  have h16 : k = 8 → ins.length ≤ 8 := fun e => by subst e; unfold Kj at ho; simp at ho; omega
  refine XH Tryz.func95 rfl rfl fun w => ?_; refine sR fun _ hK1 => ?_; refine Jp (cs := #[_, _, _]) rfl rfl rfl rfl fun r1 => ?_; refine Js (cs := #[_, _, _, _, _, _, _]) rfl rfl rfl rfl fun r2 => ?_; refine nK hK1 (sR fun _ hK2 => ?_); refine LR rfl (J0 (vs := [_, _, _]) rfl (Ja (k := 1) rfl) rfl rfl rfl rfl) ?_; refine Ji rfl rfl rfl (enters_of Tryz.func142 (by kernel_rfl) rfl) hF (fun q hq => Or.inr hq) ?_; refine LS 2 [] rfl rfl ?_
  refine JH 15 rfl (fun hb3 => ?_) (fun hb3 => ?_) <;> (try simp only [ZZ] at hb3) <;> first | (refine Jj rfl ?_) | (refine LK rfl ?_)
  all_goals first
    | (refine LR rfl (JY rfl rfl) ?_)
    | (refine LK rfl ?_)
  all_goals refine LW 1 [1] rfl rfl ?_
  all_goals first
    | (refine Ji rfl rfl rfl (enters_of Tryz.func143 (by kernel_rfl) rfl) hZ (fun q hq => Or.inr hq) ?_)
    | (refine LK rfl ?_)
  all_goals refine LW 2 [] rfl rfl ?_
  all_goals refine KT rfl rfl rfl (enters_of Tryz.func94 (by kernel_rfl) rfl) (VA (_) 2) (fun q hq => nomatch hq) (fun hok _ => ?_) (fun v hv => by first | exact Bool.noConfusion hv.1 | exact Qo rfl rfl (Ww (by rw [g_w ⟨‹JK _ = true›, fun e => absurd hv.1 (by rw [if_pos ‹JK _ = true›, e, beq_self_eq_true]; decide)⟩]) (by decide) hv))
  all_goals refine Jh ?_
  all_goals (
   refine hK2 (sQ fun _ hK8 => ?_); refine sQ fun _ hK9 => ?_
   have hnf : ¬ (JK (.mk k n p ins) = true ∧ (s.length : Int) ≠ JV (.mk k n p ins)) := by
     rintro ⟨hA, hB⟩
     first
     | (have e := Z3.1 hok; rw [if_pos hA] at e; exact hB e)
     | (have e : JK (.mk k n p ins) = false := ‹_›; rw [e] at hA; cases hA)
   clear hok; refine Jb ?_
   refine LS 2 [1] rfl rfl (nK hK9 ?_); refine Jv (sR fun _ hK10 => (LS 2 [] rfl rfl ?_)); refine nK hK10 ?_; refine Jd rfl (fun h11 => ?_) (fun h11 => ?_)
   try simp only [ZZ] at h11
   refine sQ fun _ hK12 => ?_
   have hln := hpl hnf (.inl ‹k = 1›)
   rw [if_pos ‹k = 1›] at hln
   have hnn := hn1 ‹_›
   obtain ⟨a, b, c, d, hnm⟩ := Je3 s
   have hnu := zg (s := s) (by omega)
   rw [hnm] at hnu; refine Jb (Jj rfl (JF rfl rfl rfl (enters_of Tryz.func144 (by kernel_rfl) rfl) hnu ?_)); refine LR rfl (JJ (r := [_, _, _, _, _, _, _]) rfl rfl) ?_
   refine LT 0 rfl rfl (nK hK12 ?_); refine Jc (Jq (Jf ?_)); refine Jx rfl rfl (.cons (JA (vs := [_, _, _, _, _, _, _]) rfl (Ja (k := 0) rfl) rfl rfl) .nil) (fun w1 hs1 => ?_)
   (have e1 := g_1 hnf (s := s) ‹k = 1›
    refine .inl ⟨by rw [e1], ⟨.mk a b c d [] none [] none 0, [], Jm5 hnm, by rw [e1, Qf, Yj, hnm]; rfl⟩, rfl, hs1.weakL (List.nil_sublist _)⟩)
   · try simp only [ZZ] at h11
     refine sR fun _ hK13 => LS 2 [] rfl rfl (nK hK13 ?_); refine Jd rfl (fun h14 => ?_) (fun h14 => ?_)
     try simp only [ZZ] at h14
     refine sQ fun _ hK15 => ?_
     have hln := hpl hnf (.inr (.inl ‹k = 2›))
     rw [if_neg ‹k ≠ 1›, if_pos ‹k = 2›] at hln
     obtain ⟨a, b, c, d, hnm⟩ := Je3 s
     have hnu := zg (s := s) (by omega)
     rw [hnm] at hnu; refine Jb (Jj rfl (LR rfl (Wo (j := 0) rfl rfl rfl rfl (by omega) rfl) ?_)); refine JZ rfl ?_; refine KT rfl rfl rfl (enters_of Tryz.func94 (by kernel_rfl) rfl) (VA (_) 2) (fun q hq => nomatch hq) (fun hok _ => ?_) (fun v hv => Qo rfl rfl (Ww (by rw [g_2 hnf ‹k ≠ 1› ‹k = 2›, if_pos (by have := Z2.1 hv.1; omega)]) (by decide) hv)); refine nK hK15 (sR fun _ hK16 => ?_); refine Jj rfl (JF rfl rfl rfl (enters_of Tryz.func144 (by kernel_rfl) rfl) hnu (LR rfl (JJ (r := [_, _, _, _, _, _, _]) rfl rfl) ?_))
     refine LT 0 rfl rfl (nK hK16 ?_); refine Jc (Jq (Jf ?_)); refine Jx rfl rfl (.cons (JA (vs := [_, _, _, _, _, _, _]) rfl (Ja (k := 0) rfl) rfl rfl) .nil) (fun w1 hs1 => ?_)
     (have e1 := g_2 hnf (s := s) ‹k ≠ 1› ‹k = 2›
      rw [if_neg (by have := Z1.mp hok; omega)] at e1
      refine .inl ⟨by rw [e1], ⟨.mk a b c d [] none [] none 0, [], Jm5 hnm, by rw [e1, Qf, Yj, hnm]; rfl⟩, rfl, hs1.weakL (List.nil_sublist _)⟩)
     · try simp only [ZZ] at h14
       refine sR fun _ hK17 => LS 2 [] rfl rfl (nK hK17 ?_); refine Jd rfl (fun h18 => ?_) (fun h18 => ?_)
       · try simp only [ZZ] at h18
         refine sQ fun _ hK19 => ?_
         have hln := hpl hnf (.inr (.inr ‹k = 5›))
         rw [if_neg ‹k ≠ 1›, if_neg ‹k ≠ 2›] at hln
         have hnn := hn5 ‹_›
         obtain ⟨N, hN⟩ : ∃ N, N = n.toNat := ⟨_, rfl⟩
         refine Jb (LS 2 [] rfl rfl (LR rfl (JY rfl rfl) ?_)); refine JZ rfl ?_; refine J1 (show _ = Value.int .i64 ((8 * s.length : Nat)) from congrArg (Value.int .i64) (by rw [wrap_i64 (by omega) (by omega)]; omega)) ?_; refine Qn rfl rfl rfl (enters_of Tryz.func145 (by kernel_rfl) rfl) hT (fun q hq => nomatch hq) fun x => ?_
         obtain ⟨row, hrow⟩ := x
         match row, hrow with | none, hrow => ?_ | some (ra, cap, sp), hrow => ?_
         all_goals first | exact absurd hrow.1 (by omega) | skip
         refine Jj rfl (nK hK19 ?_); refine sQ fun _ hK20 => sQ fun _ hK21 => ?_
         have hcap : 8 * s.length ≤ cap := by have := hrow.2; omega
         obtain ⟨off1, hoff⟩ : ∃ o, (if cap = N then 0 else 0 + N * 1) = o := ⟨_, rfl⟩
         refine Jb (Jj rfl ?_)
         refine LS 2 [2] rfl rfl ?_; refine J1 (show _ = Value.int .i64 ((N : Nat) : Int) from congrArg (Value.int .i64) (by omega)) ?_; refine LR rfl (JT (kl := some N) (kh := none) (km := none) (sz := 1) (m := N) (q := 8 * s.length) (z := cap) (off' := off1) rfl rfl rfl ⟨_, rfl⟩ trivial trivial rfl rfl rfl (by omega) (by omega) (Nat.le_refl _) (fun _ => rfl) hoff) ?_; refine LR rfl (KK rfl rfl) ?_; refine Jj rfl (nK hK21 ?_); refine Jv (JN (σ := Nat) (fun j => j ≤ 8 * s.length - N ∧ ∀ i, i < j → QU s (N + i) = false) (fun j => [(1, J5 s), (2, V5 r1), (4, V5 r2), (5, .slice (some ⟨ra, 0, none⟩) (8 * s.length) cap), (49, .slice (some ⟨ra, off1, none⟩) (8 * s.length - N) (cap - N)), (50, .int .i64 ((8 * s.length - N : Nat) : Int)), (51, .int .i64 (j : Int))]) (fun _ => [(ra, .cells (Qy (JO s (8 * s.length)) ++ sp).toArray 4 (0, 0)), WN r2 v0L, VF r1 (.mk k n p ins)]) (fun _ _ _ => True) (fun j => 8 * s.length - N - j) 0 ⟨Nat.zero_le _, fun i h => by omega⟩ (.cons rfl (.cons rfl (.cons rfl (.cons rfl (.cons rfl (.cons rfl (.cons rfl .nil))))))) (List.Sublist.refl _) (fun _ _ h => h) ?_); rintro j ⟨hj1, hbits⟩; change HC _ _ _ ((ra, _) :: (r2, _) :: (r1, _) :: []) _ _ _; refine sR fun _ hK22 => JZ rfl (nK hK22 ?_); refine sQ fun _ hK23 => ?_; refine Jd rfl (fun h24 => ?_) (fun h24 => ?_)
         try simp only [ZZ] at h24
         refine Jg (hK23 ?_); refine sB fun _ hK25 => sR fun _ hK26 => ?_; refine LR rfl (Ki (j := j) (m := 1) (off' := N + j) rfl rfl rfl rfl (by omega) (by omega) (by rw [← hoff, if_neg (by omega)]; omega)) ?_; refine LR rfl (Jm rfl (Ja (k := 0) rfl) rfl (Jgx s (i := N + j) (by omega) sp)) ?_; refine Jj rfl (nK hK26 ?_); refine Jb (LS 2 [] rfl rfl ?_); refine KT rfl rfl rfl (enters_of Tryz.func94 (by kernel_rfl) rfl) (VA (_) 8) (fun q hq => nomatch hq) (fun hok _ => ?_) (fun v hv => Qo rfl rfl (Ww (by rw [g_5 hnf ‹k ≠ 1› ‹k ≠ 2› ‹k = 5›, ← hN, if_pos (Jm6 (by omega) (Z8.mp hv.1))]) (by decide) hv)); refine Jh (Jk (hK25 ?_)); refine Jb (JZ rfl (Jy (by omega) (by omega) ?_)); refine Jj rfl (Jh (JB ?_)); exact J6 (j + 1) ⟨by omega, fun i hi => by by_cases e : i = j; (subst e; exact Z7.mp hok); exact hbits i (by omega)⟩ (by omega) (.cons rfl (.cons rfl (.cons rfl (.cons rfl (.cons rfl (.cons rfl (.cons rfl .nil))))))) (List.Sublist.refl _) (fun _ _ h => h)
         · try simp only [ZZ] at h24
           refine JL (Jn ?_); refine Jn (J3 (hK20 ?_)); refine sQ fun _ hK27 => ?_
           have hany := Jt0 (s := s) (N := N) (fun i hi => hbits i (by omega))
           refine Jb (Jj rfl ?_)
           refine LS 2 [2] rfl rfl ?_; refine J1 (show _ = Value.int .i64 ((N : Nat) : Int) from congrArg (Value.int .i64) (by omega)) ?_
           refine LR rfl (JT (kl := none) (kh := some N) (km := none) (m := 0) (q := N) (z := cap) (off' := 0) (sz := 1) rfl rfl rfl trivial ⟨_, rfl⟩ trivial rfl rfl rfl (by omega) (by omega) (Nat.le_refl _) (fun e => nomatch e) (by split <;> omega)) ?_; refine LR rfl (JJ (r := [_, _, _, _, _, _, _]) rfl rfl) ?_
           refine LT 1 rfl rfl (nK hK27 ?_); refine Jc (Jq (Jf ?_)); refine Jx rfl rfl (.cons (JA (vs := [_, _, _, _, _, _, _]) rfl (Ja (k := 1) rfl) rfl rfl) .nil) (fun w1 hs1 => ?_)
           (have e1 := g_5 hnf (s := s) ‹k ≠ 1› ‹k ≠ 2› ‹k = 5›
            rw [← hN, hany, if_neg (by decide)] at e1
            refine .inl ⟨by rw [e1], ⟨.mk 0 0 0 0 (JO s N) (some (⟨ra, 0, none⟩, cap)) [] none 0, [(ra, .cells (Qy (JO s (8 * s.length)) ++ sp).toArray 4 (0, 0))], Jc3 (by omega) (by omega) (by omega), by rw [e1, Qf, Yj]; rfl⟩, congrArg Ending.returned (Jgy s N ra cap).symm, hs1.weakL ((List.cons_sublist_cons).2 (List.nil_sublist _))⟩)
       · try simp only [ZZ] at h18
         refine sR fun _ hK28 => LS 2 [] rfl rfl (nK hK28 ?_); refine Jd rfl (fun h29 => ?_) (fun h29 => ?_)
         try simp only [ZZ] at h29
         refine sR fun _ hK30 => LS 2 [1] rfl rfl ?_; refine KT rfl rfl rfl (enters_of Tryz.func146 (by kernel_rfl) rfl) hbl (fun q hq => nomatch hq) (fun hok y => ?_) (fun v hv => Qo rfl rfl (by rw [g_6 hnf ‹k ≠ 1› ‹k ≠ 2› ‹k ≠ 5› ‹k = 6›]; exact hv))
         obtain ⟨⟨ya, yb, yc, yd, ybits, ypb, yitems, ypi, ypick⟩, yL, yok, yer⟩ := y
         refine KH List.perm_append_comm ?_
         refine LT 0 rfl rfl (nK hK30 ?_); refine Jc (Jq (Jf ?_)); refine Jx rfl rfl (.cons (JA (vs := [_, _, _, _, _, _, _]) rfl (Ja (k := 0) rfl) rfl rfl) .nil) (fun w1 hs1 => ?_)
         (have e1 := g_6 hnf (s := s) ‹k ≠ 1› ‹k ≠ 2› ‹k ≠ 5› ‹k = 6›
          refine .inl ⟨by rw [e1]; exact hok, ⟨.mk ya yb yc yd ybits ypb yitems ypi ypick, yL, yok, by rw [e1]; exact yer⟩, rfl, hs1.weakL (.cons _ (.cons _ (List.Sublist.refl _)))⟩)
         · try simp only [ZZ] at h29
           refine sR fun _ hK31 => LS 2 [] rfl rfl (nK hK31 ?_); refine Jd rfl (fun h32 => ?_) (fun h32 => ?_)
           · try simp only [ZZ] at h32
             refine sR fun _ hK33 => Jj rfl (LR rfl (WV rfl rfl) ?_); refine KT rfl rfl rfl (enters_of Tryz.func94 (by kernel_rfl) rfl) (VA (_) 2) (fun q hq => nomatch hq) (fun hok _ => ?_) (fun v hv => Qo rfl rfl (Ww (by rw [Jwz hnf ‹k ≠ 1› ‹k ≠ 2› ‹k ≠ 5› ‹k ≠ 6› ‹k = 8› (of_decide_eq_true (Z8.mp hv.1))]) (by decide) hv)); refine nK hK33 (sQ fun _ hK34 => ?_)
             have hsne : s ≠ [] := of_decide_eq_false (Z7.mp hok)
             have hpos : 0 < s.length := List.length_pos_iff.2 hsne
             refine Jb (Jj rfl (LR rfl (Wo (j := 0) rfl rfl rfl rfl (by omega) rfl) ?_)); refine JZ rfl ?_; refine J1 (show _ = Value.int .i64 (((s.getD 0 0).toNat : Nat)) from congrArg (Value.int .i64) (wrap_i64 (by omega) (by have := Vr (s.getD 0 0); omega))) ?_; refine Jj rfl (nK hK34 ?_); refine sR fun _ hK35 => Jj rfl ?_
             refine LS 2 [1] rfl rfl ?_; refine LR rfl (J7 rfl hs rfl) ?_; refine JZ rfl ?_; refine KT rfl rfl rfl (enters_of Tryz.func94 (by kernel_rfl) rfl) (VA (_) 9) (fun q hq => nomatch hq) (fun hok _ => ?_) (fun v hv => Qo rfl rfl (Ww (by rw [Jw0 hnf ‹k ≠ 1› ‹k ≠ 2› ‹k ≠ 5› ‹k ≠ 6› ‹k = 8› hsne (by have := Z2.1 hv.1; omega)]) (by decide) hv)); refine nK hK35 (sQ fun _ hK36 => ?_)
             obtain ⟨x, hx⟩ : ∃ x, ins[(s.getD 0 0).toNat]? = some x := ⟨_, List.getElem?_eq_getElem (by have := Z1.mp hok; omega)⟩
             have hxm := List.mem_of_getElem? hx
             have ihx := ih x hxm (hsub x hxm) (s.drop 1) (by rw [List.length_drop]; omega)
             by_cases hgo : (KM x (s.drop 1)).2 = 0 ∧ Nonempty (VR (KM x (s.drop 1)).1)
             rotate_left
             have hlt : (s.getD 0 0).toNat < ins.length := (List.getElem?_eq_some_iff.1 hx).1
             have hbadx : ∀ {v : Value}, (KM x (s.drop 1)).2 ≠ 0 ∧ v = zf (KM x (s.drop 1)).2 → (KM (.mk k n p ins) s).2 ≠ 0 ∧ v = zf (KM (.mk k n p ins) s).2 := fun hv => by rw [g_8 hnf ‹k ≠ 1› ‹k ≠ 2› ‹k ≠ 5› ‹k ≠ 6› ‹k = 8› hsne hx, if_pos hv.1]; exact hv
             exact Jgv [(0, .int .i64 ((s.getD 0 0).toNat : Int)), (1, .pointer (some ⟨r1, 2, none⟩)), (2, KU ins.length p), (3, .int .i64 ((s.getD 0 0).toNat : Int)), (4, .pointer (some ⟨plB p, wZ p + (s.getD 0 0).toNat * 3, none⟩)), (5, x.val), (6, J5 s), (7, J5 (s.drop 1))] 8 (by kernel_rfl) rfl (by kernel_rfl) rfl (.cons rfl rfl (Jo rfl) <| .cons rfl rfl (KG rfl rfl rfl) <| .cons rfl rfl (Jm rfl (Ja (k := 1) rfl) rfl rfl) <| .cons rfl rfl (Jo rfl) <| .cons rfl rfl (Jw (j := (s.getD 0 0).toNat) rfl hs rfl rfl rfl rfl hlt) <| .cons rfl rfl (KZ (fun q hq => Or.inr hq) rfl hs hx rfl rfl) <| .cons rfl rfl (Jo rfl) <| .cons rfl rfl (V4 (kl := some (.i64, 1)) (kh := none) (m := 1) (n := s.length) rfl rfl rfl rfl rfl rfl (by omega) (by omega) (show _ = s.drop 1 from by rw [List.take_length])) .nil) rfl rfl (wJ rfl (enters_of Tryz.func95 (by kernel_rfl) rfl) ihx (fun h y => hgo ⟨h, ⟨y⟩⟩) (fun q hq => Or.inr hq) (fun v hv => Qo rfl rfl (hbadx hv)))
             obtain ⟨hg0, ⟨x0⟩⟩ := hgo
             have hlt : (s.getD 0 0).toNat < ins.length := (List.getElem?_eq_some_iff.1 hx).1
             refine JU [VF r1 (.mk k n p ins)] [(0, .pure), (1, .pure), (2, .pure), (3, .pure), (4, .pure), (5, .pure), (6, .pure), (7, .pure), (8, .grow (Qu x0 (fun y => y.x.val) (fun y => y.L))), (9, .turn)] 10 [0, 1, 2, 3, 4, 5, 6, 7, 8, 9] (by kernel_rfl) (by kernel_rfl) (fun q hq => List.mem_cons_of_mem _ hq) ?_; refine Jz (k := 0) rfl rfl rfl rfl rfl (fun _ hS => (Jo rfl)) ?_
             refine Jz (k := 1) rfl rfl rfl rfl rfl (fun _ hS => (JP rfl rfl rfl)) ?_; refine Jz (k := 2) rfl rfl rfl rfl rfl (fun _ hS => (Jm rfl (.inl (hS _ (Ky (n := 0) rfl))) rfl rfl)) ?_; refine Jz (k := 3) rfl rfl rfl rfl rfl (fun _ hS => (Jo rfl)) ?_; refine Jz (k := 4) rfl rfl rfl rfl rfl (fun _ _ => Jw (j := (s.getD 0 0).toNat) rfl hs rfl rfl rfl rfl hlt) ?_; refine Jz (k := 5) rfl rfl rfl rfl rfl (fun _ _ => KZ (fun q hq => Or.inr hq) rfl hs hx rfl rfl) ?_; refine Jz (k := 6) rfl rfl rfl rfl rfl (fun _ hS => (Jo rfl)) ?_; refine Jz (k := 7) rfl rfl rfl rfl rfl (fun _ _ => V4 (kl := some (.i64, 1)) (kh := none) (m := 1) (n := s.length) rfl rfl rfl rfl rfl rfl (by omega) (by omega) (show _ = s.drop 1 from by rw [List.take_length])) ?_; refine Qd (k := 8) rfl rfl rfl rfl rfl (enters_of Tryz.func95 (by kernel_rfl) rfl) (ihx.toT (fun v hv => hv.1 hg0)) (fun q hq => Or.inr hq) fun y => ?_; obtain ⟨⟨ya, yb, yc, yd, ybits, ypb, yitems, ypi, ypick⟩, yL, yok, yer⟩ := y; refine YY (k := 9) (n := 1) (sz := 7) (vs := [_]) (zs := [_, _, _, _, _, _, _]) (r := [_, _, _, _, _, _, _]) rfl rfl rfl rfl (fun q hq => List.mem_append_right _ (List.mem_cons_of_mem _ hq)) rfl rfl rfl rfl rfl rfl rfl (by rw [Ku]; exact rfl) rfl fun rv => ?_; refine KD ?_; refine KH (List.Perm.cons _ List.perm_append_comm) ?_; refine LR rfl (JJ (r := [_, _, _, _, _, _, _]) rfl rfl) ?_
             refine LT 1 rfl rfl (nK hK36 ?_); refine Jc (Jq (Jf ?_)); refine Jx rfl rfl (.cons (JA (vs := [_, _, _, _, _, _, _]) rfl (Ja (k := 1) rfl) rfl rfl) .nil) (fun w1 hs1 => ?_)
             (have e1 := g_8 hnf (s := s) ‹k ≠ 1› ‹k ≠ 2› ‹k ≠ 5› ‹k ≠ 6› ‹k = 8› hsne hx
              rw [if_neg (by rw [hg0]; decide)] at e1
              refine .inl ⟨by rw [e1], ⟨.mk 0 0 0 0 [] none [.mk ya yb yc yd ybits ypb yitems ypi ypick] (some (⟨rv, 0, none⟩, 1)) ((s.getD 0 0).toNat : Int), [(rv, _)] ++ yL, j9 (by simp) ⟨Nat.le_refl _, fun _ => ⟨rfl, _, _, _, List.mem_singleton_self _, rfl⟩⟩ (fun z hz => by rw [List.mem_singleton.1 hz]; exact yok) (by have := Vr (s.getD 0 0); unfold jI; omega), by rw [e1, Qf, Yj, Yj, yer]; rfl⟩, rfl, hs1.weakL ((List.cons_sublist_cons).2 (.cons _ (.cons _ (List.Sublist.refl _))))⟩)
           · try simp only [ZZ] at h32
             refine Jg (Jk (hK8 ?_)); refine sR fun _ hK37 => ?_; refine Js (cs := #[_, _, _, _, _, _, _]) rfl rfl rfl rfl fun r3 => ?_; refine nK hK37 (sQ fun _ hK38 => ?_); refine sQ fun _ hK39 => ?_
             have hk3 : k = 3 ∨ k = 4 ∨ k = 7 := by have h1 : k ≠ 1 := ‹_›; have h2 : k ≠ 2 := ‹_›; have h5 : k ≠ 5 := ‹_›; have h6 : k ≠ 6 := ‹_›; have h8 : k ≠ 8 := ‹_›; omega
             have hmX := wy (s := s) hk8 ho hk3
             have hgr := (g_r (s := s) hnf ‹k ≠ 1› ‹k ≠ 2› ‹k ≠ 5› ‹k ≠ 6› ‹k ≠ 8›).trans (Jq0 hmX)
             have hpp := Jm7 (s := s) ht hc hk3 hl
             refine Jb (LS 2 [2] rfl rfl ?_); refine KT rfl rfl rfl (enters_of Tryz.func147 (by kernel_rfl) rfl) hpp (fun q hq => Or.inr hq) (fun hp0 x => ?_) (fun v hv => Qo rfl rfl (by rw [hgr, if_pos hv.1]; exact hv))
             obtain ⟨prow, hprow⟩ := x
             refine KH List.perm_append_comm ?_
             have hsg := Qj (e := 162) hprow (by decide)
             have hmm0 : (JW k n ins s).2 = 0 := Decidable.byContradiction fun hm => hm (by rw [← j7 hm]; exact hp0)
             have hPl : (Y9 k n ins s).length ≤ 512 := by unfold Y9; rw [qf, Xt]; exact (vn hk8 ho hk3 hmm0).1
             refine LR rfl (J7 rfl hsg rfl) ?_; refine Jj rfl (nK hK39 ?_); refine Jv ?_; rw [if_neg (by rw [hp0]; decide)] at hgr; refine JN (σ := Nat × List Vl × Vw × Jr) (fun q => q.1 = q.2.1.length ∧ q.1 ≤ (Y9 k n ins s).length ∧ rowOk 7 q.1 (Ql q.2.1) q.2.2.1 ∧ (∀ x ∈ q.2.1, Vl.In q.2.2.2 x) ∧ V6 (((Y9 k n ins s).take q.1).map (gq s)) = (q.2.1.map WM, 0)) (fun q => [(1, J5 s), (2, V5 r1), (4, V5 r2), (9, V5 r3), (96, KU (Y9 k n ins s).length (Vi prow)), (97, .int .i64 ((Y9 k n ins s).length : Int)), (98, .int .i64 (q.1 : Int))]) (fun q => (r3, .cells #[.int .u64 0, .int .u64 0, .int .u64 0, .int .u64 0, .slice none 0 0, JE q.1 q.2.2.1, .int .i64 0] 81 (0, 0)) :: WN r2 v0L :: VF r1 (.mk k n p ins) :: (JX 81 (Ql q.2.1) q.2.2.1 ++ (JX 162 (Xw (Y9 k n ins s)) prow ++ q.2.2.2))) (fun _ _ _ => True) (fun q => (Y9 k n ins s).length - q.1) (0, [], none, []) ⟨rfl, Nat.zero_le _, ⟨rfl, rfl⟩, fun x hx => (nomatch hx), rfl⟩ (.cons rfl (.cons rfl (.cons rfl (.cons rfl (.cons rfl (.cons rfl (.cons rfl .nil))))))) (by simp only [JX, List.nil_append, List.append_nil]; exact List.Sublist.refl _) (fun _ _ h => h) ?_; rintro ⟨i, vs, row, E⟩ ⟨hvl, him, hrow, hin, hrun⟩; simp only at hvl him hrow hin hrun; refine sR fun _ hK40 => JZ rfl (nK hK40 ?_); refine sQ fun _ hK41 => ?_; refine Jd rfl (fun h42 => ?_) (fun h42 => ?_)
             · try simp only [ZZ] at h42
               refine Jg (hK41 ?_); refine sB fun _ hK43 => sQ fun _ hK44 => ?_
               obtain ⟨⟨x, f, f2⟩, hq⟩ : ∃ q, (Y9 k n ins s)[i]? = some q := ⟨_, List.getElem?_eq_getElem (by omega)⟩
               obtain ⟨hmm, hft, htl⟩ := Jvp hp0 (List.mem_of_getElem? hq)
               have hxm := Jt1 (hmX hmm) hq
               simp only at hft htl hxm
               have ihx := ih x hxm (hsub x hxm) ((s.take f2).drop f) (by rw [List.length_drop, List.length_take]; omega)
               obtain ⟨xk, xn, xp, xi⟩ := x
               refine Jb ?_
               refine LR rfl (Jw (j := i) rfl hsg rfl rfl rfl (by first | rfl | omega) (by omega)) ?_; refine LR rfl (WZ (vs := prC (.mk xk xn xp xi, f, f2)) (fun q hq => Or.inl (List.mem_cons_of_mem _ (List.mem_cons_of_mem _ (List.mem_cons_of_mem _ (List.mem_append_right _ (List.mem_append_left _ hq)))))) rfl hsg (by omega) rfl rfl (X9 Zs hq) (Zs _)) ?_; refine Js (cs := #[_, _, _, _, _]) rfl rfl rfl rfl fun r4 => ?_
               refine LT 0 rfl rfl (nK hK44 ?_)
               by_cases hgo : (KM (.mk xk xn xp xi) ((s.take f2).drop f)).2 = 0 ∧ Nonempty (VR (KM (.mk xk xn xp xi) ((s.take f2).drop f)).1)
               rotate_left
               have hbadx : ∀ {v : Value}, (KM (.mk xk xn xp xi) ((s.take f2).drop f)).2 ≠ 0 ∧ v = zf (KM (.mk xk xn xp xi) ((s.take f2).drop f)).2 → (KM (.mk k n p ins) s).2 ≠ 0 ∧ v = zf (KM (.mk k n p ins) s).2 := fun hv => by
                 have e1 : (Y9 k n ins s).map (gq s) = ((Y9 k n ins s).take i).map (gq s) ++ gq s (.mk xk xn xp xi, f, f2) :: ((Y9 k n ins s).drop (i + 1)).map (gq s) := by
                   rw [← List.map_cons, ← KN hq, ← List.map_append, List.take_append_drop]
                 have e2 := Jc6 (r := ((Y9 k n ins s).drop (i + 1)).map (gq s)) (f := KM (.mk xk xn xp xi)) (s := (s.take f2).drop f) hrun hv.1
                 have e3 : (V6 ((Y9 k n ins s).map (gq s))).2 = (KM (.mk xk xn xp xi) ((s.take f2).drop f)).2 := by rw [e1]; exact e2
                 rw [hgr, if_pos (by rw [e3]; exact hv.1)]; exact ⟨by rw [e3]; exact hv.1, by rw [e3]; exact hv.2⟩
               exact Jgv [(0, .pointer (some ⟨r3, 5, none⟩)), (1, JE i row), (2, .pointer (some ⟨r4, 0, none⟩)), (3, Ty.val (.mk xk xn xp xi)), (4, J5 s), (5, .pointer (some ⟨r4, 3, none⟩)), (6, .int .i64 (f : Int)), (7, .pointer (some ⟨r4, 4, none⟩)), (8, .int .i64 (f2 : Int)), (9, J5 ((s.take f2).drop f))] 10 (by kernel_rfl) rfl (by kernel_rfl) rfl (.cons rfl rfl (KG rfl rfl rfl) <| .cons rfl rfl (Jm rfl (Ja (k := 1) rfl) rfl rfl) <| .cons rfl rfl (KG rfl rfl rfl) <| .cons rfl rfl (J0 (vs := [_, _, _]) rfl (Ja (k := 0) rfl) rfl rfl rfl rfl) <| .cons rfl rfl (Jo rfl) <| .cons rfl rfl (KG rfl rfl rfl) <| .cons rfl rfl (Jm rfl (Ja (k := 0) rfl) rfl rfl) <| .cons rfl rfl (KG rfl rfl rfl) <| .cons rfl rfl (Jm rfl (Ja (k := 0) rfl) rfl rfl) <| .cons rfl rfl (V4 (kl := some (.i64, (f : Int))) (kh := some (.i64, (f2 : Int))) (m := f) (n := f2) rfl rfl rfl rfl rfl rfl hft htl rfl) .nil) rfl rfl (wJ rfl (enters_of Tryz.func95 (by kernel_rfl) rfl) ihx (fun h y => hgo ⟨h, ⟨y⟩⟩) (fun q hq => Or.inr hq) (fun v hv => Qo rfl rfl (hbadx hv)))
               obtain ⟨hg0, ⟨x0⟩⟩ := hgo
               refine JU [(r3, .cells #[.int .u64 0, .int .u64 0, .int .u64 0, .int .u64 0, .slice none 0 0, JE i row, .int .i64 0] 81 (0, 0)), (r4, .cells (prC (.mk xk xn xp xi, f, f2)).toArray 162 (0, 0))] [(0, .pure), (1, .pure), (2, .pure), (3, .pure), (4, .pure), (5, .pure), (6, .pure), (7, .pure), (8, .pure), (9, .pure), (10, .grow (Qu x0 (fun y => y.x.val) (fun y => y.L))), (11, .turn)] 12 [0, 1, 2, 3, 4, 5, 6, 7, 8, 9, 10, 11] (by kernel_rfl) (by kernel_rfl) (fun q hq => by rcases List.mem_cons.1 hq with rfl | hq; exact List.mem_cons_of_mem _ List.mem_cons_self; rw [List.mem_singleton.1 hq]; exact List.mem_cons_self) ?_
               refine Jz (k := 0) rfl rfl rfl rfl rfl (fun _ hS => (JP rfl rfl rfl)) ?_; refine Jz (k := 1) rfl rfl rfl rfl rfl (fun _ hS => (Jm rfl (.inl (hS _ (Ky (n := 0) rfl))) rfl rfl)) ?_
               refine Jz (k := 2) rfl rfl rfl rfl rfl (fun _ hS => (JP rfl rfl rfl)) ?_; refine Jz (k := 3) rfl rfl rfl rfl rfl (fun _ hS => (J0 (vs := [_, _, _]) rfl (.inl (hS _ (Ky (n := 1) rfl))) rfl rfl rfl rfl)) ?_; refine Jz (k := 4) rfl rfl rfl rfl rfl (fun _ hS => (Jo rfl)) ?_
               refine Jz (k := 5) rfl rfl rfl rfl rfl (fun _ hS => (JP rfl rfl rfl)) ?_; refine Jz (k := 6) rfl rfl rfl rfl rfl (fun _ hS => (Jm rfl (.inl (hS _ (Ky (n := 1) rfl))) rfl rfl)) ?_
               refine Jz (k := 7) rfl rfl rfl rfl rfl (fun _ hS => (JP rfl rfl rfl)) ?_; refine Jz (k := 8) rfl rfl rfl rfl rfl (fun _ hS => (Jm rfl (.inl (hS _ (Ky (n := 1) rfl))) rfl rfl)) ?_; refine Jz (k := 9) rfl rfl rfl rfl rfl (fun _ _ => V4 (kl := some (.i64, (f : Int))) (kh := some (.i64, (f2 : Int))) (m := f) (n := f2) rfl rfl rfl rfl rfl rfl hft htl rfl) ?_; refine Qd (k := 10) rfl rfl rfl rfl rfl (enters_of Tryz.func95 (by kernel_rfl) rfl) (ihx.toT (fun v hv => hv.1 hg0)) (fun q hq => Or.inr hq) fun y => ?_; obtain ⟨⟨ya, yb, yc, yd, ybits, ypb, yitems, ypi, ypick⟩, yL, yok, yer⟩ := y
               refine YY (k := 11) (n := 1) (sz := 7) (vs := [_]) (zs := [_, _, _, _, _, _, _]) (r := [_, _, _, _, _, _, _]) rfl rfl rfl rfl (fun q hq => List.mem_append_right _ (by rcases List.mem_cons.1 hq with rfl | hq; exact List.mem_cons_of_mem _ List.mem_cons_self; rw [List.mem_singleton.1 hq]; exact List.mem_cons_self)) rfl rfl rfl rfl rfl rfl rfl (by rw [Ku]; exact rfl) rfl fun rv => ?_; refine KD ?_; refine KH (Jty ..) ?_; refine Km (L0 := _ :: _ :: _ :: _ :: _ :: (yL ++ (JX 162 (Xw (Y9 k n ins s)) prow ++ E))) (xs := Ql vs) (row := row) (n := i) (sz := 7) (b := 88) (news := [_, _, _, _, _, _, _]) (List.Perm.refl _) rfl rfl rfl rfl (Ja (k := 0) rfl) rfl rfl rfl rfl rfl (by decide) rfl rfl rfl (by decide) hrow (by omega) (by omega) fun ra cap sp hra => ?_
               refine LS 1 [] rfl rfl ?_; refine Kz (k := 3) (cs' := #[.int .u64 0, .int .u64 0, .int .u64 0, .int .u64 0, .slice none 0 0, JE (i + 1) (some (ra, cap, sp)), .int .i64 0]) rfl rfl rfl rfl rfl rfl rfl rfl rfl rfl ?_; refine Jh (Jk (hK43 ?_)); refine Jb ?_
               refine JZ rfl ?_; refine J1 (show _ = Value.int .i64 ((i + 1 : Nat) : Int) from by rw [wrap_i64 (by omega) (by omega)]; congr 1 <;> omega) ?_; refine Jj rfl (Jh (JB ?_))
               have hsn : ((Y9 k n ins s).take (i + 1)).map (gq s) = ((Y9 k n ins s).take i).map (gq s) ++ [gq s (.mk xk xn xp xi, f, f2)] := by rw [Kt hq, List.map_append]; rfl
               have hgy : KM (.mk xk xn xp xi) ((s.take f2).drop f) = (WM (.mk ya yb yc yd ybits ypb yitems ypi ypick), 0) := Prod.ext yer.symm hg0
               have hvc : Ql vs ++ Vl.cells (.mk ya yb yc yd ybits ypb yitems ypi ypick) = Ql (vs ++ [.mk ya yb yc yd ybits ypb yitems ypi ypick]) := by unfold Ql; rw [List.flatMap_append]; simp
               refine Xx (Jtz ..) ?_
               exact J6 (i + 1, vs ++ [.mk ya yb yc yd ybits ypb yitems ypi ypick], some (ra, cap, sp), yL ++ E) ⟨by simp only [List.length_append, List.length_singleton]; omega, by simp only; omega, by simp only; rw [← hvc]; exact hra, fun z hz => by rcases List.mem_append.1 hz with hz | hz; exact (hin z hz).mono (fun q hq => List.mem_append_right _ hq); rw [List.mem_singleton.1 hz]; exact yok.mono (fun q hq => List.mem_append_left _ hq), by simp only; rw [hsn, List.map_append]; exact zh hrun hgy⟩ (by simp only; omega) (.cons rfl (.cons rfl (.cons rfl (.cons rfl (.cons rfl (.cons rfl (.cons rfl .nil))))))) (by simp only; rw [← hvc]; exact .cons _ (.cons _ (List.Sublist.refl _))) (fun _ _ h => h)
             · try simp only [ZZ] at h42
               refine JL (Jn ?_); refine Jn (J3 (hK38 ?_)); refine sQ fun _ hK45 => ?_
               have honeV : ([.int .u64 0, .int .u64 0, .int .u64 0, .int .u64 0, .slice none 0 0, JE i row, .int .i64 0] : List Value).all QQ = true := by cases row <;> rfl
               refine Jb (LR rfl (Ju (xs := [.int .u64 0, .int .u64 0, .int .u64 0, .int .u64 0, .slice none 0 0, JE i row, .int .i64 0]) (n := 7) rfl (Ja (k := 0) rfl) rfl rfl rfl) (J2 (k := 1) (n := 7) (ys := [.int .u64 0, .int .u64 0, .int .u64 0, .int .u64 0, .slice none 0 0, JE i row, .int .i64 0]) rfl rfl rfl rfl rfl rfl rfl honeV rfl ?_)); refine nK hK45 (Jc ?_); refine Jx rfl rfl (.cons (JA (vs := [_, _, _, _, _, _, _]) rfl (Ja (k := 1) rfl) rfl rfl) .nil) (fun w1 hs1 => ?_)
               (have e1 := hgr
                have hiM : i = (Y9 k n ins s).length := by omega
                rw [hiM, List.take_length] at hrun; rw [hrun, if_neg (by simp)] at e1; rw [hiM] at hvl hrow; rw [hvl] at hrow
                have hvr : JE i row = KU vs.length (Vi row) := by rw [hiM, hvl]; exact (Wc _ _ (fun h => by rw [h] at hrow; exact hrow.1)).symm
                refine .inl ⟨by rw [e1], ⟨.mk 0 0 0 0 [] none vs (Vi row) 0, JX 81 (Ql vs) row ++ E, j9 (by omega) (Qj hrow (by decide)) hin i0, by rw [e1, Qf, Wf]; rfl⟩, congrArg (fun z => Ending.returned (Value.agg #[.int .u64 0, .int .u64 0, .int .u64 0, .int .u64 0, .slice none 0 0, z, .int .i64 0])) hvr, hs1.weakL (.cons _ (.cons _ (.cons _ ((List.Sublist.refl _).append (List.sublist_append_right _ _)))))⟩)
   skip)
mutual
def Xf : Ty → Ty
  | .mk k n _ ins => .mk k n none (VB ins)
def VB : List Ty → List Ty
  | [] => []
  | x :: xs => Xf x :: VB xs
end
theorem wK : ∀ l : List Ty, VB l = l.map Xf
  | [] => by rw [VB]; rfl
  | x :: xs => by rw [VB, wK xs]; rfl
theorem YZ (l : List Ty) : (VB l).length = l.length := by rw [wK, List.length_map]
structure TR (t : Ty) : Type where
  x : Ty
  L : Jr
  ok : x.In L
  er : Xf x = t
def byT : Ty := .mk 1 1 none []
def WK (k n : Int) : Ty := .mk k n none [byT]
def qk : Ty := .mk 7 0 none [WK 3 32, WK 3 32]
def acT : Ty := .mk 7 0 none [WK 3 20, .mk 1 8 none [], .mk 1 32 none [], WK 4 512, .mk 4 16 none [qk]]
def QR : Ty := .mk 4 32 none [acT]
theorem Jm8 {k n : Int} (hk : jI k) (hn : jI n) : PureT (α := Nat) Tryz.prog 78 [.int .i64 k, .int .i64 n].toArray (fun r => .agg #[.int .i64 k, .int .i64 n, .slice (some ⟨r, 0, none⟩) 1 1]) [] (fun r => [(r, .cells #[.int .i64 1, .int .i64 1, .slice none 0 0] 76 (0, 0))]) [] := by
  refine JI Tryz.func78 rfl rfl fun w => ?_; refine sR fun _ hK1 => ?_; refine Js (cs := #[_, _, _]) rfl rfl rfl rfl fun r1 => ?_; refine nK hK1 (sR fun _ hK2 => ?_); refine LS 2 [] rfl rfl ?_; refine LR rfl (JJ (r := [_, _, _]) rfl rfl) ?_; refine Ka (vs := [_]) (zs := [_, _, _]) (r := [_, _, _]) rfl rfl rfl rfl rfl rfl rfl rfl rfl (by rw [Ku]; exact rfl) rfl fun r2 => ?_; refine LR rfl (JJ (r := [_, _, _]) rfl rfl) ?_
  refine LT 1 rfl rfl (nK hK2 ?_); refine Jc ?_; refine Jx rfl rfl (.cons (JA (vs := [_, _, _]) rfl (Ja (k := 1) rfl) rfl rfl) .nil) (fun w1 hs1 => ?_); exact ⟨r2, rfl, hs1.weakL ((List.cons_sublist_cons).2 (List.nil_sublist _))⟩
abbrev Jiy (e : Nat) : Obj := .cells #[.int .i64 1, .int .i64 1, .slice none 0 0] e (0, 0)
def Jiz (k n : Int) (x : Nat) : Ty := .mk k n (some (⟨x, 0, none⟩, 1)) [byT]
def Jvr (x y r : Nat) : Ty := .mk 7 0 (some (⟨r, 0, none⟩, 2)) [Jiz 3 32 x, Jiz 3 32 y]
def acX (x y x2 x3 r s a : Nat) : Ty := .mk 7 0 (some (⟨a, 0, none⟩, 5)) [Jiz 3 20 x2, .mk 1 8 none [], .mk 1 32 none [], Jiz 4 512 x3, .mk 4 16 (some (⟨s, 0, none⟩, 1)) [Jvr x y r]]
def Jm9 (x y x2 x3 r s a z : Nat) : Ty := .mk 4 32 (some (⟨z, 0, none⟩, 1)) [acX x y x2 x3 r s a]
theorem Jc7 {R : Jr} {k n : Int} {ins : List Ty} {r m e : Nat} {all : Array Value} (hk : jI k) (hn : jI n) (hm : (r, Obj.cells all e (0, 0)) ∈ R) (ha : all.toList = zK ins) (hl : ins.length = m) (hl2 : m ≤ 100) (hi : ∀ x ∈ ins, x.In R) : Ty.In R (.mk k n (some (⟨r, 0, none⟩, m)) ins) :=
  .mk hk hn (by omega) ⟨Nat.le_of_eq hl, fun _ => ⟨rfl, all, e, (0, 0), hm, by rw [List.drop_zero, ha, List.take_length]⟩⟩ hi
theorem xW {R : Jr} {k n : Int} (hk : jI k) (hn : jI n) : Ty.In R (.mk k n none []) := .mk hk hn (by decide) rfl (fun x hx => nomatch hx)
theorem vq {R : Jr} {k n : Int} {x e : Nat} (hk : jI k) (hn : jI n) (h : (x, Jiy e) ∈ R) : (Jiz k n x).In R :=
  Jc7 hk hn h rfl rfl (by decide) fun y hy => by rw [List.mem_singleton.1 hy]; exact xW (by unfold jI; omega) (by unfold jI; omega)
theorem Yl {n : Int} (h0 : 0 ≤ n) (h : n ≤ 1000) : jI n := by unfold jI; omega
theorem Jg2 {R : Jr} {x y x2 x3 r s a z e : Nat} (h1 : (x, Jiy e) ∈ R) (h2 : (y, Jiy e) ∈ R) (h3 : (x2, Jiy e) ∈ R) (h4 : (x3, Jiy e) ∈ R) (h5 : (r, Obj.cells #[.int .i64 3, .int .i64 32, .slice (some ⟨x, 0, none⟩) 1 1, .int .i64 3, .int .i64 32, .slice (some ⟨y, 0, none⟩) 1 1] e (0, 0)) ∈ R)
    (h6 : (s, Obj.cells #[.int .i64 7, .int .i64 0, .slice (some ⟨r, 0, none⟩) 2 2] e (0, 0)) ∈ R)
    (h7 : (a, Obj.cells #[.int .i64 3, .int .i64 20, .slice (some ⟨x2, 0, none⟩) 1 1, .int .i64 1, .int .i64 8, .slice none 0 0, .int .i64 1, .int .i64 32, .slice none 0 0, .int .i64 4, .int .i64 512, .slice (some ⟨x3, 0, none⟩) 1 1, .int .i64 4, .int .i64 16, .slice (some ⟨s, 0, none⟩) 1 1] e (0, 0)) ∈ R)
    (h8 : (z, Obj.cells #[.int .i64 7, .int .i64 0, .slice (some ⟨a, 0, none⟩) 5 5] e (0, 0)) ∈ R) : (Jm9 x y x2 x3 r s a z).In R := by
  refine Jc7 (Yl (by decide) (by decide)) (Yl (by decide) (by decide)) h8 rfl rfl (by decide) fun q hq => ?_; rw [List.mem_singleton.1 hq]; refine Jc7 (Yl (by decide) (by decide)) (Yl (by decide) (by decide)) h7 rfl rfl (by decide) fun q hq => ?_; simp only [List.mem_cons, List.not_mem_nil, or_false] at hq
  rcases hq with rfl | rfl | rfl | rfl | rfl
  · exact vq (Yl (by decide) (by decide)) (Yl (by decide) (by decide)) h3
  · exact xW (Yl (by decide) (by decide)) (Yl (by decide) (by decide))
  · exact xW (Yl (by decide) (by decide)) (Yl (by decide) (by decide))
  · exact vq (Yl (by decide) (by decide)) (Yl (by decide) (by decide)) h4
  · refine Jc7 (Yl (by decide) (by decide)) (Yl (by decide) (by decide)) h6 rfl rfl (by decide) fun q hq => ?_
    rw [List.mem_singleton.1 hq]; refine Jc7 (Yl (by decide) (by decide)) (Yl (by decide) (by decide)) h5 rfl rfl (by decide) fun q hq => ?_; simp only [List.mem_cons, List.not_mem_nil, or_false] at hq
    rcases hq with rfl | rfl
    · exact vq (Yl (by decide) (by decide)) (Yl (by decide) (by decide)) h1
    · exact vq (Yl (by decide) (by decide)) (Yl (by decide) (by decide)) h2
theorem Jg3 (x y x2 x3 r s a z : Nat) : Xf (Jm9 x y x2 x3 r s a z) = QR := by
  simp only [Jm9, acX, Jvr, Jiz, byT, Xf, VB, QR, acT, qk, WK]
theorem xX : PureT (α := TR QR) Tryz.prog 53 #[] (fun y => y.x.val) [] (fun y => y.L) [] := by
  refine JI Tryz.func53 rfl rfl fun w => ?_; refine sR fun _ hK1 => ?_; refine Js (cs := #[_, _, _]) rfl rfl rfl rfl fun r1 => ?_; refine nK hK1 (sR fun _ hK2 => ?_); refine Qn rfl rfl rfl (enters_of Tryz.func78 (by kernel_rfl) rfl) (Jm8 (by unfold jI; omega) (by unfold jI; omega)) (fun q hq => nomatch hq) fun x1 => ?_; refine Js (cs := #[_, _, _]) rfl rfl rfl rfl fun r2 => ?_
  refine LT 0 rfl rfl (nK hK2 ?_); refine sR fun _ hK3 => LS 2 [0, 0] rfl rfl ?_; refine Ka (vs := [_, _]) (zs := [_, _, _, _, _, _]) (r := [_, _, _, _, _, _]) rfl rfl rfl rfl rfl rfl rfl rfl rfl (by rw [Ku]; exact rfl) rfl fun r3 => ?_; refine LR rfl (JJ (r := [_, _, _]) rfl rfl) ?_; refine Js (cs := #[_, _, _]) rfl rfl rfl rfl fun r4 => ?_
  refine LT 0 rfl rfl (nK hK3 ?_); refine sQ fun _ hK4 => ?_
  refine JU [(r4, .cells #[.int .i64 7, .int .i64 0, .slice (some ⟨r3, 0, none⟩) 2 2] 76 (0, 0))] [(0, .grow (Qu 0 (fun r => .agg #[.int .i64 3, .int .i64 20, .slice (some ⟨r, 0, none⟩) 1 1]) (fun r => [(r, .cells #[.int .i64 1, .int .i64 1, .slice none 0 0] 76 (0, 0))]))), (1, .pure), (2, .pure), (3, .grow (Qu 0 (fun r => .agg #[.int .i64 4, .int .i64 512, .slice (some ⟨r, 0, none⟩) 1 1]) (fun r => [(r, .cells #[.int .i64 1, .int .i64 1, .slice none 0 0] 76 (0, 0))]))), (4, .pure), (5, .grow (Wa (slV 1) (.cells #[.int .i64 7, .int .i64 0, .slice (some ⟨r3, 0, none⟩) 2 2] 76 (0, 0)))), (6, .pure), (7, .dep [9, 10, 11, 12, 15] (Jbb 5 76)), (8, .pure), (9, .grow (Wa zD (.cells #[.int .i64 0, .int .i64 0, .slice none 0 0] 76 (0, 0))))] 10 [1, 2, 4, 5, 6, 0, 3, 7, 8, 9] (by kernel_rfl) (by kernel_rfl) (by first | exact (fun _ h => absurd h List.not_mem_nil) | simp [SubS] | (intro p hp; simp [hp])) ?_; refine Jz (k := 1) rfl rfl rfl rfl rfl (fun _ hS => (JJ (r := [_, _, _]) rfl rfl)) ?_; refine Jz (k := 2) rfl rfl rfl rfl rfl (fun _ hS => (JJ (r := [_, _, _]) rfl rfl)) ?_; refine Jz (k := 4) rfl rfl rfl rfl rfl (fun _ hS => (J0 (vs := [_, _, _]) rfl (.inl (hS _ (Ky (n := 0) rfl))) rfl rfl rfl rfl)) ?_; refine VJ (k := 5) (n := 1) (sz := 3) (vs := [_]) (zs := [_, _, _]) (r := [.int .i64 7, .int .i64 0, .slice (some ⟨r3, 0, none⟩) 2 2]) rfl rfl rfl rfl rfl rfl rfl rfl rfl rfl rfl (by rw [Ku]; exact rfl) rfl fun s1 => ?_; refine Jz (k := 6) rfl rfl rfl rfl rfl (fun _ hS => (JJ (r := [_, _, _]) rfl rfl)) ?_; refine Qd (k := 0) rfl rfl rfl rfl rfl (enters_of Tryz.func78 (by kernel_rfl) rfl) (Jm8 (by unfold jI; omega) (by unfold jI; omega)) (fun q hq => nomatch hq) fun x2 => ?_; refine Qd (k := 3) rfl rfl rfl rfl rfl (enters_of Tryz.func78 (by kernel_rfl) rfl) (Jm8 (by unfold jI; omega) (by unfold jI; omega)) (fun q hq => nomatch hq) fun x3 => ?_; refine Vz (k := 7) (dv := [_, _, _, _, _]) (n := 5) (sz := 3) (vs := [_, _, _, _, _]) (zs := [_, _, _, _, _, _, _, _, _, _, _, _, _, _, _]) (r := [.int .i64 3, .int .i64 20, .slice (some ⟨x2, 0, none⟩) 1 1, .int .i64 1, .int .i64 8, .slice none 0 0, .int .i64 1, .int .i64 32, .slice none 0 0, .int .i64 4, .int .i64 512, .slice (some ⟨x3, 0, none⟩) 1 1, .int .i64 4, .int .i64 16, .slice (some ⟨s1, 0, none⟩) 1 1]) rfl rfl rfl rfl rfl rfl rfl rfl rfl rfl rfl rfl rfl (by rw [Ku]; exact rfl) rfl fun s2 => ?_; refine Jz (k := 8) rfl rfl rfl rfl rfl (fun _ hS => (JJ (r := [_, _, _]) rfl rfl)) ?_; refine Ya (k := 9) (cs := #[_, _, _]) rfl rfl rfl rfl rfl rfl fun r5 => ?_; refine KD ?_
  refine LT 0 rfl rfl (nK hK4 ?_); refine sR fun _ hK5 => ?_; refine LR rfl (J0 (vs := [_, _, _]) rfl (Ja (k := 0) rfl) rfl rfl rfl rfl) ?_; refine Ka (vs := [_]) (zs := [_, _, _]) (r := [_, _, _]) rfl rfl rfl rfl rfl rfl rfl rfl rfl (by rw [Ku]; exact rfl) rfl fun r6 => ?_; refine LR rfl (JJ (r := [_, _, _]) rfl rfl) ?_
  refine LT 10 rfl rfl (nK hK5 ?_); refine Jc ?_; refine Jx rfl rfl (.cons (JA (vs := [_, _, _]) rfl (Ja (k := 10) rfl) rfl rfl) .nil) (fun w1 hs1 => ?_); exact ⟨⟨Jm9 x1 x1 x2 x3 r3 s1 s2 r6, _, Jg2 (e := 76) (by simp) (by simp) (by simp) (by simp) (by simp) (by simp) (by simp) (by simp), Jg3 ..⟩, rfl, hs1⟩
def jA (b : UInt8) : Vl := .mk b.toNat 0 0 0 [] none [] none 0
def wM (s : BS) : Vl := KL (s.map jA) 0
theorem Jvs (b : UInt8) : (jA b).cells = [uV b.toNat, uV 0, uV 0, uV 0, .slice none 0 0, .slice none 0 0, .int .i64 0] := rfl
theorem Jsk (b : UInt8) : Vl.In [] (jA b) := .mk (by have := Vr b; unfold X5; omega) u0 u0 u0 (by decide) rfl (by decide) rfl i0 (fun x hx => nomatch hx)
theorem Jsl (s : BS) (p : Pl) : WM (.mk 0 0 0 0 [] none (s.map jA) p 0) = wM s := by
  rw [Qf, Wf, List.map_map, show (WM ∘ jA) = jA from funext fun b => by show WM (jA b) = jA b; unfold jA; rw [Qf, Yj]]; rfl
theorem Jq2 {s : BS} {i : Nat} (h : i < s.length) : Ql ((s.take i).map jA) ++ [uV (s.getD i 0).toNat, uV 0, uV 0, uV 0, .slice none 0 0, .slice none 0 0, .int .i64 0] = Ql ((s.take (i + 1)).map jA) := by
  have h1 : s[i]? = some (s.getD i 0) := by rw [List.getD_eq_getElem?_getD, List.getElem?_eq_getElem h]; rfl
  rw [Kt h1, List.map_append]
  unfold Ql
  rw [List.flatMap_append]; simp [Jvs]
theorem xY {s : BS} (hl : s.length ≤ 100000) : PureT (α := VR (wM s)) Tryz.prog 79 [J5 s].toArray (fun y => y.x.val) [] (fun y => y.L) [] := by
  refine JI Tryz.func79 rfl rfl fun w => ?_; refine sR fun _ hK1 => ?_; refine Js (cs := #[_, _, _, _, _, _, _]) rfl rfl rfl rfl fun r1 => ?_; refine nK hK1 (sR fun _ hK2 => ?_); refine Js (cs := #[_, _, _, _, _, _, _]) rfl rfl rfl rfl fun r2 => ?_; refine nK hK2 (sQ fun _ hK3 => ?_); refine sR fun _ hK4 => Jj rfl (LR rfl (JY rfl rfl) (Jj rfl ?_)); refine nK hK4 ?_; refine Jv (JN (σ := Nat × Vw) (fun q => q.1 ≤ s.length ∧ rowOk 7 q.1 (Ql ((s.take q.1).map jA)) q.2) (fun q => [(0, J5 s), (2, V5 r1), (3, V5 r2), (6, .int .i64 (s.length : Int)), (7, .int .i64 (q.1 : Int))]) (fun q => (r2, .cells #[.int .u64 0, .int .u64 0, .int .u64 0, .int .u64 0, .slice none 0 0, JE q.1 q.2, .int .i64 0] 81 (0, 0)) :: (r1, .cells #[.int .u64 0, .int .u64 0, .int .u64 0, .int .u64 0, .slice none 0 0, .slice none 0 0, .int .i64 0] 81 (0, 0)) :: JX 81 (Ql ((s.take q.1).map jA)) q.2) (fun _ _ _ => True) (fun q => s.length - q.1) (0, none) ⟨Nat.zero_le _, rfl, rfl⟩ (.cons rfl (.cons rfl (.cons rfl (.cons rfl (.cons rfl .nil))))) (List.Sublist.refl _) (fun _ _ h => h) ?_); rintro ⟨i, row⟩ ⟨hi1, hrow⟩; simp only at hi1 hrow; change HC _ _ [(0, J5 s), (2, V5 r1), (3, V5 r2), (6, .int .i64 (s.length : Int)), (7, .int .i64 (i : Int))] ((r2, .cells #[.int .u64 0, .int .u64 0, .int .u64 0, .int .u64 0, .slice none 0 0, JE i row, .int .i64 0] 81 (0, 0)) :: (r1, .cells #[.int .u64 0, .int .u64 0, .int .u64 0, .int .u64 0, .slice none 0 0, .slice none 0 0, .int .i64 0] 81 (0, 0)) :: JX 81 (Ql ((s.take i).map jA)) row) _ _ _; refine sR fun _ hK5 => JZ rfl (nK hK5 ?_); refine sQ fun _ hK6 => ?_; refine Jd rfl (fun h7 => ?_) (fun h7 => ?_)
  · try simp only [ZZ] at h7
    refine Jg (hK6 ?_); refine sB fun _ hK8 => sR fun _ hK9 => ?_; refine LS 2 [] rfl rfl (nK hK9 ?_)
    refine JU [(r2, .cells #[.int .u64 0, .int .u64 0, .int .u64 0, .int .u64 0, .slice none 0 0, JE i row, .int .i64 0] 81 (0, 0))] [(0, .pure), (1, .pure), (2, .pure), (3, .pure), (4, .pure), (5, .pure), (6, .pure), (7, .pure), (8, .grow (Wa (slV 1) (.cells #[uV (s.getD i 0).toNat, uV 0, uV 0, uV 0, .slice none 0 0, .slice none 0 0, .int .i64 0] 81 (0, 0))))] 9 [0, 1, 2, 3, 4, 5, 6, 7, 8] (by kernel_rfl) (by kernel_rfl) (by first | exact (fun _ h => absurd h List.not_mem_nil) | simp [SubS] | (intro p hp; simp [hp])) ?_
    refine Jz (k := 0) rfl rfl rfl rfl rfl (fun _ hS => (JP rfl rfl rfl)) ?_; refine Jz (k := 1) rfl rfl rfl rfl rfl (fun _ hS => (Jm rfl (.inl (hS _ (Ky (n := 0) rfl))) rfl rfl)) ?_; refine Jz (k := 2) rfl rfl rfl rfl rfl (fun _ hS => (Jo rfl)) ?_; refine Jz (k := 3) rfl rfl rfl rfl rfl (fun _ hS => (Jo rfl)) ?_; refine Jz (k := 4) rfl rfl rfl rfl rfl (fun _ _ => Wo (j := i) rfl rfl rfl rfl (by omega) rfl) ?_; refine Jz (k := 5) rfl rfl rfl rfl rfl (fun _ _ => (JC rfl rfl rfl)) ?_; refine WA (show _ = uV (s.getD i 0).toNat from congrArg (Value.int .u64) (wrap_u64 (by omega) (by have := Vr (s.getD i 0); omega))) ?_; refine WB (k := 6) rfl rfl rfl rfl rfl (enters_of Tryz.func80 (by kernel_rfl) rfl) (XZ _) ?_; refine Jz (k := 7) rfl rfl rfl rfl rfl (fun _ hS => (JJ (r := [_, _, _, _, _, _, _]) rfl rfl)) ?_; refine VJ (k := 8) (n := 1) (sz := 7) (vs := [_]) (zs := [_, _, _, _, _, _, _]) (r := [uV (s.getD i 0).toNat, uV 0, uV 0, uV 0, .slice none 0 0, .slice none 0 0, .int .i64 0]) rfl rfl rfl rfl rfl rfl rfl rfl rfl rfl rfl (by rw [Ku]; exact rfl) rfl fun rb => ?_; refine KD ?_; refine Km (L0 := [_, _, _]) (xs := Ql ((s.take i).map jA)) (row := row) (n := i) (sz := 7) (b := 88) (news := [_, _, _, _, _, _, _]) (List.perm_append_comm (l₁ := [_, _, _])) rfl rfl rfl rfl (Ja (k := 0) rfl) rfl rfl rfl rfl rfl (by decide) rfl rfl rfl (by decide) hrow (by omega) (by omega) fun ra cap sp hra => ?_
    refine LS 1 [] rfl rfl ?_; refine Kz (k := 2) (cs' := #[.int .u64 0, .int .u64 0, .int .u64 0, .int .u64 0, .slice none 0 0, JE (i + 1) (some (ra, cap, sp)), .int .i64 0]) rfl rfl rfl rfl rfl rfl rfl rfl rfl rfl ?_; refine Jh (Jk (hK8 ?_)); refine Jb ?_
    refine JZ rfl ?_; refine J1 (show _ = Value.int .i64 ((i + 1 : Nat) : Int) from by rw [wrap_i64 (by omega) (by omega)]; congr 1 <;> omega) ?_; refine Jj rfl (Jh (JB ?_)); rw [Jq2 (by omega)] at hra ⊢; refine Vc [2, 3, 0] (L' := [_, _, _]) (by decide) rfl ?_; exact J6 (i + 1, some (ra, cap, sp)) ⟨by simp only; omega, hra⟩ (by simp only; omega) (.cons rfl (.cons rfl (.cons rfl (.cons rfl (.cons rfl .nil))))) (List.Sublist.refl _) (fun _ _ h => h)
  · try simp only [ZZ] at h7
    refine JL (Jn ?_); refine Jn (J3 (hK3 ?_)); refine sQ fun _ hK10 => ?_
    have honeV : ([.int .u64 0, .int .u64 0, .int .u64 0, .int .u64 0, .slice none 0 0, JE i row, .int .i64 0] : List Value).all QQ = true := by cases row <;> rfl
    refine Jb (LR rfl (Ju (xs := [.int .u64 0, .int .u64 0, .int .u64 0, .int .u64 0, .slice none 0 0, JE i row, .int .i64 0]) (n := 7) rfl (Ja (k := 0) rfl) rfl rfl rfl) (J2 (k := 1) (n := 7) (ys := [.int .u64 0, .int .u64 0, .int .u64 0, .int .u64 0, .slice none 0 0, JE i row, .int .i64 0]) rfl rfl rfl rfl rfl rfl rfl honeV rfl ?_)); refine nK hK10 (Jc ?_); refine Jx rfl rfl (.cons (JA (vs := [_, _, _, _, _, _, _]) rfl (Ja (k := 1) rfl) rfl rfl) .nil) (fun w1 hs1 => ?_)
    have hiM : i = s.length := by omega
    rw [hiM, List.take_length] at hrow hs1
    have hrow2 : rowOk 7 (s.map jA).length (Ql (s.map jA)) row := by rw [List.length_map]; exact hrow
    have hvr : JE i row = KU (s.map jA).length (Vi row) := by rw [hiM, List.length_map]; exact (Wc _ _ (fun h => by rw [h] at hrow; exact hrow.1)).symm
    exact ⟨⟨.mk 0 0 0 0 [] none (s.map jA) (Vi row) 0, JX 81 (Ql (s.map jA)) row ++ [], j9 (by rw [List.length_map]; omega) (Qj hrow2 (by decide)) (fun x hx => by obtain ⟨b, _, rfl⟩ := List.mem_map.1 hx; exact Jsk b) i0, Jsl s _⟩, congrArg (fun z => Ending.returned (Value.agg #[.int .u64 0, .int .u64 0, .int .u64 0, .int .u64 0, .slice none 0 0, z, .int .i64 0])) hvr, hs1.weakL (.cons _ (.cons _ (by simp only [List.append_nil]; exact List.Sublist.refl _)))⟩
section
variable {c : Cx} {l : Ko} {L : Jr} {X : XP} {Q : Exit → Act → List Frame → World → Prop} {d : List Deferred} {cs : List Frame}
variable {ops : Array Oper} {rest : List Nat} {k : Nat} {o : Oper}
theorem vr (h : HS c d l L X ops rest cs Q) : HQ c d l L X ((fun e a w => e = Exit.normal ∧ wpOpsSIn (FW none) 0 c.P ops Q rest a cs w) .normal) := fun a w hf hs => ⟨rfl, h a w hf hs⟩
theorem xZ (ho : Wj ops.toList k = some o) (hp : ∀ (ρ : Operand → Value) w x w', (execOp ρ o).run c.P w = .ok x w' → (∃ v, x = .value v) ∨ x = .skip) (hn : Kq o.op = true) (hro : c.ro = none) (h : HL c d l L X ops [o] (fun e a w => e = Exit.normal ∧ wpOpsSIn (FW none) 0 c.P ops Q rest a cs w)) : HS c d l L X ops (k :: rest) cs Q := fun a w hf hs => by
  have hk : ops[k]? = some o := by rw [← QH ho]
  have h1 := h a w hf hs
  unfold wpListIn at h1
  simp only [wpOpsSIn, hk]; refine ⟨KV, ?_⟩
  by_cases hw : Region.wanted o (yielded ops a.tmps) = true
  · rw [if_pos hw] at h1 ⊢
    obtain ⟨_, h2⟩ := h1
    rw [Oper.semAt_eq _ _ _ (Wl hn)] at h2
    cases e : (execOp a.eval o).run c.P w with
    | ok x w' =>
      rw [e] at h2
      rcases hp a.eval w x w' e with ⟨v, rfl⟩ | rfl
      · exact h2.2
      · exact h2.2
    | halt x w' =>
      rw [e] at h2
      cases x with
      | panic v => exact absurd h2.1 (by simp)
      | _ => exact h2.elim
  · rw [if_neg hw] at h1 ⊢
    exact h1.2.2
theorem qB {P : Program} {dst : Option Nat} {t ty : TypeId} {ps : String} {af : Array Edge} {gd : Option (Nat × Bool)} (ρ : Operand → Value) (w : World) (x : Next) (w' : World) (h : (execOp ρ ⟨dst, .alloc t, ty, ps, af, gd⟩).run P w = .ok x w') : (∃ v, x = .value v) ∨ x = .skip := by
  simp only [execOp, Sem.run_bind] at h
  cases e : (Instr.alloc t true (.tuple #[])).run P w with
  | ok v w2 => rw [e] at h; simp [Result.andThen] at h; exact .inl ⟨v, h.1.symm⟩
  | halt v w2 => rw [e] at h; simp [Result.andThen] at h
theorem qC {P : Program} {dst : Option Nat} {t ty : TypeId} {a b : Operand} {ps : String} {af : Array Edge} {gd : Option (Nat × Bool)} (ρ : Operand → Value) (w : World) (x : Next) (w' : World) (h : (execOp ρ ⟨dst, .store t a b, ty, ps, af, gd⟩).run P w = .ok x w') : (∃ v, x = .value v) ∨ x = .skip := by
  simp only [execOp, Sem.run_bind] at h
  cases e : (Instr.storeAt t (ρ a) (ρ b)).run P w with
  | ok v w2 => rw [e] at h; simp [Result.andThen] at h; exact .inr h.1.symm
  | halt v w2 => rw [e] at h; simp [Result.andThen] at h
end
def gT (rv re : Nat) (V : Array Value) (e : Int) : Jr := [(rv, .cells V 81 (0, 0)), (re, .cells #[.int .i64 e] 27 (0, 0))]
abbrev VZ0 : Array Value := #[.int .u64 0, .int .u64 0, .int .u64 0, .int .u64 0, .slice none 0 0, .slice none 0 0, .int .i64 0]
theorem Jvt (rv re : Nat) (hne : rv ≠ re) (V : Array Value) (hV : V.size = 7) (e0 : Int) (w : World) (hT : jM (gT rv re V e0) w) : CallsDIn (FW none) 0 Tryz.prog 92 [V5 rv, V5 re].toArray .returning w (fun e u' w' => (∃ x, e = .returned x) ∧ settle u' = .returning ∧ Keep [rv, re] w w' ∧ jM (gT rv re V e0) w') := by
  refine j5 (cxT Tryz.prog w (gT rv re V e0) [] Tryz.f92.ntmps) Tryz.func92 rfl rfl rfl rfl (L := gT rv re V e0) (X := fun _ _ => True) (St.startT hT (fun p hp => nomatch hp) (List.pairwise_pair.2 hne) (fun p hp => nomatch hp)) fun c₀ cs hu => ?_
  obtain ⟨hrv, hrc⟩ := Jmt (cs := cs) hu
  refine Jgu fun K hK => ?_; refine wA ?_; change HS _ _ _ _ _ _ [0, 1, 2, 3, 4, 5, 6, 7] _ _; refine wB rfl rfl rfl rfl (fun a w hf => rfl) hrv hrc ?_; refine yl rfl rfl rfl rfl (JC rfl rfl rfl) ?_; refine yl rfl rfl rfl rfl (Jo rfl) ?_; refine yl rfl rfl rfl rfl (Qk rfl rfl) ?_; refine yl rfl rfl rfl rfl (Qk rfl rfl) ?_; refine xZ rfl qB rfl rfl (Js (cs := #[_]) rfl rfl rfl rfl fun r2 => Jh (vr ?_)); refine xZ rfl qC rfl rfl (QT (k := 0) (n := 1) (cs' := #[_]) (vs := #[_]) rfl rfl rfl rfl rfl rfl rfl (by exact Nat.le_of_ble_eq_true rfl) rfl rfl (Jh (vr ?_))); refine yl rfl rfl rfl rfl (JQ rfl) ?_; refine Jmq ?_; refine hK _ _ _ _ _ (Jmp rfl ?_); clear hK K; refine sR fun _ hK1 => Jj rfl (nK hK1 ?_); refine Jd rfl (fun h2 => ?_) (fun h2 => ?_)
  try exact Bool.noConfusion h2
  · try simp only [ZZ] at h2
    refine Jg ?_; refine yZ (u' := .returning) rfl rfl rfl .nil (fun w1 hs1 => ?_); refine ⟨⟨_, rfl⟩, rfl, by have := hs1.keep; simpa [cxT, gT] using this, fun p hp => ?_⟩; exact (hs1.own p (List.mem_cons_of_mem _ hp)).2.2
theorem Jvu (rv re : Nat) (hne : rv ≠ re) (V : Array Value) (hV : V.size = 7) (e0 : Int) (e1 : Int) (w : World) (hT : jM (gT rv re V e0) w) : CallsDIn (FW none) 0 Tryz.prog 92 [V5 rv, V5 re].toArray (.panicking (wz (zf e1))) w (fun e u' w' => (∃ x, e = .returned x) ∧ settle u' = .returning ∧ Keep [rv, re] w w' ∧ jM (gT rv re VZ0 e1) w') := by
  refine j5 (cxT Tryz.prog w (gT rv re V e0) [] Tryz.f92.ntmps) Tryz.func92 rfl rfl rfl rfl (L := gT rv re V e0) (X := fun _ _ => True) (St.startT hT (fun p hp => nomatch hp) (List.pairwise_pair.2 hne) (fun p hp => nomatch hp)) fun c₀ cs hu => ?_
  obtain ⟨hrv, hrc⟩ := Jms (cs := cs) hu
  refine Jgu fun K hK => ?_; refine wA ?_; change HS _ _ _ _ _ _ [0, 1, 2, 3, 4, 5, 6, 7] _ _; refine wB rfl rfl rfl rfl (fun a w hf => rfl) hrv hrc ?_; refine yl rfl rfl rfl rfl (JC rfl rfl rfl) ?_; refine yl rfl rfl rfl rfl (Jo rfl) ?_; refine yl rfl rfl rfl rfl (Qk rfl rfl) ?_; refine yl rfl rfl rfl rfl (Qk rfl rfl) ?_; refine xZ rfl qB rfl rfl (Js (cs := #[_]) rfl rfl rfl rfl fun r2 => Jh (vr ?_)); refine xZ rfl qC rfl rfl (QT (k := 0) (n := 1) (cs' := #[_]) (vs := #[_]) rfl rfl rfl rfl rfl rfl rfl (by exact Nat.le_of_ble_eq_true rfl) rfl rfl (Jh (vr ?_))); refine yl rfl rfl rfl rfl (JQ rfl) ?_; refine Jmq ?_; refine hK _ _ _ _ _ (Jmp rfl ?_); clear hK K; refine sR fun _ hK1 => Jj rfl (nK hK1 ?_); refine Jd rfl (fun h2 => ?_) (fun h2 => ?_)
  try simp only [ZZ] at h2
  refine JU [(r2, .cells #[.int .i64 e1] 113 (0, 0))] [(0, .pure), (1, .pure), (2, .pure), (3, .turn), (4, .turn)] 5 [0, 1, 2, 3, 4] (by kernel_rfl) (by kernel_rfl) (by first | exact (fun _ h => absurd h List.not_mem_nil) | simp [SubS] | (intro p hp; simp [hp])) ?_; refine Jz (k := 0) rfl rfl rfl rfl rfl (fun _ hS => (JJ (r := [_, _, _, _, _, _, _]) rfl rfl)) ?_
  refine Jz (k := 1) rfl rfl rfl rfl rfl (fun _ hS => (JP rfl rfl rfl)) ?_; refine Jz (k := 2) rfl rfl rfl rfl rfl (fun _ hS => (Jm rfl (.inl (hS _ (Ky (n := 0) rfl))) rfl rfl)) ?_; refine qw (k := 3) (q := 1) (n := 7) (ys := [.int .u64 0, .int .u64 0, .int .u64 0, .int .u64 0, .slice none 0 0, .slice none 0 0, .int .i64 0]) rfl rfl rfl rfl rfl rfl rfl rfl hV rfl rfl (by simp [SubS]) ?_
  refine WC (k := 4) (q := 2) rfl rfl rfl rfl rfl rfl rfl rfl rfl (by first | (simp only [List.setIfInBounds_toArray, List.set_cons_zero, List.set_cons_succ]; exact rfl) | exact rfl) (by first | (simp only [List.set_cons_zero, List.set_cons_succ]; exact rfl) | exact rfl) (by first | exact (fun _ h => absurd h List.not_mem_nil) | simp [SubS] | (intro p hp; simp [hp])) ?_; refine KD ?_; refine Jh ?_; refine yZ (u' := .panicking [{ v := zf e1, recovered := true }]) rfl rfl rfl .nil (fun w1 hs1 => ?_); refine ⟨⟨_, rfl⟩, rfl, by have := hs1.keep; simpa [cxT, gT] using this, fun p hp => ?_⟩; exact (hs1.own p (List.mem_cons_of_mem _ hp)).2.2
  · try exact Bool.noConfusion h2
theorem Jna (t : Ty) (s : BS) : (KM t s).2 ≠ 0 → (KM t s).1 = v0L := by
  obtain ⟨k, n, p, ins⟩ := t
  rw [KM]
  unfold ZG xN
  dsimp only
  repeat' split
  all_goals first | (intro _; rfl) | (intro h; exact absurd rfl h)
def getR (t : Ty) (s : BS) : Vl × Int := if V2 t 0 ≠ 0 then (v0L, V2 t 0) else if 65536 < s.length then (v0L, 5) else KM t s
theorem Jnb : Vl.In [] v0L := .mk u0 u0 u0 u0 (by decide) rfl (by decide) rfl i0 (fun x hx => nomatch hx)
section
variable {c : Cx} {l : Ko} {L L0 : Jr} {X : XP} {d : List Deferred} {fn : Func} {R : Ending → World → Prop} {rv re : Nat} {V : Array Value} {e0 e1 : Int}
theorem wO {w : World} (hs : St c (gT rv re V e0 ++ L0) X w) : jM (gT rv re V e0) w ∧ rv ≠ re := ⟨fun p hp => (hs.own p (List.mem_append_left _ hp)).2.2, by
  have := (List.pairwise_append.1 hs.distinct).1
  exact (List.pairwise_cons.1 this).1 _ (List.mem_singleton_self _)⟩
theorem Jg4 {V' : Array Value} {w w' : World} (hs : St c (gT rv re V e0 ++ L0) X w) (hk : Keep [rv, re] w w') (hT : jM (gT rv re V' e1) w') : St c (gT rv re V' e1 ++ L0) X w' := by
  obtain ⟨_, hne⟩ := wO hs
  refine hs.turnT (by simpa [gT] using hk) (fun p hp => ⟨.inl ?_, hT p hp⟩) (List.pairwise_pair.2 hne)
  rcases List.mem_cons.1 hp with rfl | hp
  · simp [gT]
  · rw [List.mem_singleton.1 hp]; simp [gT]
theorem Jsm (hP : c.P = Tryz.prog) (hp : L.Perm (gT rv re V e0 ++ L0)) (hV : V.size = 7) (h : HQ c d l (gT rv re V e0 ++ L0) X (bodyPostM (FW none) 0 Tryz.prog fn R .ret)) : HQ c (dF 92 [V5 rv, V5 re] :: d) l L X (bodyPostM (FW none) 0 Tryz.prog fn R .ret) :=
  Xx hp (Jts (enters_of Tryz.func92 (by kernel_rfl) rfl) (fun w hs => CallsDIn.mono (Jvt rv re (wO hs).2 V hV e0 w (wO hs).1) fun _ _ _ ⟨h1, h2, h3, h4⟩ => ⟨h1, h2, Jg4 hs h3 h4⟩) h)
theorem Jsn (hP : c.P = Tryz.prog) (hd : d = []) (hp : L.Perm (gT rv re V e0 ++ L0)) (hV : V.size = 7) (h : HQ c d l (gT rv re VZ0 e1 ++ L0) X (bodyPostM (FW none) 0 Tryz.prog fn R .ret)) : HQ c (dF 92 [V5 rv, V5 re] :: d) l L X (bodyPostM (FW none) 0 Tryz.prog fn R (.panic (wz (zf e1)))) :=
  Xx hp (Jqu (enters_of Tryz.func92 (by kernel_rfl) rfl) (fun w hs => CallsDIn.mono (Jvu rv re (wO hs).2 V hV e0 e1 w (wO hs).1) fun _ _ _ ⟨h1, h2, h3, h4⟩ => ⟨h1, h2, Jg4 hs h3 h4⟩) h)
end
set_option maxHeartbeats 1000000 in
theorem Jvv {R : Jr} {t : Ty} (ht : t.In R) (s : BS) : PureT (α := VR (getR t s).1) Tryz.prog 60 [t.val, J5 s].toArray (fun y => .tuple #[y.x.val, .int .i64 (getR t s).2]) [] (fun y => y.L) R := by
  have hC := zV ht
  have hG := Jvq ht (s := s)
  have hbd := Jna t s
  have hg0 : V2 t 0 ≠ 0 → getR t s = (v0L, V2 t 0) := fun h => by unfold getR; rw [if_pos h]
  have hg1 : V2 t 0 = 0 → 65536 < s.length → getR t s = (v0L, 5) := fun h h2 => by unfold getR; rw [if_neg (by rw [h]; decide), if_pos h2]
  have hg2 : V2 t 0 = 0 → ¬ 65536 < s.length → getR t s = KM t s := fun h h2 => by unfold getR; rw [if_neg (by rw [h]; decide), if_neg h2]
  generalize hcz : V2 t 0 = z at hC hG hg0 hg1 hg2
  obtain ⟨k, n, p, ins⟩ := t
  refine JI Tryz.func60 rfl rfl fun w => ?_; refine sR fun _ hK1 => ?_; refine Jp (cs := #[_, _, _]) rfl rfl rfl rfl fun r1 => ?_; refine Js (cs := #[_, _, _, _, _, _, _]) rfl rfl rfl rfl fun r2 => ?_; refine Js (cs := #[_]) rfl rfl rfl rfl fun r3 => ?_; refine nK hK1 (sR fun _ hK2 => ?_); refine LR rfl (Kv rfl rfl) ?_; refine Jmn (caps := [V5 r2, V5 r3]) rfl rfl rfl ?_ rfl; refine nK hK2 (sQ fun _ hK3 => ?_); refine sR fun _ hK4 => ?_; refine LR rfl (J0 (vs := [_, _, _]) rfl (Ja (k := 2) rfl) rfl rfl rfl rfl) ?_; refine Ji rfl rfl rfl (enters_of Tryz.func93 (by kernel_rfl) rfl) hC (fun q hq => Or.inr hq) ?_; refine Jj rfl (nK hK4 ?_); refine sR fun _ hK5 => LS 2 [] rfl rfl (nK hK5 ?_); refine Jd rfl (fun h6 => ?_) (fun h6 => ?_)
  · try simp only [ZZ] at h6
    refine sR fun _ hK7 => ?_; refine LR rfl (JJ (r := [_, _, _, _, _, _, _]) rfl rfl) ?_; refine Jj rfl ?_
    refine LT 1 rfl rfl ?_
    refine LT 0 rfl rfl (nK hK7 ?_); refine Jc (Jf ?_)
    (refine Jsm (L0 := [_]) rfl (List.Perm.swap _ _ _) rfl ?_
     refine Jx rfl rfl (.cons (JA (vs := [_, _, _, _, _, _, _]) rfl (Ja (k := 0) rfl) rfl rfl) (.cons (KO rfl (Ja (k := 1) rfl) rfl rfl) .nil)) (fun w1 hs1 => ?_)
     exact ⟨⟨v0L, [], Jnb, by rw [hg0 (by assumption)]; rfl⟩, congrArg (fun z => Ending.returned (Value.tuple #[v0L.val, .int .i64 z])) (congrArg Prod.snd (hg0 (by assumption))).symm, hs1.weakL (List.nil_sublist _)⟩)
  · try simp only [ZZ] at h6
    refine Jg (hK3 ?_); refine sQ fun _ hK8 => ?_
    have hz : z = 0 := by assumption
    refine Jb (Jj rfl (LR rfl (JY rfl rfl) ?_)); refine JZ rfl ?_; refine KT rfl rfl rfl (enters_of Tryz.func94 (by kernel_rfl) rfl) (VA (_) 5) (fun q hq => nomatch hq) (fun hok _ => ?_) (fun v hv => by obtain ⟨hvb, rfl⟩ := hv; refine Jsn (e1 := 5) (L0 := [_]) rfl rfl (List.Perm.swap _ _ _) rfl ?_; refine Jx rfl rfl (.cons (JA (vs := [_, _, _, _, _, _, _]) rfl (Ja (k := 0) rfl) rfl rfl) (.cons (KO rfl (Ja (k := 1) rfl) rfl rfl) .nil)) (fun w1 hs1 => ?_); exact ⟨⟨v0L, [], Jnb, by rw [hg1 hz (by have := Z2.1 hvb; omega)]; rfl⟩, congrArg (fun z => Ending.returned (Value.tuple #[v0L.val, .int .i64 z])) (congrArg Prod.snd (hg1 hz (by have := Z2.1 hvb; omega))).symm, hs1.weakL (List.nil_sublist _)⟩)
    have hl : ¬ 65536 < s.length := by have := Z1.mp hok; omega
    refine nK hK8 (sR fun _ hK9 => ?_); refine LS 2 [2] rfl rfl ?_; refine KT rfl rfl rfl (enters_of Tryz.func95 (by kernel_rfl) rfl) (hG hz (by omega)) (fun q hq => Or.inr hq) (fun hok y => ?_) (fun v hv => by obtain ⟨hvb, rfl⟩ := hv; refine Jsn (e1 := (KM (.mk k n p ins) s).2) (L0 := [_]) rfl rfl (List.Perm.swap _ _ _) rfl ?_; refine Jx rfl rfl (.cons (JA (vs := [_, _, _, _, _, _, _]) rfl (Ja (k := 0) rfl) rfl rfl) (.cons (KO rfl (Ja (k := 1) rfl) rfl rfl) .nil)) (fun w1 hs1 => ?_); exact ⟨⟨v0L, [], Jnb, by rw [hg2 hz hl, hbd hvb]; rfl⟩, congrArg (fun z => Ending.returned (Value.tuple #[v0L.val, .int .i64 z])) (congrArg Prod.snd (hg2 hz hl)).symm, hs1.weakL (List.nil_sublist _)⟩)
    obtain ⟨⟨ya, yb, yc, yd, ybits, ypb, yitems, ypi, ypick⟩, yL, yok, yer⟩ := y
    refine KH List.perm_append_comm ?_
    refine LT 1 rfl rfl ?_
    refine LT 0 rfl rfl (nK hK9 ?_); refine Jc ?_
    (refine Jsm (L0 := _ :: yL) rfl (List.Perm.swap _ _ _) rfl ?_
     refine Jx rfl rfl (.cons (JA (vs := [_, _, _, _, _, _, _]) rfl (Ja (k := 0) rfl) rfl rfl) (.cons (KO rfl (Ja (k := 1) rfl) rfl rfl) .nil)) (fun w1 hs1 => ?_)
     exact ⟨⟨.mk ya yb yc yd ybits ypb yitems ypi ypick, yL, yok, by rw [hg2 hz hl]; exact yer⟩, congrArg (fun z => Ending.returned (Value.tuple #[Vl.val (.mk ya yb yc yd ybits ypb yitems ypi ypick), .int .i64 z])) ((congrArg Prod.snd (hg2 hz hl)).trans hok).symm, hs1.weakL (.cons _ (.cons _ (.cons _ (List.Sublist.refl _))))⟩)
section
variable {c : Cx} {l : Ko} {L E : Jr} {X : XP} {Q : Exit → Act → World → Prop} {d : List Deferred}
variable {ops : Array Oper} {rest : List Nat} {i k : Nat} {v : Value} {o : Oper} {tb : ji} {S : Jr} {T : Jr → Act → Prop}
theorem Jnc {α : Type} {T0 L0 Rl : Jr} {f : Operand} {args : Array Operand} {at_ : Array TypeId} {g : FuncId} {vs : List Value} {V : α → Value} {LL : α → Jr} {ty : TypeId} {ps : String} {af : Array Edge} {gd : Option (Nat × Bool)}
    (hp : E.Perm (T0 ++ L0)) (hk : Wj ops.toList k = some ⟨some i, .call ⟨.value f, args, at_⟩, ty, ps, af, gd⟩) (hg : Kk l ops ⟨some i, .call ⟨.value f, args, at_⟩, ty, ps, af, gd⟩ = some true) (hi : Nat.ble (i + 1) c.n = true) (hA : tb k = .turn) (hca : KA l f args = some (g, vs)) (eg : Enters c.P g)
    (hpt : PureT c.P g vs.toArray V T0 LL Rl) (hR : ∀ p ∈ Rl, known c L0 p.1 p.2) (hS : ∀ x, SubS S (LL x ++ L0)) (h : ∀ x, HB c d ((i, V x) :: l) (LL x ++ L0) X S ops tb rest T) : HB c d l E X S ops tb (k :: rest) T := fun a hf => by
  refine ⟨_, QH hk, ?_⟩; rw [hA]; refine .inl ⟨α, V, fun x => LL x ++ L0, ⟨JD hf hg, fun w hs => ?_⟩, fun x => ⟨hS x, h x _ (hf.put (Nat.le_of_ble_eq_true hi))⟩⟩
  have hs := hs.perm hp
  obtain ⟨hd1, _, hd3⟩ := List.pairwise_append.1 hs.distinct
  refine Xl hf hca eg ((hpt.run w (fun p hp => (hs.own p (List.mem_append_left _ hp)).2.2) (fun p hp => ?_) hd1 (fun p hp q hq => ?_)).mono fun _ _ ⟨x, he, hk, h1, h2⟩ => ⟨V x, he, x, rfl, hs.turnT hk h1 h2⟩)
  · exact (hR p hp).elim (fun h => (hs.own _ (List.mem_append_right _ h)).2.2) hs.readR
  · rcases hR p hp with h | h
    · exact fun e => hd3 q hq _ h e.symm
    · rintro e
      obtain ⟨h1, _, h3⟩ := hs.ext _ h
      have h3 := Jt h3
      rcases (hs.own q (List.mem_append_left _ hq)).1 with h4 | h4
      · exact h1 (e ▸ h4)
      · simp only at h3 e; omega
end
theorem Jvw {n : Nat} {xs : List Value} (h : xs.length = n) : rowOk 1 n xs (some (0, n, [])) := ⟨by rw [h, Nat.mul_one], by simp⟩
theorem Jnd {R : Jr} {k n : Int} {p : Pl} {ins : List Ty} {items : List Vl} {pi : Pl} (ht : Ty.In R (.mk k n p ins)) (h8 : k ≠ 8) (hs : Seg R items.length (Ql items) pi) (hl : items.length ≤ 600) (hx : ∀ i, i < items.length → VV k 0 i < ins.length)
    (hb : ∀ (i : Nat) x, items[i]? = some x → PureR Tryz.prog 85 [(JM k 0 ins i).val, x.val].toArray (J5 (KC x (JM k 0 ins i))) R) :
    PureT (α := { row : Vw // rowOk 1 items.length (W3 (Kh items k 0 ins 0)) row }) Tryz.prog 135 [Ty.val (.mk k n p ins), KU items.length pi].toArray (fun x => JE items.length x.1) [] (fun x => JX 9 (W3 (Kh items k 0 ins 0)) x.1) R := by
  cases ht with
  | @mk k n p ins hk hn hlt hst hit =>
  have hRL := Wv items k 0 ins 0
  obtain ⟨RS, hRS⟩ : ∃ x, x = Kh items k 0 ins 0 := ⟨_, rfl⟩
  have htk := fun i x (h : items[i]? = some x) => wt k ins (i := 0) h
  simp only [← hRS, Nat.zero_add] at htk; rw [← hRS] at hRL ⊢; refine JI Tryz.func135 rfl rfl fun w => ?_; refine sR fun _ hK1 => ?_; refine Jp (cs := #[_, _, _]) rfl rfl rfl rfl fun r1 => ?_; refine Jj rfl (nK hK1 ?_); refine sR fun _ hK2 => Jj rfl (nK hK2 ?_); refine sQ fun _ hK3 => sR fun _ hK4 => ?_; refine Jj rfl (LR rfl (J7 rfl hs rfl) (Jj rfl ?_)); refine nK hK4 (Jv ?_); refine JN (σ := Nat × Vw) (fun q => q.1 ≤ items.length ∧ rowOk 1 q.1 (W3 (RS.take q.1)) q.2) (fun q => [(2, V5 r1), (5, JE q.1 q.2), (9, KU items.length pi), (10, .int .i64 (items.length : Int)), (11, .int .i64 (q.1 : Int))]) (fun q => VF r1 (.mk k n p ins) :: JX 9 (W3 (RS.take q.1)) q.2) (fun _ _ _ => True) (fun q => items.length - q.1) (0, none) ⟨Nat.zero_le _, by rw [List.take_zero]; exact ⟨rfl, rfl⟩⟩ (.cons rfl (.cons rfl (.cons rfl (.cons rfl (.cons rfl .nil))))) (List.Sublist.refl _) (fun _ _ h => h) ?_; rintro ⟨i, row⟩ ⟨hi1, hrow⟩; simp only at hi1 hrow; change HC _ _ [(2, _), (5, JE i row), (9, _), (10, _), (11, .int .i64 (i : Int))] ((r1, _) :: JX _ (W3 (RS.take i)) row) _ _ _; refine sR fun _ hK5 => JZ rfl (nK hK5 ?_); refine sQ fun _ hK6 => ?_; refine Jd rfl (fun h7 => ?_) (fun h7 => ?_)
  · try simp only [ZZ] at h7
    refine Jg (hK6 ?_); refine sB fun _ hK8 => sQ fun _ hK9 => ?_
    have hil : i < items.length := by omega
    have hix := XD hil
    have hbi := hb i _ hix.1
    have hty := Qp (hx i hil)
    have hi0 : 0 < ins.length := Nat.lt_of_le_of_lt (Nat.zero_le _) (hx i hil)
    have hy0 : ins[0]? = some (ins.getD 0 default) := by rw [List.getD_eq_getElem?_getD, List.getElem?_eq_getElem hi0]; rfl
    have htki := htk i _ hix.1
    obtain ⟨sv, hsv⟩ : ∃ x, x = KC (XC items i) (JM k 0 ins i) := ⟨_, rfl⟩
    rw [← hsv] at hbi htki; refine Jb (Jj rfl ?_)
    refine LR rfl (Jw (j := i) rfl hs rfl rfl rfl (by first | rfl | omega) (by omega)) ?_; refine LR rfl (QF (fun q hq => Or.inr hq) rfl hs hix.1 rfl rfl) ?_; refine Js (cs := #[.int .u64 0, .int .u64 0, .int .u64 0, .int .u64 0, .slice none 0 0, .slice none 0 0, .int .i64 0]) rfl rfl rfl rfl fun rv => ?_; refine Jj rfl (J2 (k := 0) (n := 7) (ys := (XC items i).cells) rfl rfl rfl rfl rfl (XC items i).len rfl (XC items i).one rfl ?_); refine nK hK9 (sR fun _ hK10 => ?_)
    refine LS 2 [1] rfl rfl ?_; refine LR rfl (Jw (j := 0) rfl hst rfl rfl rfl rfl (by omega)) ?_; refine LR rfl (KZ (fun q hq => Or.inr hq) rfl hst hy0 rfl rfl) ?_; refine Js (cs := #[.int .i64 0, .int .i64 0, .slice none 0 0]) rfl rfl rfl rfl fun rt => ?_; refine J2 (k := 0) (n := 3) (ys := (ins.getD 0 default).cells) rfl rfl rfl rfl rfl (ins.getD 0 default).len rfl (ins.getD 0 default).one rfl ?_; refine nK hK10 (sQ fun _ hK11 => ?_); refine sR fun _ hK12 => ?_
    refine LS 3 [2] rfl rfl (nK hK12 ?_); refine Jd rfl (fun h13 => ?_) (fun h13 => ?_)
    · try simp only [ZZ] at h13
      refine Jb ?_
      refine LS 3 [2] rfl rfl ?_; refine LR rfl (Jw (j := VV k 0 i) rfl hst rfl rfl rfl (by unfold VV; rw [if_pos (by assumption)]) (hx i hil)) ?_; refine LR rfl (KZ (fun q hq => Or.inr hq) rfl hst hty.1 rfl rfl) ?_; refine J2 (k := 0) (n := 3) (ys := (JM k 0 ins i).cells) rfl rfl rfl rfl rfl (JM k 0 ins i).len (by rw [List.size_toArray]; exact Ty.len _) (JM k 0 ins i).one rfl ?_; refine nK hK11 ?_
      (have h7 : k = 7 := by assumption
       skip)
      refine Jb (Jj rfl (LR rfl (Ju (xs := (JM k 0 ins i).cells) (n := 3) rfl (Ja (k := 0) rfl) rfl rfl (JM k 0 ins i).len) ?_)); refine LR rfl (Ju (xs := (XC items i).cells) (n := 7) rfl (Ja (k := 1) rfl) rfl rfl (XC items i).len) ?_; refine Ji rfl rfl rfl (enters_of Tryz.func85 (by kernel_rfl) rfl) hbi (fun q hq => Or.inr hq) ?_; refine Ka (vs := [_]) (zs := [_]) (r := [_]) rfl rfl rfl rfl rfl rfl rfl rfl rfl (by show (madeCells #[_] _).toList = _; rw [VE]; exact rfl) rfl fun r2 => ?_; refine Km (L0 := [_, _, _, _]) (xs := W3 (RS.take i)) (row := row) (n := i) (sz := 1) (b := 16) (news := [J5 sv]) (List.perm_append_comm (l₁ := [_, _, _, _])) rfl rfl rfl rfl (Ja (k := 0) rfl) rfl rfl rfl rfl rfl (by decide) rfl rfl rfl (by decide) hrow (by omega) (by omega) fun ra cap sp hra => ?_; refine Jj rfl (Jh ?_); refine Jk (hK8 ?_); refine Jb ?_
      refine JZ rfl ?_; refine J1 (show _ = Value.int .i64 ((i + 1 : Nat) : Int) from by rw [wrap_i64 (by omega) (by omega)]; congr 1 <;> omega) ?_; refine Jj rfl (Jh (JB ?_)); refine Vc [4, 0] (L' := [_, _]) (by decide) rfl ?_; exact J6 (i + 1, some (ra, cap, sp)) ⟨by simp only; omega, by simp only; rw [htki, YO]; exact hra⟩ (by simp only; omega) (.cons rfl (.cons rfl (.cons rfl (.cons rfl (.cons rfl .nil))))) (by simp only; rw [htki, YO]; exact List.Sublist.refl _) (fun _ _ h => h)
    · try simp only [ZZ] at h13
      refine Jg (hK11 ?_)
      (have h7 : ¬ k = 7 := by assumption
       have e : ins.getD 0 default = JM k 0 ins i := by unfold JM VV; rw [if_neg h7, if_neg h8]
       rw [e])
      refine Jb (Jj rfl (LR rfl (Ju (xs := (JM k 0 ins i).cells) (n := 3) rfl (Ja (k := 0) rfl) rfl rfl (JM k 0 ins i).len) ?_)); refine LR rfl (Ju (xs := (XC items i).cells) (n := 7) rfl (Ja (k := 1) rfl) rfl rfl (XC items i).len) ?_; refine Ji rfl rfl rfl (enters_of Tryz.func85 (by kernel_rfl) rfl) hbi (fun q hq => Or.inr hq) ?_; refine Ka (vs := [_]) (zs := [_]) (r := [_]) rfl rfl rfl rfl rfl rfl rfl rfl rfl (by show (madeCells #[_] _).toList = _; rw [VE]; exact rfl) rfl fun r3 => ?_; refine Km (L0 := [_, _, _, _]) (xs := W3 (RS.take i)) (row := row) (n := i) (sz := 1) (b := 16) (news := [J5 sv]) (List.perm_append_comm (l₁ := [_, _, _, _])) rfl rfl rfl rfl (Ja (k := 0) rfl) rfl rfl rfl rfl rfl (by decide) rfl rfl rfl (by decide) hrow (by omega) (by omega) fun ra cap sp hra => ?_; refine Jj rfl (Jh ?_); refine Jk (hK8 ?_); refine Jb ?_
      refine JZ rfl ?_; refine J1 (show _ = Value.int .i64 ((i + 1 : Nat) : Int) from by rw [wrap_i64 (by omega) (by omega)]; congr 1 <;> omega) ?_; refine Jj rfl (Jh (JB ?_)); refine Vc [4, 0] (L' := [_, _]) (by decide) rfl ?_; exact J6 (i + 1, some (ra, cap, sp)) ⟨by simp only; omega, by simp only; rw [htki, YO]; exact hra⟩ (by simp only; omega) (.cons rfl (.cons rfl (.cons rfl (.cons rfl (.cons rfl .nil))))) (by simp only; rw [htki, YO]; exact List.Sublist.refl _) (fun _ _ h => h)
  · try simp only [ZZ] at h7
    refine JL (Jn ?_); refine Jn (J3 (hK3 ?_)); refine sQ fun _ hK14 => ?_
    obtain rfl : i = items.length := by omega
    rw [List.take_of_length_le (by omega)] at hrow ⊢; refine Jb (LS 2 [] rfl rfl ?_); refine nK hK14 (Jc ?_); refine pT rfl rfl rfl fun w1 hs1 => ?_; exact ⟨⟨row, hrow⟩, rfl, hs1.weakL (.cons _ (List.Sublist.refl _))⟩
abbrev jB (l : List BS) : Type := { row : Vw // rowOk 1 l.length (W3 l) row }
def Jg5 (l : List BS) : jB l := ⟨some (0, l.length, []), Jvw (by unfold W3; rw [List.length_map])⟩
abbrev rV {l : List BS} (x : jB l) : Value := KU l.length (Vi x.1)
abbrev rL {l : List BS} (x : jB l) : Jr := JX 9 (W3 l) x.1
theorem Jvx {l : List BS} (x : jB l) : rV x = JE l.length x.1 := Wc _ _ fun h => by
  have h2 := x.2
  rw [h] at h2; exact h2.1
theorem Jne (l : List BS) : (fun x : jB l => rV x) = fun x => JE l.length x.1 := funext fun x => Jvx x
theorem Jnf {s : BS} (hl : s.length ≤ 1000000) : PureT (α := jB (Y3 s)) Tryz.prog 172 [J5 s].toArray (fun x => rV x) [] (fun x => rL x) [] := by
  have h := Jvk hl
  rw [← YR] at h; rw [Jne]; exact h
theorem zi {R : Jr} {k n : Int} {p : Pl} {ins : List Ty} {items : List Vl} {pi : Pl} (ht : Ty.In R (.mk k n p ins)) (h8 : k ≠ 8) (hs : Seg R items.length (Ql items) pi) (hl : items.length ≤ 600) (hx : ∀ i, i < items.length → VV k 0 i < ins.length)
    (hb : ∀ (i : Nat) x, items[i]? = some x → PureR Tryz.prog 85 [(JM k 0 ins i).val, x.val].toArray (J5 (KC x (JM k 0 ins i))) R) :
    PureT (α := jB (Kh items k 0 ins 0)) Tryz.prog 135 [Ty.val (.mk k n p ins), KU items.length pi].toArray (fun x => rV x) [] (fun x => rL x) R := by
  have h := Jnd ht h8 hs hl hx hb
  rw [Jne]
  have e := Wv items k 0 ins 0
  generalize Kh items k 0 ins 0 = RS at h e ⊢
  rw [← e] at h; rw [← e]; exact h
theorem Jng (t : Ty) : Pure Tryz.prog 171 [t.val].toArray (.bool (Xv t)) := by
  obtain ⟨k, n, p, ins⟩ := t
  refine JG Tryz.func171 rfl rfl fun w => ?_; refine sR fun K1 hK1 => ?_; refine Jp (cs := #[_, _, _]) rfl rfl rfl rfl fun r1 => ?_; refine Jj rfl (nK hK1 ?_); clear hK1 K1; refine sR fun K2 hK2 => LS 4 [0] rfl rfl ?_
  refine JH 6 rfl (fun hb3 => ?_) (fun hb3 => ?_) <;> (try simp only [ZZ] at hb3) <;> first | (refine LR rfl (JP rfl rfl rfl) ?_) | (refine LK rfl ?_)
  all_goals refine LW 4 [0] rfl rfl ?_
  all_goals refine Jh ?_
  all_goals (
   refine hK2 ?_; clear hK2 K2; refine Jc (pT rfl rfl rfl fun w1 hs1 => ?_); refine ⟨?_, hs1.keep⟩
   simp_all [JS, Xv, Ty.k]
   all_goals first | done | rfl
   skip)
theorem Jt2 (n : Nat) : ((n + 7) / 8 + 31) / 32 = (n + 255) / 256 := by omega
theorem Jg6 {R : Jr} {l : List Bool} {k : Int} {n : Nat} {p pb : Pl} {ins : List Ty} (hl : l.length ≤ n) (hn : n ≤ 512) (hs : Seg R l.length (Qy l) pb) :
    PureR Tryz.prog 131 [Ty.val (.mk k (n : Int) p ins), KU l.length pb].toArray (J5 (QY (Y3 (V7 l)) ((n + 255) / 256))) R := by
  obtain ⟨N, hN⟩ : ∃ N, N = (l.length + 7) / 8 := ⟨_, rfl⟩
  have hpB : V7 l = KQ l N l.length := by rw [hN]; rfl
  have hnb := qb (bits := l) (n := (n : Int)) (by omega)
  rw [Int.toNat_natCast] at hnb
  have hc32 := Zq (V7 l)
  have hcut := Jnf (s := V7 l) (by rw [Xc]; omega)
  rw [hpB] at hnb hc32 hcut ⊢; refine Je Tryz.func131 rfl rfl fun w => ?_; refine sR fun K1 hK1 => ?_; refine Jp (cs := #[_, _, _]) rfl rfl rfl rfl fun r1 => ?_; refine Jj rfl (nK hK1 ?_); clear hK1 K1; refine sR fun K2 hK2 => Jj rfl (LR rfl (J7 rfl hs rfl) ?_)
  refine JZ rfl ?_; refine J1 (show _ = Value.int .i64 ((l.length + 8 : Nat) : Int) from by rw [wrap_i64 (by omega) (by omega)]; congr 1 <;> omega) ?_
  refine JZ rfl ?_; refine J1 (show _ = Value.int .i64 ((l.length + 7 : Nat) : Int) from by rw [wrap_i64 (by omega) (by omega)]; congr 1 <;> omega) ?_; refine JZ rfl ?_; refine J1 (show _ = Value.int .i64 ((N : Nat) : Int) from congrArg (Value.int .i64) (by rw [QK (by omega) (by decide) (by omega), hN]; rfl)) ?_; refine WU (n := N) (b := 1) rfl rfl rfl rfl rfl rfl rfl rfl rfl (by omega) (by omega) fun rm => ?_; rw [show List.replicate N (Value.int .u8 0) = (KQ l N 0).map bV from by rw [KQ, List.map_replicate]; rfl]; refine Jj rfl (nK hK2 ?_); clear hK2 K2; refine sQ fun K3 hK3 => sR fun K4 hK4 => ?_; refine Jj rfl (LR rfl (J7 rfl hs rfl) (Jj rfl ?_)); refine nK hK4 ?_; clear hK4 K4; refine Jv (JN (σ := Nat) (fun i => i ≤ l.length) (fun i => [(2, V5 r1), (5, .slice (some ⟨rm, 0, none⟩) N N), (14, KU l.length pb), (15, .int .i64 (l.length : Int)), (16, .int .i64 (i : Int))]) (fun i => [(rm, .cells ((KQ l N i).map bV).toArray 5 (0, 0)), VF r1 (.mk k (n : Int) p ins)]) (fun _ _ _ => True) (fun i => l.length - i) 0 (Nat.zero_le _) (.cons rfl (.cons rfl (.cons rfl (.cons rfl (.cons rfl .nil))))) (List.Sublist.refl _) (fun _ _ h => h) ?_); intro i hi1; change HC _ _ _ ((rm, _) :: (r1, _) :: []) _ _ _; refine sR fun K5 hK5 => JZ rfl (nK hK5 ?_); clear hK5 K5; refine sQ fun K6 hK6 => ?_; refine Jd rfl (fun h7 => ?_) (fun h7 => ?_)
  · try simp only [ZZ] at h7
    refine Jg (hK6 ?_); clear hK6 K6; refine sB fun K8 hK8 => sQ fun K9 hK9 => ?_
    have hil : i < l.length := by omega
    have hi8 : i / 8 < N := by omega
    have hyb : l[i]? = some (l.getD i false) := by rw [List.getD_eq_getElem?_getD, List.getElem?_eq_getElem hil]; rfl
    refine Jb (Jj rfl ?_)
    refine LR rfl (Jw (j := i) rfl hs rfl rfl rfl (by first | rfl | omega) (by omega)) ?_; refine LR rfl (XY (fun q hq => Or.inr hq) rfl hs hyb rfl) ?_; refine LS 2 [] rfl rfl (nK hK9 ?_); clear hK9 K9; refine sR fun K10 hK10 => Jj rfl (nK hK10 ?_); clear hK10 K10; refine Jd rfl (fun h11 => ?_) (fun h11 => ?_)
    · try simp only [ZZ] at h11
      have hbt : l.getD i false = true := by assumption
      have hst1 : KQ l N (i + 1) = (KQ l N i).set (i / 8) (UInt8.ofNat (((KQ l N i).getD (i / 8) 0).toNat ||| 2 ^ (i % 8))) := by rw [KQ, if_pos hbt]
      obtain ⟨Y, hY⟩ : ∃ Y, Y = KQ l N i := ⟨_, rfl⟩
      have hYl : Y.length = N := by rw [hY]; exact Vm l N i
      rw [← hY] at hst1 ⊢
      refine JU [] [(0, .pure), (1, .pure), (2, .pure), (3, .pure), (5, .pure), (6, .pure), (7, .pure), (8, .pure), (9, .pure), (10, .turn)] 11 [0, 1, 2, 3, 4, 5, 6, 7, 8, 9, 10] (by kernel_rfl) (by kernel_rfl) (by first | exact (fun _ h => absurd h List.not_mem_nil) | simp [SubS] | (intro p hp; simp [hp])) ?_; refine Jz (k := 0) rfl rfl rfl rfl rfl (fun _ hS => (Jo rfl)) ?_; refine Jz (k := 1) rfl rfl rfl rfl rfl (fun _ hS => (Jo rfl)) ?_
      refine Jz (k := 2) rfl rfl rfl rfl rfl (fun _ _ => (JC rfl rfl rfl)) ?_; refine WA (show _ = Value.int .i64 ((i / 8 : Nat) : Int) from congrArg (Value.int .i64) (by first | exact Wz _ _ | exact QK (by omega) (by decide) (by omega) | (rw [wrap_i64 (by omega) (by omega)]; omega))) ?_; refine Jz (k := 3) rfl rfl rfl rfl rfl (fun _ _ => Ki (j := (i / 8)) (m := 1) (off' := (i / 8)) rfl rfl rfl rfl (by omega) (by omega) (by omega)) ?_; refine Qa (k := 4) rfl rfl rfl rfl rfl (Jm rfl (Ja (k := 0) rfl) rfl (by rw [QZ]; exact Yf (by omega))) ?_; refine Jz (k := 5) rfl rfl rfl rfl rfl (fun _ hS => (Jo rfl)) ?_
      refine Jz (k := 6) rfl rfl rfl rfl rfl (fun _ _ => (JC rfl rfl rfl)) ?_; refine WA (show _ = Value.int .i64 ((i % 8 : Nat) : Int) from congrArg (Value.int .i64) (by first | exact Wz _ _ | exact QK (by omega) (by decide) (by omega) | (rw [wrap_i64 (by omega) (by omega)]; omega))) ?_; refine Jz (k := 7) rfl rfl rfl rfl rfl (fun _ _ => yr (n := i % 8) (b := ((2 ^ (i % 8) : Nat) : Int)) rfl rfl rfl (show _ ≤ 8 from by omega) (Jl5 (by omega))) ?_; refine Jz (k := 8) rfl rfl rfl rfl rfl (fun _ _ => qX (op := .or) (m := (Y.getD (i / 8) 0).toNat) (n := 2 ^ (i % 8)) rfl rfl rfl (Vr _) (Nat.pow_lt_pow_right (by decide) (by omega) : 2 ^ (i % 8) < 2 ^ 8) rfl) ?_; refine WA (Jgl _ (by omega)) ?_; refine Jz (k := 9) rfl rfl rfl rfl rfl (fun _ _ => Ki (j := (i / 8)) (m := 1) (off' := (i / 8)) rfl rfl rfl rfl (by omega) (by omega) (by omega)) ?_; refine WC (k := 10) (q := 0) (cs' := ((KQ l N (i + 1)).map bV).toArray) rfl rfl rfl rfl rfl rfl rfl rfl (by simp; omega) (by rw [yU, hst1]) rfl (fun _ h => nomatch h) ?_; refine KD ?_; refine Jh (Jk (hK8 ?_)); clear hK8 K8; refine Jb ?_
      refine JZ rfl ?_; refine J1 (show _ = Value.int .i64 ((i + 1 : Nat) : Int) from by rw [wrap_i64 (by omega) (by omega)]; congr 1 <;> omega) ?_; refine Jj rfl (Jh (JB ?_)); exact J6 (i + 1) (by omega) (by omega) (.cons rfl (.cons rfl (.cons rfl (.cons rfl (.cons rfl .nil))))) (List.Sublist.refl _) (fun _ _ h => h)
    · try simp only [ZZ] at h11
      refine Jg (Jk (hK8 ?_)); clear hK8 K8; refine Jb ?_
      refine JZ rfl ?_; refine J1 (show _ = Value.int .i64 ((i + 1 : Nat) : Int) from by rw [wrap_i64 (by omega) (by omega)]; congr 1 <;> omega) ?_; refine Jj rfl (Jh (JB ?_))
      (have hst0 : KQ l N (i + 1) = KQ l N i := by rw [KQ, if_neg (by simp_all)]
       exact J6 (i + 1) (by omega) (by omega) (.cons rfl (.cons rfl (.cons rfl (.cons rfl (.cons rfl .nil))))) (by rw [hst0]; exact List.Sublist.refl _) (fun _ _ h => h))
  · try simp only [ZZ] at h7
    refine JL (Jn ?_); clear hK6 K6; refine Jn (J3 (hK3 ?_)); clear hK3 K3; refine sQ fun K12 hK12 => ?_
    obtain rfl : i = l.length := by omega
    refine JU [] [(0, .pure), (2, .grow (Qu (Jg5 (Y3 (KQ l N l.length))) (fun x => rV x) (fun x => rL x))), (3, .pure), (5, .pure), (6, .pure), (7, .pure), (8, .pure), (10, .pure)] 11 [0, 1, 3, 4, 5, 6, 7, 2, 8, 9, 10] (by kernel_rfl) (by kernel_rfl) (by first | exact (fun _ h => absurd h List.not_mem_nil) | simp [SubS] | (intro p hp; simp [hp])) ?_; refine Jz (k := 0) rfl rfl rfl rfl rfl (fun _ hS => (Jo rfl)) ?_; refine Qa (k := 1) rfl rfl rfl rfl rfl (QO (b := KQ l N l.length) (row := some (rm, N, [])) (e := 5) (show _ = some (JE (KQ l N l.length).length _) from by rw [Vm]; rfl) ⟨by rw [List.length_map]; omega, by rw [Vm]; simp⟩ (fun p hp => .inl (by rw [List.mem_singleton.1 hp, List.append_nil]; exact List.mem_cons_self)) rfl rfl rfl) ?_
    refine Jz (k := 3) rfl rfl rfl rfl rfl (fun _ hS => (JP rfl rfl rfl)) ?_; refine Qa (k := 4) rfl rfl rfl rfl rfl (Jm rfl (Ja (k := 1) rfl) rfl rfl) ?_
    refine Jz (k := 5) rfl rfl rfl rfl rfl (fun _ _ => (JC rfl rfl rfl)) ?_; refine WA (show _ = Value.int .i64 ((n + 8 : Nat) : Int) from congrArg (Value.int .i64) (by first | exact Wz _ _ | exact QK (by omega) (by decide) (by omega) | (rw [wrap_i64 (by omega) (by omega)]; omega))) ?_
    refine Jz (k := 6) rfl rfl rfl rfl rfl (fun _ _ => (JC rfl rfl rfl)) ?_; refine WA (show _ = Value.int .i64 ((n + 7 : Nat) : Int) from congrArg (Value.int .i64) (by first | exact Wz _ _ | exact QK (by omega) (by decide) (by omega) | (rw [wrap_i64 (by omega) (by omega)]; omega))) ?_
    refine Jz (k := 7) rfl rfl rfl rfl rfl (fun _ _ => (JC rfl rfl rfl)) ?_; refine WA (show _ = Value.int .i64 (((n + 7) / 8 : Nat) : Int) from congrArg (Value.int .i64) (by first | exact Wz _ _ | exact QK (by omega) (by decide) (by omega) | (rw [wrap_i64 (by omega) (by omega)]; omega))) ?_; refine Qd (k := 2) rfl rfl rfl rfl rfl (enters_of Tryz.func172 (by kernel_rfl) rfl) hcut (fun q hq => nomatch hq) fun x => ?_; refine WB (k := 8) rfl rfl rfl rfl rfl (enters_of Tryz.func173 (by kernel_rfl) rfl) (Jmd (n := (n + 7) / 8) (by omega)) ?_; rw [Jt2]; refine Qr (k := 9) rfl rfl rfl rfl rfl (enters_of Tryz.func134 (by kernel_rfl) rfl) (vf hnb (by omega) (Qj x.2 (by decide)) hc32) (fun q hq => .inl (List.mem_append_left _ hq)) ?_; refine Jz (k := 10) rfl rfl rfl rfl rfl (fun _ hS => (JQ rfl)) ?_; refine KD ?_; refine nK hK12 ?_; clear hK12 K12; refine Jc (pT rfl rfl rfl fun w1 hs1 => ?_); exact ⟨rfl, hs1.keep⟩
section
variable {c : Cx} {l : Ko} {L E : Jr} {X : XP} {Q : Exit → Act → World → Prop} {d : List Deferred}
variable {ops : Array Oper} {rest : List Nat} {i k : Nat} {v : Value} {o : Oper} {tb : ji} {S : Jr} {T : Jr → Act → Prop}
theorem Ji0 {f : Operand} {args : Array Operand} {at_ : Array TypeId} {g : FuncId} {vs : List Value} {Rl : Jr} {ty : TypeId} {ps : String} {af : Array Edge} {gd : Option (Nat × Bool)}
    (hk : Wj ops.toList k = some ⟨some i, .call ⟨.value f, args, at_⟩, ty, ps, af, gd⟩) (hg : Kk l ops ⟨some i, .call ⟨.value f, args, at_⟩, ty, ps, af, gd⟩ = some true) (hi : Nat.ble (i + 1) c.n = true) (hA : tb k = .pure) (hca : KA l f args = some (g, vs)) (eg : Enters c.P g)
    (hp : PureR c.P g vs.toArray v Rl) (hR : ∀ p ∈ Rl, p ∈ S ∨ p ∈ c.R) (h : HB c d ((i, v) :: l) E X S ops tb rest T) : HB c d l E X S ops tb (k :: rest) T := fun a hf => by
  refine ⟨_, QH hk, ?_⟩; rw [hA]; exact ⟨v, .inl ⟨JD hf hg, fun E' hE' w hs => Xl hf hca eg ((hp.run w fun p hp => (hR p hp).elim (fun h => (hs.own _ (hE' p h)).2.2) hs.readR).mono fun _ _ ⟨he, hk⟩ => ⟨v, he, rfl, hk⟩)⟩, h _ (hf.put (Nat.le_of_ble_eq_true hi))⟩
end
theorem Za {k : Int} (h7 : k ≠ 7) (h8 : k ≠ 8) (x : Ty) (i : Nat) : JM k 0 [x] i = x := by unfold JM VV; rw [if_neg h7, if_neg h8]; rfl
theorem Ji1 {l : List Vl} {x : Ty} {i : Nat} {v : Vl} (h : l[i]? = some v) : WX (l.take (i + 1)) x = WX (l.take i) x ++ Vp v x := by
  unfold WX
  rw [List.take_add_one, h]
  simp
theorem Jg7 {x : Ty} : ∀ {l : List Vl}, (∀ v ∈ l, (Vp v x).length ≤ 32) → (WX l x).length ≤ 32 * l.length
  | [], _ => by unfold WX; simp
  | v :: l, h => by
    have ih := Jg7 (l := l) fun y hy => h y (List.mem_cons_of_mem _ hy)
    have h1 := h v List.mem_cons_self
    unfold WX at ih ⊢
    rw [List.map_cons, List.flatten_cons, List.length_append, List.length_cons]; omega
theorem wP {x : Ty} {v : Vl} (hc : V2 x 0 = 0) (hp : Xv x = true) (hf : Ks v x = 0) : jm x v = (Vp v x, 0) ∧ (Vp v x).length ≤ 32 := by
  obtain ⟨f1, f2, f3, f4⟩ := Zr hc hp
  have h1 := f4 v hf
  have h2 : (Vp v x).length ≤ 32 := by omega
  have h3 : Vs x v = 0 := by unfold Vs; rw [if_pos hc]; exact hf
  unfold jm
  rw [if_neg (by rw [h3]; simp), if_neg (by omega)]; exact ⟨rfl, h2⟩
set_option maxHeartbeats 1000000 in
theorem Jt3 {R : Jr} {k : Int} {n : Nat} {p pi : Pl} {x0 : Ty} {items : List Vl} (ht : Ty.In R (.mk k (n : Int) p [x0])) (h7 : k ≠ 7) (h8 : k ≠ 8) (hc : V2 x0 0 = 0) (hs : Seg R items.length (Ql items) pi) (hl : items.length ≤ n) (hn : n ≤ 512)
    (hfit : ∀ v ∈ items, Ks v x0 = 0) (hw : ∀ v ∈ items, wV v ≤ 20000) (hIn : ∀ v ∈ items, v.In R)
    (hb : ∀ (i : Nat) x, items[i]? = some x → PureR Tryz.prog 85 [x0.val, x.val].toArray (J5 (KC x x0)) R) :
    PureR Tryz.prog 127 [Ty.val (.mk k (n : Int) p [x0]), KU items.length pi].toArray (J5 (WR k (n : Int) [x0] items (Kh items k 0 [x0] 0))) R := by
  have hro := zi ht h8 hs (by omega) (fun i _ => by unfold VV; rw [if_neg h7, if_neg h8]; exact Nat.lt_succ_self 0) (fun i x hx => by rw [Za h7 h8]; exact hb i x hx)
  have hrl := Wv items k 0 [x0] 0
  have hr32 : ∀ s ∈ Kh items k 0 [x0] 0, s.length = 32 := fun s hs => by
    obtain ⟨j, x, h1, rfl⟩ := Yh hs
    rw [Za h7 h8]; exact Yi x x0 0 hc (hfit x (List.mem_of_getElem? h1))
  have hrt := fun (x : jB (Kh items k 0 [x0] 0)) => vf (m := n) (by omega) (by omega) (Qj (e := 9) x.2 (by decide)) hr32
  have hM : WR k (n : Int) [x0] items (Kh items k 0 [x0] 0) = if Xv x0 = true then QY (Y3 (WX items x0)) ((n * (JV x0).toNat + 31) / 32) else QY (Kh items k 0 [x0] 0) n := by
    unfold WR
    rw [if_neg h7]; rfl
  rw [hM]
  have hx0 := ht.sub x0 List.mem_cons_self
  have ht2 := ht
  cases ht with
  | @mk k n p ins hk hn2 hlt hst hit =>
  have hpl := Jng x0
  refine Je Tryz.func127 rfl rfl fun w => ?_; refine sR fun _ hK1 => ?_; refine Jp (cs := #[_, _, _]) rfl rfl rfl rfl fun r1 => ?_; refine Jj rfl (nK hK1 ?_); refine sQ fun _ hK2 => sR fun _ hK3 => ?_; refine LS 2 [0] rfl rfl ?_
  refine LR rfl (Jw (j := 0) rfl hst rfl rfl rfl (by first | rfl | omega) (Nat.lt_succ_self 0)) ?_; refine LR rfl (KZ (fun q hq => Or.inr hq) rfl hst (show [x0][0]? = some x0 from rfl) rfl rfl) ?_; refine JF rfl rfl rfl (enters_of Tryz.func171 (by kernel_rfl) rfl) hpl ?_; refine JZ rfl (nK hK3 ?_); refine Jd rfl (fun h4 => ?_) (fun h4 => ?_)
  try simp only [ZZ] at h4
  refine sQ fun _ hK5 => ?_
  refine JU [] [(1, .pure), (2, .grow (Qu (Jg5 (Kh items k 0 [x0] 0)) (fun x => rV x) (fun x => rL x))), (3, .pure), (6, .pure)] 7 [0, 1, 3, 4, 2, 5, 6] (by kernel_rfl) (by kernel_rfl) (by first | exact (fun _ h => absurd h List.not_mem_nil) | simp [SubS] | (intro p hp; simp [hp])) ?_; refine Qa (k := 0) rfl rfl rfl rfl rfl (Ju (xs := (Ty.mk k (n : Int) p [x0]).cells) (n := 3) rfl (Ja (k := 0) rfl) rfl rfl (Ty.mk k (n : Int) p [x0]).len) ?_; refine Jz (k := 1) rfl rfl rfl rfl rfl (fun _ hS => (Jo rfl)) ?_
  refine Jz (k := 3) rfl rfl rfl rfl rfl (fun _ hS => (JP rfl rfl rfl)) ?_; refine Qa (k := 4) rfl rfl rfl rfl rfl (Jm rfl (Ja (k := 0) rfl) rfl rfl) ?_; refine Qd (k := 2) rfl rfl rfl rfl rfl (enters_of Tryz.func135 (by kernel_rfl) rfl) hro (fun q hq => .inr hq) fun x => ?_; refine Qr (k := 5) rfl rfl rfl rfl rfl (enters_of Tryz.func134 (by kernel_rfl) rfl) (hrt x) (fun q hq => .inl (List.mem_append_left _ hq)) ?_; refine Jz (k := 6) rfl rfl rfl rfl rfl (fun _ hS => (JQ rfl)) ?_; refine KD ?_; refine nK hK5 (Jc (Jf ?_)); refine pT rfl rfl rfl fun w1 hs1 => ?_; refine ⟨?_, hs1.keep⟩; rw [if_neg (by rw [Bool.not_eq_true]; assumption)]; rfl
  · try simp only [ZZ] at h4
    refine Jg (hK2 ?_); refine sQ fun _ hK6 => ?_
    have hp : Xv x0 = true := by assumption
    obtain ⟨f1, f2, f3, f4⟩ := Zr hc hp
    obtain ⟨z, hz⟩ : ∃ z, z = (JV x0).toNat := ⟨_, rfl⟩
    have hSz := Jeb hx0
    have hsz : vK x0 = (z : Int) := by unfold vK; rw [if_pos f1]; omega
    rw [hsz] at hSz
    have hnz : n * z ≤ 16384 := by
      have := Nat.mul_le_mul hn (show z ≤ 32 by omega)
      omega
    obtain ⟨C, hC⟩ : ∃ C, C = WX items x0 := ⟨_, rfl⟩
    have hCl : C.length = items.length * z := by rw [hC]; exact j3 fun v hv => by have := f4 v (hfit v hv); omega
    have hCn : C.length ≤ n * z := by rw [hCl]; exact Nat.mul_le_mul_right _ hl
    have hcn : (Y3 C).length ≤ (n * z + 31) / 32 := by rw [YR]; unfold xJ; omega
    refine Jb (Js (cs := #[_, _]) rfl rfl rfl rfl fun r2 => ?_); refine nK hK6 (sQ fun _ hK7 => ?_); refine sR fun _ hK8 => Jj rfl (LR rfl (J7 rfl hs rfl) (Jj rfl ?_)); refine nK hK8 ?_; refine Jv (JN (σ := Nat × Vw × Bool) (fun q => q.1 ≤ items.length ∧ bOk (WX (items.take q.1) x0) q.2.1) (fun q => [(2, V5 r1), (5, V5 r2), (22, KU items.length pi), (23, .int .i64 (items.length : Int)), (24, .int .i64 (q.1 : Int))]) (fun q => WQ r2 (WX (items.take q.1) x0) q.2.1 q.2.2 ++ [VF r1 (Ty.mk k (n : Int) p [x0])]) (fun _ _ _ => True) (fun q => items.length - q.1) (0, none, false) ⟨Nat.zero_le _, xI⟩ (.cons rfl (.cons rfl (.cons rfl (.cons rfl (.cons rfl .nil))))) (List.Sublist.refl _) (fun _ _ h => h) ?_); rintro ⟨i, row, own⟩ ⟨hi1, hb1⟩; simp only at hi1 hb1; change HC _ _ [(2, _), (5, _), (22, _), (23, _), (24, .int .i64 (i : Int))] (WQ r2 (WX (items.take i) x0) row own ++ [VF r1 (Ty.mk k (n : Int) p [x0])]) _ _ _; refine sR fun _ hK9 => JZ rfl (nK hK9 ?_); refine sQ fun _ hK10 => ?_; refine Jd rfl (fun h11 => ?_) (fun h11 => ?_)
    · try simp only [ZZ] at h11
      refine Jg (hK10 ?_); refine sB fun _ hK12 => sQ fun _ hK13 => ?_
      have hil : i < items.length := by omega
      have hix := XD hil
      have hpr := wP hc hp (hfit _ hix.2)
      have hput := Jl8 hx0 (hIn _ hix.2) (hw _ hix.2)
      rw [hpr.1] at hput
      have hsn := Ji1 (x := x0) hix.1
      have hcl := Jg7 (x := x0) (l := items.take i) fun v hv => (wP hc hp (hfit v (List.mem_of_mem_take hv))).2
      rw [List.length_take] at hcl
      have hp2 := hpr.2
      refine Jb ?_
      refine LR rfl (Jw (j := i) rfl hs rfl rfl rfl (by first | rfl | omega) (by omega)) ?_; refine LR rfl (QF (fun q hq => Or.inr hq) rfl hs hix.1 rfl rfl) ?_; refine Js (cs := #[.int .u64 0, .int .u64 0, .int .u64 0, .int .u64 0, .slice none 0 0, .slice none 0 0, .int .i64 0]) rfl rfl rfl rfl fun rv => ?_; refine J2 (k := 0) (n := 7) (ys := (XC items i).cells) rfl rfl rfl rfl rfl (XC items i).len rfl (XC items i).one rfl ?_; refine nK hK13 (sQ fun _ hK14 => ?_); refine Kc 11 (by kernel_rfl) (by kernel_rfl) ?_
      refine Jl rfl rfl rfl (JP rfl rfl rfl) ?_; refine Jl rfl rfl rfl (Jm (v := KU 1 p) rfl (.inl (List.mem_cons_of_mem _ (List.mem_append_right _ List.mem_cons_self))) rfl rfl) ?_
      refine Jl rfl rfl rfl (Jw (j := 0) rfl hst rfl rfl rfl (by first | rfl | omega) (Nat.lt_succ_self 0)) ?_; refine Jl rfl rfl rfl (KZ (fun q hq => Or.inr hq) rfl hst (show [x0][0]? = some x0 from rfl) rfl rfl) ?_; refine Jl rfl rfl rfl (Ju (xs := (XC items i).cells) (n := 7) rfl (Ja (k := 0) rfl) rfl rfl (XC items i).len) ?_; refine VZ rfl rfl rfl (enters_of Tryz.func52 (by kernel_rfl) rfl) hput (fun q hq => Or.inr hq) ?_; refine Jl rfl rfl rfl (Jo rfl) ?_; refine Jl rfl rfl rfl (Qk rfl rfl) ?_; refine Jl rfl rfl rfl (Qk rfl rfl) ?_; refine Jl rfl rfl rfl (JQ rfl) ?_; refine Jl rfl rfl rfl (JQ rfl) ?_; refine Kw ?_; refine nK hK14 ?_; refine Jb (Jj rfl (Vh (T := WQ r2 (WX (items.take i) x0) row own) (L0 := _ :: [VF r1 (Ty.mk k (n : Int) p [x0])]) (Rl := []) List.perm_middle.symm rfl rfl rfl (enters_of Tryz.func101 (by kernel_rfl) rfl) (vg hb1 (s2 := Vp (XC items i) x0) (by omega)) (fun q hq => nomatch hq) fun x => ?_))
      obtain ⟨rowx, hbx⟩ := x
      refine Jh (Jk (hK12 ?_)); refine Jb ?_
      refine JZ rfl ?_; refine J1 (show _ = Value.int .i64 ((i + 1 : Nat) : Int) from by rw [wrap_i64 (by omega) (by omega)]; congr 1 <;> omega) ?_; refine Jj rfl (Jh (JB ?_)); refine jv (L' := WQ r2 (WX (items.take (i + 1)) x0) rowx true ++ [VF r1 (Ty.mk k (n : Int) p [x0])]) (by rw [hsn]; exact (List.Sublist.refl _).append (.cons _ (List.Sublist.refl _))) ?_; exact J6 (i + 1, rowx, true) ⟨by simp only; omega, by simp only; rw [hsn]; exact hbx⟩ (by simp only; omega) (.cons rfl (.cons rfl (.cons rfl (.cons rfl (.cons rfl .nil))))) (List.Sublist.refl _) (fun _ _ h => h)
    · try simp only [ZZ] at h11
      refine JL (Jn ?_); refine Jn (J3 (hK7 ?_)); refine sQ fun _ hK15 => ?_
      obtain rfl : i = items.length := by omega
      rw [List.take_length, ← hC] at hb1; rw [List.take_length, ← hC]; refine JU [VF r1 (Ty.mk k (n : Int) p [x0])] [(0, .turn), (1, .grow (Qu (Jg5 (Y3 C)) (fun x => rV x) (fun x => rL x))), (2, .pure), (3, .pure), (4, .pure), (5, .pure), (6, .pure), (7, .pure), (8, .pure), (9, .pure), (10, .pure)] 11 [2, 3, 4, 5, 6, 7, 0, 1, 8, 9, 10] (by kernel_rfl) (by kernel_rfl) (fun p hp => List.mem_append_right _ hp) ?_
      refine Jz (k := 2) rfl rfl rfl rfl rfl (fun _ hS => (JP rfl rfl rfl)) ?_; refine Jz (k := 3) rfl rfl rfl rfl rfl (fun E' hS => Jm (v := .int .i64 (n : Int)) rfl (.inl (hS _ List.mem_cons_self)) rfl rfl) ?_
      refine Jz (k := 4) rfl rfl rfl rfl rfl (fun _ hS => (JP rfl rfl rfl)) ?_; refine Jz (k := 5) rfl rfl rfl rfl rfl (fun E' hS => Jm (v := KU 1 p) rfl (.inl (hS _ List.mem_cons_self)) rfl rfl) ?_
      refine Jz (k := 6) rfl rfl rfl rfl rfl (fun E' hS => Jw (j := 0) rfl hst rfl rfl rfl (by first | rfl | omega) (Nat.lt_succ_self 0)) ?_; refine Jz (k := 7) rfl rfl rfl rfl rfl (fun E' hS => KZ (fun q hq => Or.inr hq) rfl hst (show [x0][0]? = some x0 from rfl) rfl rfl) ?_; refine Jnc (k := 0) (T0 := WQ r2 C row own) (L0 := [VF r1 (Ty.mk k (n : Int) p [x0])]) (Rl := []) (List.Perm.refl _) rfl rfl rfl rfl rfl (enters_of Tryz.func103 (by kernel_rfl) rfl) (Je0 hb1 (by omega)) (fun q hq => nomatch hq) (fun _ p hp => hp) fun u => ?_; refine Qd (k := 1) rfl rfl rfl rfl rfl (enters_of Tryz.func172 (by kernel_rfl) rfl) (Jnf (s := C) (by omega)) (fun q hq => nomatch hq) fun x => ?_; refine Ji0 (k := 8) rfl rfl rfl rfl rfl (enters_of Tryz.func143 (by kernel_rfl) rfl) hSz (fun q hq => .inr hq) ?_; refine Jz (k := 9) rfl rfl rfl rfl rfl (fun _ _ => (JC rfl rfl rfl)) ?_; refine WA (show _ = Value.int .i64 ((n * z : Nat) : Int) from congrArg (Value.int .i64) (by rw [← Int.natCast_mul]; exact wrap_i64 (by omega) (by omega))) ?_; refine WB (k := 10) rfl rfl rfl rfl rfl (enters_of Tryz.func173 (by kernel_rfl) rfl) (Jmd (n := n * z) (by omega)) ?_; refine KD ?_; refine Ji rfl rfl rfl (enters_of Tryz.func134 (by kernel_rfl) rfl) (vf hcn (by omega) (Qj x.2 (by decide)) (Zq _)) (fun q hq => .inl (List.mem_append_left _ hq)) ?_; refine Jj rfl (nK hK15 ?_); refine Jc (pT rfl rfl rfl fun w1 hs1 => ?_); refine ⟨?_, hs1.keep⟩; rw [if_pos hp, ← hz, ← hC]; rfl
section
variable {R : Jr} {k n : Int} {p : Pl} {ins : List Ty} {a b c d : Nat} {bits : List Bool} {pb : Pl} {items : List Vl} {pi : Pl} {pick : Int} {s : BS}
theorem Jw1 (h : PureR Tryz.prog 127 [Ty.val (.mk k n p ins), KU items.length pi].toArray (J5 s) R) : PureR Tryz.prog 126 [Ty.val (.mk k n p ins), Vl.val (.mk a b c d bits pb items pi pick)].toArray (J5 s) R := by
  refine Je Tryz.func126 rfl rfl fun w => ?_; refine sR fun _ hK1 => ?_; refine Jp (cs := #[_, _, _]) rfl rfl rfl rfl fun r1 => ?_; refine Jp (cs := #[_, _, _, _, _, _, _]) rfl rfl rfl rfl fun r2 => ?_; refine Jj rfl (nK hK1 ?_); refine sR fun _ hK2 => ?_; refine LR rfl (Ju (xs := (Ty.mk k n p ins).cells) (n := 3) rfl (Ja (k := 1) rfl) rfl rfl (Ty.mk k n p ins).len) ?_
  refine LS 2 [0] rfl rfl ?_; refine Ji rfl rfl rfl (enters_of Tryz.func127 (by kernel_rfl) rfl) h (fun q hq => Or.inr hq) ?_; refine Jj rfl (nK hK2 ?_); refine Jc (pT rfl rfl rfl fun w1 hs1 => ?_); exact ⟨rfl, hs1.keep⟩
theorem Jw2 (hs : Seg R items.length (Ql items) pi) (h32 : s.length = 32) (hl : items.length ≤ 512) (h : PureR Tryz.prog 127 [Ty.val (.mk k n p ins), KU items.length pi].toArray (J5 s) R) : PureR Tryz.prog 128 [Ty.val (.mk k n p ins), Vl.val (.mk a b c d bits pb items pi pick)].toArray (J5 (XQ s items.length)) R := by
  refine Je Tryz.func128 rfl rfl fun w => ?_; refine sR fun _ hK1 => ?_; refine Jp (cs := #[_, _, _]) rfl rfl rfl rfl fun r1 => ?_; refine Jp (cs := #[_, _, _, _, _, _, _]) rfl rfl rfl rfl fun r2 => ?_; refine Jj rfl (nK hK1 ?_); refine sQ fun _ hK2 => ?_
  refine JU [] [(1, .pure), (4, .pure), (6, .pure), (7, .pure), (8, .pure)] 9 [0, 1, 2, 4, 5, 6, 3, 7, 8] (by kernel_rfl) (by kernel_rfl) (by first | exact (fun _ h => absurd h List.not_mem_nil) | simp [SubS] | (intro p hp; simp [hp])) ?_; refine Qa (k := 0) rfl rfl rfl rfl rfl (Ju (xs := (Ty.mk k n p ins).cells) (n := 3) rfl (Ja (k := 1) rfl) rfl rfl (Ty.mk k n p ins).len) ?_
  refine Jz (k := 1) rfl rfl rfl rfl rfl (fun _ hS => (JP rfl rfl rfl)) ?_; refine Qa (k := 2) rfl rfl rfl rfl rfl (Jm rfl (Ja (k := 0) rfl) rfl rfl) ?_
  refine Jz (k := 4) rfl rfl rfl rfl rfl (fun _ hS => (JP rfl rfl rfl)) ?_; refine Qa (k := 5) rfl rfl rfl rfl rfl (Jm rfl (Ja (k := 0) rfl) rfl rfl) ?_; refine Jz (k := 6) rfl rfl rfl rfl rfl (fun _ hS => (J7 rfl hs rfl)) ?_; refine Qr (k := 3) rfl rfl rfl rfl rfl (enters_of Tryz.func127 (by kernel_rfl) rfl) h (fun q hq => Or.inr hq) ?_; refine WB (k := 7) rfl rfl rfl rfl rfl (enters_of Tryz.func129 (by kernel_rfl) rfl) (Jl1 (by omega) (by omega)) ?_; refine Jz (k := 8) rfl rfl rfl rfl rfl (fun _ hS => (JQ rfl)) ?_; refine KD ?_; refine nK hK2 (Jc ?_); refine pT rfl rfl rfl fun w1 hs1 => ?_; exact ⟨rfl, hs1.keep⟩
theorem Jw3 (h : PureR Tryz.prog 131 [Ty.val (.mk k n p ins), KU bits.length pb].toArray (J5 s) R) : PureR Tryz.prog 130 [Ty.val (.mk k n p ins), Vl.val (.mk a b c d bits pb items pi pick)].toArray (J5 s) R := by
  refine Je Tryz.func130 rfl rfl fun w => ?_; refine sR fun _ hK1 => ?_; refine Jp (cs := #[_, _, _]) rfl rfl rfl rfl fun r1 => ?_; refine Jp (cs := #[_, _, _, _, _, _, _]) rfl rfl rfl rfl fun r2 => ?_; refine Jj rfl (nK hK1 ?_); refine sR fun _ hK2 => ?_; refine LR rfl (Ju (xs := (Ty.mk k n p ins).cells) (n := 3) rfl (Ja (k := 1) rfl) rfl rfl (Ty.mk k n p ins).len) ?_
  refine LS 2 [0] rfl rfl ?_; refine Ji rfl rfl rfl (enters_of Tryz.func131 (by kernel_rfl) rfl) h (fun q hq => Or.inr hq) ?_; refine Jj rfl (nK hK2 ?_); refine Jc (pT rfl rfl rfl fun w1 hs1 => ?_); exact ⟨rfl, hs1.keep⟩
theorem Jw4 (hs : Seg R bits.length (Qy bits) pb) (h32 : s.length = 32) (hl : bits.length ≤ 512) (h : PureR Tryz.prog 131 [Ty.val (.mk k n p ins), KU bits.length pb].toArray (J5 s) R) : PureR Tryz.prog 132 [Ty.val (.mk k n p ins), Vl.val (.mk a b c d bits pb items pi pick)].toArray (J5 (XQ s bits.length)) R := by
  refine Je Tryz.func132 rfl rfl fun w => ?_; refine sR fun _ hK1 => ?_; refine Jp (cs := #[_, _, _]) rfl rfl rfl rfl fun r1 => ?_; refine Jp (cs := #[_, _, _, _, _, _, _]) rfl rfl rfl rfl fun r2 => ?_; refine Jj rfl (nK hK1 ?_); refine sQ fun _ hK2 => ?_
  refine JU [] [(1, .pure), (4, .pure), (6, .pure), (7, .pure), (8, .pure)] 9 [0, 1, 2, 4, 5, 6, 3, 7, 8] (by kernel_rfl) (by kernel_rfl) (by first | exact (fun _ h => absurd h List.not_mem_nil) | simp [SubS] | (intro p hp; simp [hp])) ?_; refine Qa (k := 0) rfl rfl rfl rfl rfl (Ju (xs := (Ty.mk k n p ins).cells) (n := 3) rfl (Ja (k := 1) rfl) rfl rfl (Ty.mk k n p ins).len) ?_
  refine Jz (k := 1) rfl rfl rfl rfl rfl (fun _ hS => (JP rfl rfl rfl)) ?_; refine Qa (k := 2) rfl rfl rfl rfl rfl (Jm rfl (Ja (k := 0) rfl) rfl rfl) ?_
  refine Jz (k := 4) rfl rfl rfl rfl rfl (fun _ hS => (JP rfl rfl rfl)) ?_; refine Qa (k := 5) rfl rfl rfl rfl rfl (Jm rfl (Ja (k := 0) rfl) rfl rfl) ?_; refine Jz (k := 6) rfl rfl rfl rfl rfl (fun _ hS => (J7 rfl hs rfl)) ?_; refine Qr (k := 3) rfl rfl rfl rfl rfl (enters_of Tryz.func131 (by kernel_rfl) rfl) h (fun q hq => Or.inr hq) ?_; refine WB (k := 7) rfl rfl rfl rfl rfl (enters_of Tryz.func129 (by kernel_rfl) rfl) (Jl1 (by omega) (by omega)) ?_; refine Jz (k := 8) rfl rfl rfl rfl rfl (fun _ hS => (JQ rfl)) ?_; refine KD ?_; refine nK hK2 (Jc ?_); refine pT rfl rfl rfl fun w1 hs1 => ?_; exact ⟨rfl, hs1.keep⟩
theorem Jw5 {l : List BS} (hst : Seg R ins.length (zK ins) p) (hl : l.length ≤ ins.length) (hn : ins.length ≤ 16) (h32 : ∀ s ∈ l, s.length = 32) (h : PureT (α := jB l) Tryz.prog 135 [Ty.val (.mk k n p ins), KU items.length pi].toArray (fun x => rV x) [] (fun x => rL x) R) :
    PureR Tryz.prog 133 [Ty.val (.mk k n p ins), Vl.val (.mk a b c d bits pb items pi pick)].toArray (J5 (QY l ins.length)) R := by
  refine Je Tryz.func133 rfl rfl fun w => ?_; refine sR fun _ hK1 => ?_; refine Jp (cs := #[_, _, _]) rfl rfl rfl rfl fun r1 => ?_; refine Jp (cs := #[_, _, _, _, _, _, _]) rfl rfl rfl rfl fun r2 => ?_; refine Jj rfl (nK hK1 ?_); refine sQ fun _ hK2 => ?_
  refine JU [] [(1, .pure), (3, .grow (Qu (Jg5 l) (fun x => rV x) (fun x => rL x))), (4, .pure), (6, .pure), (8, .pure)] 9 [0, 1, 2, 4, 5, 6, 3, 7, 8] (by kernel_rfl) (by kernel_rfl) (by first | exact (fun _ h => absurd h List.not_mem_nil) | simp [SubS] | (intro p hp; simp [hp])) ?_; refine Qa (k := 0) rfl rfl rfl rfl rfl (Ju (xs := (Ty.mk k n p ins).cells) (n := 3) rfl (Ja (k := 1) rfl) rfl rfl (Ty.mk k n p ins).len) ?_
  refine Jz (k := 1) rfl rfl rfl rfl rfl (fun _ hS => (JP rfl rfl rfl)) ?_; refine Qa (k := 2) rfl rfl rfl rfl rfl (Jm rfl (Ja (k := 0) rfl) rfl rfl) ?_
  refine Jz (k := 4) rfl rfl rfl rfl rfl (fun _ hS => (JP rfl rfl rfl)) ?_; refine Qa (k := 5) rfl rfl rfl rfl rfl (Jm rfl (Ja (k := 1) rfl) rfl rfl) ?_; refine Jz (k := 6) rfl rfl rfl rfl rfl (fun _ hS => (J7 rfl hst rfl)) ?_; refine Qd (k := 3) rfl rfl rfl rfl rfl (enters_of Tryz.func135 (by kernel_rfl) rfl) h (fun q hq => .inr hq) fun x => ?_; refine Qr (k := 7) rfl rfl rfl rfl rfl (enters_of Tryz.func134 (by kernel_rfl) rfl) (vf hl (by omega) (Qj x.2 (by decide)) h32) (fun q hq => .inl (List.mem_append_left _ hq)) ?_; refine Jz (k := 8) rfl rfl rfl rfl rfl (fun _ hS => (JQ rfl)) ?_; refine KD ?_; refine nK hK2 (Jc ?_); refine pT rfl rfl rfl fun w1 hs1 => ?_; exact ⟨rfl, hs1.keep⟩
theorem Jw6 {m : Nat} {y : Ty} {x : Vl} (hst : Seg R ins.length (zK ins) p) (hs : Seg R items.length (Ql items) pi) (hm : m ≤ 8) (hy : ins[m]? = some y) (hx : items[0]? = some x) (h32 : s.length = 32) (h : PureR Tryz.prog 85 [y.val, x.val].toArray (J5 s) R) :
    PureR Tryz.prog 136 [Ty.val (.mk k n p ins), Vl.val (.mk a b c d bits pb items pi (m : Int))].toArray (J5 (XQ s m)) R := by
  have hm1 := (List.getElem?_eq_some_iff.1 hy).1
  have hm2 := (List.getElem?_eq_some_iff.1 hx).1
  refine Je Tryz.func136 rfl rfl fun w => ?_; refine sR fun _ hK1 => ?_; refine Jp (cs := #[_, _, _]) rfl rfl rfl rfl fun r1 => ?_; refine Jp (cs := #[_, _, _, _, _, _, _]) rfl rfl rfl rfl fun r2 => ?_; refine Jj rfl (nK hK1 ?_); refine sQ fun _ hK2 => ?_
  refine JU [] [(0, .pure), (2, .pure), (4, .pure), (6, .pure), (8, .pure), (11, .pure), (13, .pure), (14, .pure)] 15 [0, 1, 2, 3, 4, 5, 6, 7, 8, 9, 11, 12, 10, 13, 14] (by kernel_rfl) (by kernel_rfl) (by first | exact (fun _ h => absurd h List.not_mem_nil) | simp [SubS] | (intro p hp; simp [hp])) ?_
  refine Jz (k := 0) rfl rfl rfl rfl rfl (fun _ hS => (JP rfl rfl rfl)) ?_; refine Qa (k := 1) rfl rfl rfl rfl rfl (Jm rfl (Ja (k := 1) rfl) rfl rfl) ?_
  refine Jz (k := 2) rfl rfl rfl rfl rfl (fun _ hS => (JP rfl rfl rfl)) ?_; refine Qa (k := 3) rfl rfl rfl rfl rfl (Jm rfl (Ja (k := 0) rfl) rfl rfl) ?_; refine Jz (k := 4) rfl rfl rfl rfl rfl (fun E' hS => Jw (j := m) rfl hst rfl rfl rfl rfl hm1) ?_; refine Qa (k := 5) rfl rfl rfl rfl rfl (KZ (fun q hq => Or.inr hq) rfl hst hy rfl rfl) ?_
  refine Jz (k := 6) rfl rfl rfl rfl rfl (fun _ hS => (JP rfl rfl rfl)) ?_; refine Qa (k := 7) rfl rfl rfl rfl rfl (Jm rfl (Ja (k := 0) rfl) rfl rfl) ?_
  refine Jz (k := 8) rfl rfl rfl rfl rfl (fun E' hS => Jw (j := 0) rfl hs rfl rfl rfl (by first | rfl | omega) hm2) ?_; refine Qa (k := 9) rfl rfl rfl rfl rfl (QF (fun q hq => Or.inr hq) rfl hs hx rfl rfl) ?_
  refine Jz (k := 11) rfl rfl rfl rfl rfl (fun _ hS => (JP rfl rfl rfl)) ?_; refine Qa (k := 12) rfl rfl rfl rfl rfl (Jm rfl (Ja (k := 0) rfl) rfl rfl) ?_; refine Qr (k := 10) rfl rfl rfl rfl rfl (enters_of Tryz.func85 (by kernel_rfl) rfl) h (fun q hq => Or.inr hq) ?_; refine WB (k := 13) rfl rfl rfl rfl rfl (enters_of Tryz.func129 (by kernel_rfl) rfl) (Jl1 (by omega) (by omega)) ?_; refine Jz (k := 14) rfl rfl rfl rfl rfl (fun _ hS => (JQ rfl)) ?_; refine KD ?_; refine nK hK2 (Jc ?_); refine pT rfl rfl rfl fun w1 hs1 => ?_; exact ⟨rfl, hs1.keep⟩
theorem XJ {g : FuncId} (hlk : QN Y7 (.int .i64 k) (rootM.toList.map XK) = some (.func (.func g) #[] #[])) (eg : Enters Tryz.prog g) (hg : PureR Tryz.prog g [Ty.val (.mk k n p ins), Vl.val (.mk a b c d bits pb items pi pick)].toArray (J5 s) R) :
    PureR Tryz.prog 85 [Ty.val (.mk k n p ins), Vl.val (.mk a b c d bits pb items pi pick)].toArray (J5 s) R := by
  refine Je Tryz.func85 rfl rfl fun w => ?_; refine sR fun _ hK1 => ?_; refine Jp (cs := #[_, _, _]) rfl rfl rfl rfl fun r1 => ?_; refine Jp (cs := #[_, _, _, _, _, _, _]) rfl rfl rfl rfl fun r2 => ?_; refine Jj rfl (nK hK1 ?_); refine sR fun _ hK2 => ?_; refine vM rfl rfl fun rm => ?_; refine Qc (q := 0) (key := .int .i64 1) (val := .func (.func 125) #[] #[]) (X6 (t := 3) (by kernel_rfl)) rfl rfl rfl rfl rfl rfl ⟨_, rfl⟩ (by intro e he; simp at he) rfl rfl ?_
  refine Qc (q := 0) (key := .int .i64 2) (val := .func (.func 125) #[] #[]) (X6 (t := 3) (by kernel_rfl)) rfl rfl rfl rfl rfl rfl ⟨_, rfl⟩ (by intro e he; simp at he; rcases he with rfl <;> exact ⟨_, rfl⟩) rfl rfl ?_
  refine Qc (q := 0) (key := .int .i64 3) (val := .func (.func 126) #[] #[]) (X6 (t := 3) (by kernel_rfl)) rfl rfl rfl rfl rfl rfl ⟨_, rfl⟩ (by intro e he; simp at he; rcases he with rfl | rfl <;> exact ⟨_, rfl⟩) rfl rfl ?_
  refine Qc (q := 0) (key := .int .i64 4) (val := .func (.func 128) #[] #[]) (X6 (t := 3) (by kernel_rfl)) rfl rfl rfl rfl rfl rfl ⟨_, rfl⟩ (by intro e he; simp at he; rcases he with rfl | rfl | rfl <;> exact ⟨_, rfl⟩) rfl rfl ?_
  refine Qc (q := 0) (key := .int .i64 5) (val := .func (.func 130) #[] #[]) (X6 (t := 3) (by kernel_rfl)) rfl rfl rfl rfl rfl rfl ⟨_, rfl⟩ (by intro e he; simp at he; rcases he with rfl | rfl | rfl | rfl <;> exact ⟨_, rfl⟩) rfl rfl ?_
  refine Qc (q := 0) (key := .int .i64 6) (val := .func (.func 132) #[] #[]) (X6 (t := 3) (by kernel_rfl)) rfl rfl rfl rfl rfl rfl ⟨_, rfl⟩ (by intro e he; simp at he; rcases he with rfl | rfl | rfl | rfl | rfl <;> exact ⟨_, rfl⟩) rfl rfl ?_
  refine Qc (q := 0) (key := .int .i64 7) (val := .func (.func 133) #[] #[]) (X6 (t := 3) (by kernel_rfl)) rfl rfl rfl rfl rfl rfl ⟨_, rfl⟩ (by intro e he; simp at he; rcases he with rfl | rfl | rfl | rfl | rfl | rfl <;> exact ⟨_, rfl⟩) rfl rfl ?_
  refine Qc (q := 0) (key := .int .i64 8) (val := .func (.func 136) #[] #[]) (X6 (t := 3) (by kernel_rfl)) rfl rfl rfl rfl rfl rfl ⟨_, rfl⟩ (by intro e he; simp at he; rcases he with rfl | rfl | rfl | rfl | rfl | rfl | rfl <;> exact ⟨_, rfl⟩) rfl rfl ?_; change HL _ _ _ ((rm, .map rootM 8) :: _) _ _ _ _; refine LS 2 [] rfl rfl (nK hK2 ?_); refine sR fun _ hK3 => Jj rfl ?_
  refine LS 2 [2] rfl rfl ?_; refine LR rfl (XW (v := .func (.func g) #[] #[]) (X6 (t := 3) (by kernel_rfl)) rfl rfl (Ja (k := 0) rfl) rfl rfl ⟨_, rfl⟩ Jih (by show (QN Y7 (.int .i64 k) (rootM.toList.map XK)).getD _ = _; rw [hlk]; rfl)) ?_; refine LS 2 [2, 1] rfl rfl ?_; refine Ji rfl rfl rfl eg hg (fun q hq => Or.inr hq) ?_; refine Jj rfl (nK hK3 ?_); refine Jc (pT rfl rfl rfl fun w1 hs1 => ?_); exact ⟨rfl, hs1.keep⟩
end
theorem Ji2 {l : List Vl} {k pick : Int} {ins : List Ty} (h : l.length = 1) : (Kh l k pick ins 0).headD [] = KC (XC l 0) (JM k pick ins 0) := by
  match l, h with
  | [x], _ => rw [Kh]; rfl
theorem Jnh {a b c d : Nat} {bits : List Bool} {pb : Pl} {items : List Vl} {pi : Pl} {pick k n : Int} {p : Pl} {ins : List Ty} (hcz : V2 (.mk k n p ins) 0 = 0) (hfit : Ks (.mk a b c d bits pb items pi pick) (.mk k n p ins) = 0) (hk : k = 3 ∨ k = 4 ∨ k = 7) : (WR k n ins items (Kh items k 0 ins 0)).length = 32 := by
  obtain ⟨q1, q2, q3⟩ := wv hcz hfit
  have hrow := fun (j : Nat) x (h : items[j]? = some x) => Jgn hcz hfit (by omega) h
  have hrs : ∀ s ∈ Kh items k 0 ins 0, s.length = 32 := fun s hs => by
    obtain ⟨j, x, h1, rfl⟩ := Yh hs
    rw [Nat.zero_add]
    obtain ⟨_, r1, r2, r3⟩ := hrow j x h1
    exact Yi x _ 0 r2 r3
  have hrl := Wv items k 0 ins 0
  unfold WR
  by_cases h7 : k = 7
  · rw [if_pos h7]
    exact VT (by have := q3 h7; omega) hrs
  · rw [if_neg h7]
    obtain ⟨w1, w2, w3, w4⟩ := q1 (by omega)
    match ins, w4 with
    | [x0], _ =>
    rw [show [x0].getD 0 default = x0 from rfl]
    by_cases hp : Xv x0 = true
    · rw [if_pos hp]
      have hc0 := XG hcz _ List.mem_cons_self
      obtain ⟨f1, f2, f3, f4⟩ := Zr hc0 hp
      refine VT ?_ (Zq _); rw [YR]
      unfold xJ
      have hz : ∀ v ∈ items, (Vp v x0).length = (JV x0).toNat := fun v hv => by
        obtain ⟨j, hj⟩ := List.getElem?_of_mem hv
        have hg := (hrow j v hj).2.2.2
        rw [Za h7 (by omega)] at hg
        have := f4 v hg
        omega
      rw [j3 hz]
      have hm : items.length * (JV x0).toNat ≤ n.toNat * (JV x0).toNat := Nat.mul_le_mul_right _ (by omega)
      omega
    · rw [if_neg hp]
      exact VT (by omega) hrs
set_option maxHeartbeats 1000000 in
theorem Jt4 {R : Jr} {v : Vl} (hv : v.In R) : ∀ (t : Ty) (dp : Nat), t.In R → V2 t (dp : Int) = 0 → Ks v t = 0 → wV v ≤ 20000 → PureR Tryz.prog 85 [t.val, v.val].toArray (J5 (KC v t)) R := by
  have hv0 := hv
  induction hv with
  | @mk a b c d bits pb items pi pick ha hb hcc hd hlb hsb hl hs hp hi ih =>
  intro t dp ht hck hfit hw
  obtain ⟨k, n, p, ins⟩ := t
  have ht0 := ht
  cases ht with
  | mk hk hn hlt hst hit =>
  obtain ⟨hk8, ho, h6, hci⟩ := QP hck
  obtain ⟨hf1, hf2, hf3⟩ := Xd hfit
  obtain ⟨m1, m2, m3, m4⟩ := Jcs hck hfit
  obtain ⟨q1, q2, q3⟩ := wv hck hfit
  have hcz := wu hck
  have hrow := fun (h8 : k ≠ 8) (j : Nat) x (h : items[j]? = some x) => Jgn hcz hfit h8 h
  have hwi : ∀ x ∈ items, wV x ≤ 20000 := fun x hx => Nat.le_trans (Je1 hx) hw
  have hrec : k ≠ 8 → ∀ (i : Nat) x, items[i]? = some x → PureR Tryz.prog 85 [(JM k 0 ins i).val, x.val].toArray (J5 (KC x (JM k 0 ins i))) R := fun h8 i x hx => by
    obtain ⟨_, r1, r2, r3⟩ := hrow h8 i x hx
    have hm := List.mem_of_getElem? hx
    exact ih x hm (hi x hm) _ 0 (hit _ r1) r2 r3 (hwi x hm)
  have hlen := Yi _ _ dp hck hfit
  rw [WI] at hlen ⊢
  by_cases h1 : k = 1
  · subst h1
    rw [if_pos (.inl rfl)]; exact XJ rfl (enters_of Tryz.func125 (by kernel_rfl) rfl) (Jci _ hv0).toR
  by_cases h2 : k = 2
  · subst h2
    rw [if_pos (.inr rfl)]; exact XJ rfl (enters_of Tryz.func125 (by kernel_rfl) rfl) (Jci _ hv0).toR
  rw [if_neg (by omega)] at hlen ⊢
  have hone : k ≠ 7 → k ≠ 8 → ∀ x0, ins = [x0] → ∀ N : Nat, n = (N : Int) → N ≤ 512 → items.length ≤ N → PureR Tryz.prog 127 [Ty.val (.mk k n p ins), KU items.length pi].toArray (J5 (WR k n ins items (Kh items k 0 ins 0))) R := fun h7 h8 x0 e N en hN hle => by
    subst e; subst en; refine Jt3 ht0 h7 h8 (XG hcz _ List.mem_cons_self) hs hle hN (fun v hv => ?_) hwi hi fun i x hx => ?_
    · obtain ⟨j, hj⟩ := List.getElem?_of_mem hv
      have := (hrow h8 j v hj).2.2.2
      rwa [Za h7 h8] at this
    · have := hrec h8 i x hx
      rwa [Za h7 h8] at this
  by_cases h4 : k = 4
  · subst h4
    obtain ⟨w1, w2, w3, w4⟩ := q1 (.inr rfl)
    rw [if_pos rfl, ws (by decide)] at hlen ⊢
    have hrl : (WR 4 n ins items (Kh items 4 0 ins 0)).length = 32 := Jnh hcz hfit (.inr (.inl rfl))
    obtain ⟨x0, hx0⟩ := List.length_eq_one_iff.1 w4
    exact XJ rfl (enters_of Tryz.func128 (by kernel_rfl) rfl) (Jw2 hs hrl m1 (hone (by decide) (by decide) x0 hx0 n.toNat (by omega) (by omega) (by omega)))
  rw [if_neg h4] at hlen ⊢
  by_cases h5 : k = 5
  · subst h5
    obtain ⟨w1, w2, w3⟩ := q2 (.inl rfl)
    rw [if_pos rfl] at hlen ⊢; refine XJ rfl (enters_of Tryz.func130 (by kernel_rfl) rfl) (Jw3 ?_)
    have := Jg6 (k := 5) (p := p) (ins := ins) (l := bits) (n := n.toNat) (by omega) (by omega) hsb
    rwa [show ((n.toNat : Nat) : Int) = n by omega] at this
  rw [if_neg h5] at hlen ⊢
  by_cases h6 : k = 6
  · subst h6
    obtain ⟨w1, w2, w3⟩ := q2 (.inr rfl)
    rw [if_pos rfl] at hlen ⊢; refine XJ rfl (enters_of Tryz.func132 (by kernel_rfl) rfl) (Jw4 hsb (VT (qb w3) (Zq _)) m2 ?_)
    have := Jg6 (k := 6) (p := p) (ins := ins) (l := bits) (n := n.toNat) (by omega) (by omega) hsb
    rwa [show ((n.toNat : Nat) : Int) = n by omega] at this
  rw [if_neg h6] at hlen ⊢
  by_cases h8 : k = 8
  · subst h8
    obtain ⟨w1, w2, w3, w4⟩ := m4 rfl
    obtain ⟨m, rfl⟩ : ∃ m : Nat, pick = (m : Int) := ⟨pick.toNat, by omega⟩
    have hx8 := XD (l := items) (i := 0) (by omega)
    have hg := Wd (j := 0) hf3 hx8.1
    have hin := jU (v := .mk a b c d bits pb items pi (m : Int)) (i := 0) hcz hf2 (show 0 < items.length by omega)
    have hty := Qp hin
    have hX := ih _ hx8.2 (hi _ hx8.2) _ 0 (hit _ hty.2) (XG hcz _ hty.2) hg (hwi _ hx8.2)
    have hXl := Yi _ _ 0 (XG hcz _ hty.2) hg
    rw [if_pos rfl, Ji2 w1, Int.toNat_natCast]; exact XJ rfl (enters_of Tryz.func136 (by kernel_rfl) rfl) (Jw6 hst hs (by omega) (show ins[m]? = some _ from hty.1) hx8.1 hXl hX)
  rw [if_neg h8, ws h8] at hlen ⊢
  by_cases h3 : k = 3
  · subst h3
    obtain ⟨w1, w2, w3, w4⟩ := q1 (.inl rfl)
    obtain ⟨x0, hx0⟩ := List.length_eq_one_iff.1 w4
    exact XJ rfl (enters_of Tryz.func126 (by kernel_rfl) rfl) (Jw1 (hone (by decide) (by decide) x0 hx0 n.toNat (by omega) (by omega) (by omega)))
  have h7 : k = 7 := by omega
  subst h7
  obtain ⟨w1, w2, w3⟩ := q3 rfl
  have hM : WR 7 n ins items (Kh items 7 0 ins 0) = QY (Kh items 7 0 ins 0) ins.length := by unfold WR; rw [if_pos rfl]
  rw [hM]
  have hrl := Wv items 7 0 ins 0
  refine XJ rfl (enters_of Tryz.func133 (by kernel_rfl) rfl) (Jw5 hst (by omega) w3 (fun s hs => ?_) (zi ht0 (by decide) hs (by omega) (fun i hi => ?_) (hrec (by decide))))
  · obtain ⟨j, x, h1, rfl⟩ := Yh hs
    rw [Nat.zero_add]
    obtain ⟨_, r1, r2, r3⟩ := hrow (by decide) j x h1
    exact Yi x _ 0 r2 r3
  · show i < ins.length
    omega
def Ym (t : Ty) (v : Vl) : BS × Int := if Vs t v ≠ 0 then ([], Vs t v) else (KC v t, 0)
theorem Jq3 {R : Jr} {t : Ty} {v : Vl} (ht : t.In R) (hv : v.In R) (hw : wV v ≤ 20000) : PureR Tryz.prog 58 [t.val, v.val].toArray (ZB (Ym t v)) R := by
  have h1 := Jkz ht hv
  have h2 := fun h => Jt4 hv t 0 ht (Y2 (t := t) (v := v) h).1 (Y2 h).2 hw
  unfold Ym
  generalize Vs t v = e at h1 h2 ⊢
  generalize KC v t = s at h2 ⊢
  obtain ⟨k, n, p, ins⟩ := t
  obtain ⟨a, b, c, d, bits, pb, items, pi, pick⟩ := v
  refine Je Tryz.func58 rfl rfl fun w => ?_; refine sR fun _ hK1 => ?_; refine Jp (cs := #[_, _, _]) rfl rfl rfl rfl fun r1 => ?_; refine Jp (cs := #[_, _, _, _, _, _, _]) rfl rfl rfl rfl fun r2 => ?_; refine LS 2 [] rfl rfl (nK hK1 ?_); refine sQ fun _ hK2 => sR fun _ hK3 => ?_; refine LS 2 [1, 0] rfl rfl ?_; refine Ji rfl rfl rfl (enters_of Tryz.func76 (by kernel_rfl) rfl) h1 (fun q hq => Or.inr hq) ?_; refine Jj rfl (nK hK3 ?_); refine sR fun _ hK4 => LS 2 [] rfl rfl (nK hK4 ?_); refine Jd rfl (fun h5 => ?_) (fun h5 => ?_)
  try simp only [ZZ] at h5
  refine sR fun _ hK6 => LS 3 [] rfl rfl (nK hK6 ?_); refine Jc (Jf ?_); refine Jx rfl rfl (.cons (J4 rfl) (.cons (J4 rfl) .nil)) (fun w1 hs1 => ?_); refine ⟨?_, hs1.keep⟩; rw [if_pos (by omega)]; rfl
  · try simp only [ZZ] at h5
    refine Jg (hK2 ?_); refine sR fun _ hK7 => LS 2 [1, 0] rfl rfl ?_; refine Ji rfl rfl rfl (enters_of Tryz.func85 (by kernel_rfl) rfl) (h2 (by omega)) (fun q hq => Or.inr hq) ?_; refine LS 2 [] rfl rfl (nK hK7 ?_); refine Jc ?_; refine Jx rfl rfl (.cons (J4 rfl) (.cons (J4 rfl) .nil)) (fun w1 hs1 => ?_); refine ⟨?_, hs1.keep⟩; rw [if_neg (by omega)]; rfl
section
variable {c : Cx} {l : Ko} {L : Jr} {X : XP} {d : List Deferred} {i : Nat} {ps : String} {af : Array Edge} {gd : Option (Nat × Bool)} {ty : TypeId}
end
section
variable {a b c d : Nat} {bits : List Bool} {pb : Pl} {items : List Vl} {pi : Pl} {pick n : Int} {p : Pl} {ins : List Ty}
end
theorem Jg8 (l : List Vl) : (Yj l).length = l.length := by rw [Wf, List.length_map]
theorem Jso : ∀ l : List Vl, (∀ x ∈ l, wV (WM x) = wV x) → wL (Yj l) = wL l
  | [], _ => by rw [Yj]
  | x :: xs, h => by rw [Yj, wL, wL, h x List.mem_cons_self, Jso xs fun y hy => h y (List.mem_cons_of_mem _ hy)]
theorem Jsp (v : Vl) : wV (WM v) = wV v := by
  induction v using Vl.ind with
  | h a b c d bits pb items pi pick ih => rw [Qf, wV, wV, Jso items ih]
theorem Jg9 (k pick : Int) (ins : List Ty) : ∀ (l : List Vl), (∀ x ∈ l, ∀ t, Ks (WM x) t = Ks x t) → ∀ i : Nat, Qs (Yj l) k pick ins i = Qs l k pick ins i
  | [], _, i => by rw [Yj]
  | x :: xs, h, i => by rw [Yj, Qs, Qs, h x List.mem_cons_self, Jg9 k pick ins xs fun y hy => h y (List.mem_cons_of_mem _ hy)]
theorem Jt5 (k n : Int) (m : Nat) (v : Vl) : yv k n m (WM v) = yv k n m v := by
  obtain ⟨a, b, c, d, bits, pb, items, pi, pick⟩ := v
  rw [Qf]; rw [Qq k n m a b c d bits none (Yj items) none pick _ rfl, Qq k n m a b c d bits pb items pi pick _ rfl]; simp only [Qi, Jg8]
theorem Je4 (v : Vl) : ∀ t, Ks (WM v) t = Ks v t := by
  induction v using Vl.ind with
  | h a b c d bits pb items pi pick ih =>
  intro t
  obtain ⟨k, n, p, ins⟩ := t
  have hl := Jg8 items
  have ho := Jt5 k n ins.length (.mk a b c d bits pb items pi pick)
  rw [Qf] at ho ⊢; rw [Ks, Ks, hl, Jg9 k pick ins items ih, ho]
abbrev b8c (r3 : Nat) : Nat × Obj := (r3, .cells #[.int .i64 1, .int .i64 2, .slice none 0 0, .int .i64 6, .int .i64 8, .slice none 0 0, .int .i64 2, .int .i64 0, .slice none 0 0] 76 (0, 0))
abbrev d8c (r5 : Nat) : Nat × Obj := (r5, .cells #[.int .u64 258, .int .u64 0, .int .u64 0, .int .u64 0, .slice none 0 0, .slice none 0 0, .int .i64 0, .int .u64 0, .int .u64 0, .int .u64 0, .int .u64 0, .slice none 0 0, .slice none 0 0, .int .i64 0, .int .u64 1, .int .u64 0, .int .u64 0, .int .u64 0, .slice none 0 0, .slice none 0 0, .int .i64 0] 81 (0, 0))
section
variable {a b c d : Nat} {bits : List Bool} {pb : Pl} {items : List Vl} {pi : Pl} {pick n : Int} {p p' : Pl} {ins : List Ty}
end
structure OInv (s : BS) (H : Nat) (TY : List Ty) (i A la : Nat) (pre : List Nat) : Prop where
  le : i ≤ TY.length
  at_ : (A : Int) = Kg (TY.take i)
  off : QD s H TY 0 H false = (QD s H (TY.drop i) A la (decide (0 < pre.length))).map (pre ++ ·)
section
variable {s : BS} {H : Nat} {TY : List Ty} {i A la : Nat} {pre : List Nat} {x : Ty}
theorem OInv.start : OInv s H TY 0 0 H [] := ⟨Nat.zero_le _, rfl, by rw [List.drop_zero, show decide (0 < ([] : List Nat).length) = false from rfl]; cases QD s H TY 0 H false <;> rfl⟩
theorem OInv.bound (h : OInv s H TY i A la pre) (hx : TY[i]? = some x) (hH : Kg TY = (H : Int)) : (A : Int) + WF x ≤ H := by
  have e : TY = TY.take i ++ (x :: TY.drop (i + 1)) := by rw [← KN hx, List.take_append_drop]
  rw [e, V0, Kg] at hH
  have := Zt (TY.drop (i + 1))
  have := h.at_
  omega
theorem OInv.fix (h : OInv s H TY i A la pre) (hx : TY[i]? = some x) (hf : JK x = true) (h0 : 0 ≤ JV x) : OInv s H TY (i + 1) (A + (JV x).toNat) la pre := by
  have h1 := h.off
  rw [KN hx, QD, if_pos hf] at h1; refine ⟨(List.getElem?_eq_some_iff.1 hx).1, ?_, h1⟩; rw [Kt hx, V0, Kg, Kg, WF, if_pos hf, ← h.at_]; omega
theorem OInv.bad (h : OInv s H TY i A la pre) (hx : TY[i]? = some x) (hf : JK x = false) {v : Nat} (hv : v = W8 ((s.drop A).take 4)) (hb : (¬ 0 < pre.length ∧ v ≠ H) ∨ v < la ∨ s.length < v) : QD s H TY 0 H false = none := by
  subst hv
  rw [h.off, KN hx, QD, if_neg (by rw [hf]; decide), if_pos (by
    rcases hb with ⟨h1, h2⟩ | h1
    · exact .inl ⟨decide_eq_false h1, h2⟩
    · exact .inr h1)]
  rfl
theorem OInv.var (h : OInv s H TY i A la pre) (hx : TY[i]? = some x) (hf : JK x = false) {v : Nat} (hv : v = W8 ((s.drop A).take 4)) (h1 : 0 < pre.length ∨ v = H) (h2 : la ≤ v) (h3 : v ≤ s.length) : OInv s H TY (i + 1) (A + 4) v (pre ++ [v]) := by
  have hn : ¬ JK x = true := by rw [hf]; decide
  have hlv : W8 ((s.drop A).take 4) = v := hv.symm
  have ho := h.off
  rw [KN hx, QD, if_neg hn, hlv, if_neg (by
    rintro (⟨g1, g2⟩ | g | g)
    · simp only [decide_eq_false_iff_not] at g1; omega
    · omega
    · omega), Option.map_map] at ho
  refine ⟨(List.getElem?_eq_some_iff.1 hx).1, ?_, ?_⟩
  · rw [Kt hx, V0, Kg, Kg, WF, if_neg hn, ← h.at_]; omega
  · rw [ho, show decide (0 < (pre ++ [v]).length) = true by simp]
    congr 1
    funext r
    simp
theorem OInv.done (h : OInv s H TY TY.length A la pre) : QD s H TY 0 H false = if ¬ 0 < pre.length ∧ H ≠ s.length then none else some (pre ++ [s.length]) := by
  rw [h.off, List.drop_length, QD]
  by_cases hc : ¬ 0 < pre.length ∧ H ≠ s.length
  · rw [if_pos hc, if_pos ⟨decide_eq_false hc.1, hc.2⟩]; rfl
  · rw [if_neg hc, if_neg (by rintro ⟨g1, g2⟩; exact hc ⟨of_decide_eq_false g1, g2⟩)]; rfl
end
theorem Jha {s : BS} {H : Nat} : ∀ {ts : List Ty} {a la : Nat} {op : Bool} {os : List Nat}, QD s H ts a la op = some os → 0 < os.length
  | [], _, _, _, _, h => by
    rw [QD] at h
    split at h
    · cases h
    · cases h; exact Nat.one_pos
  | x :: xs, a, la, op, os, h => by
    rw [QD] at h
    split at h
    · exact Jha h
    · split at h
      · cases h
      · obtain ⟨r, h2, rfl⟩ := Option.map_eq_some_iff.1 h
        exact Nat.succ_pos _
structure RInv (s : BS) (H : Nat) (TY : List Ty) (ps : List (Ty × Nat × Nat)) (os : List Nat) (i A m : Nat) : Prop where
  le : i ≤ TY.length
  at_ : (A : Int) = Kg (TY.take i)
  tl : ps.drop i = KF (TY.drop i) A (os.drop m)
  off : ∃ la op, QD s H (TY.drop i) A la op = some (os.drop m)
section
variable {s : BS} {H : Nat} {TY : List Ty} {ps : List (Ty × Nat × Nat)} {os : List Nat} {i A m : Nat} {x : Ty}
theorem RInv.start (h : QD s H TY 0 H false = some os) : RInv s H TY (KF TY 0 os) os 0 0 0 := ⟨Nat.zero_le _, rfl, rfl, ⟨H, false, h⟩⟩
theorem Jsq {α : Type} {l r : List α} {i : Nat} {q : α} (h : l.drop i = q :: r) : l[i]? = some q ∧ l.drop (i + 1) = r := by
  have h1 : (l.drop i)[0]? = some q := by rw [h]; rfl
  rw [List.getElem?_drop, Nat.add_zero] at h1; exact ⟨h1, by rw [KN h1] at h; exact (List.cons.inj h).2⟩
theorem RInv.bound (h : RInv s H TY ps os i A m) (hx : TY[i]? = some x) (hH : Kg TY = (H : Int)) : (A : Int) + WF x ≤ H := by
  have e : TY = TY.take i ++ (x :: TY.drop (i + 1)) := by rw [← KN hx, List.take_append_drop]
  rw [e, V0, Kg] at hH
  have := Zt (TY.drop (i + 1))
  have := h.at_
  omega
theorem RInv.fix (h : RInv s H TY ps os i A m) (hx : TY[i]? = some x) (hf : JK x = true) (h0 : 0 ≤ JV x) : ps[i]? = some (x, A, A + (JV x).toNat) ∧ RInv s H TY ps os (i + 1) (A + (JV x).toNat) m := by
  have h1 := h.tl
  obtain ⟨la, op, h2⟩ := h.off
  rw [KN hx, KF, if_pos hf] at h1; rw [KN hx, QD, if_pos hf] at h2
  obtain ⟨g1, g2⟩ := Jsq h1
  refine ⟨g1, (List.getElem?_eq_some_iff.1 hx).1, ?_, g2, ⟨la, op, h2⟩⟩; rw [Kt hx, V0, Kg, Kg, WF, if_pos hf, ← h.at_]; omega
theorem RInv.var (h : RInv s H TY ps os i A m) (hx : TY[i]? = some x) (hf : JK x = false) : m + 1 < os.length ∧ ps[i]? = some (x, os.getD m 0, os.getD (m + 1) 0) ∧ RInv s H TY ps os (i + 1) (A + 4) (m + 1) := by
  have hn : ¬ JK x = true := by rw [hf]; decide
  have h1 := h.tl
  obtain ⟨la, op, h2⟩ := h.off
  rw [KN hx, KF, if_neg hn] at h1; rw [KN hx, QD, if_neg hn] at h2
  split at h2
  · cases h2
  · obtain ⟨r, h3, h4⟩ := Option.map_eq_some_iff.1 h2
    have hp := Jha h3
    have hlen : (os.drop m).length = r.length + 1 := by rw [← h4]; rfl
    rw [List.length_drop] at hlen
    have ht : (os.drop m).tail = os.drop (m + 1) := by rw [List.tail_drop]
    have e0 : (os.drop m).getD 0 0 = os.getD m 0 := by rw [List.getD_eq_getElem?_getD, List.getD_eq_getElem?_getD, List.getElem?_drop, Nat.add_zero]
    have e1 : (os.drop m).getD 1 0 = os.getD (m + 1) 0 := by rw [List.getD_eq_getElem?_getD, List.getD_eq_getElem?_getD, List.getElem?_drop]
    rw [ht, e0, e1] at h1
    obtain ⟨g1, g2⟩ := Jsq h1
    refine ⟨by omega, g1, (List.getElem?_eq_some_iff.1 hx).1, ?_, g2, ⟨W8 ((s.drop A).take 4), true, ?_⟩⟩
    · rw [Kt hx, V0, Kg, Kg, WF, if_neg hn, ← h.at_]; omega
    · rw [h3, ← ht, ← h4]; rfl
end
theorem Jni (t : Ty) : (Xf t).k = t.k := by cases t; rw [Xf]; rfl
theorem Jsr (t : Ty) : (Xf t).n = t.n := by cases t; rw [Xf]; rfl
theorem Jhb (t : Ty) : (Xf t).ins = VB t.ins := by cases t; rw [Xf]; rfl
theorem erT_def : Xf default = default := by show Xf (.mk 0 0 none []) = .mk 0 0 none []; rw [Xf, VB]
mutual
theorem vt : ∀ (t : Ty) (d : Int), V2 (Xf t) d = V2 t d
  | .mk k n p ins, d => by rw [Xf, V2, V2, Jc8 ins, YZ]
theorem Jc8 : ∀ (l : List Ty) (d : Int), XL (VB l) d = XL l d
  | [], _ => by rw [VB]
  | x :: xs, d => by rw [VB, XL, XL, vt x, Jc8 xs]
end
mutual
theorem Jc9 : ∀ (t : Ty), W9 (Xf t) = W9 t
  | .mk k n p ins => by rw [Xf, W9, W9, Jda ins]
theorem Jda : ∀ (l : List Ty), Z0 (VB l) = Z0 l
  | [] => by rw [VB]
  | x :: xs => by rw [VB, Z0, Z0, Jc9 x, Jda xs]
end
mutual
theorem Xy : ∀ (t : Ty), JV (Xf t) = JV t
  | .mk k n p ins => by rw [Xf, JV, JV, Jdb ins]
theorem Jdb : ∀ (l : List Ty), Wh (VB l) = Wh l
  | [] => by rw [VB]
  | x :: xs => by rw [VB, Wh, Wh, Xy x, Jdb xs]
end
theorem Xg (t : Ty) : JK (Xf t) = JK t := by unfold JK; rw [vt, Jc9]
theorem Jnj (t : Ty) : WF (Xf t) = WF t := by unfold WF; rw [Xg, Xy]
theorem wQ : ∀ l : List Ty, Kg (l.map Xf) = Kg l
  | [] => rfl
  | x :: xs => by rw [List.map_cons, Kg, Kg, Jnj, wQ xs]
theorem Jdc (ins : List Ty) (i : Nat) : (VB ins).getD i default = Xf (ins.getD i default) := by
  rw [wK, List.getD_eq_getElem?_getD, List.getD_eq_getElem?_getD, List.getElem?_map]
  cases ins[i]? with
  | none => exact erT_def.symm
  | some x => rfl
theorem Zb (k pick : Int) (ins : List Ty) (i : Nat) : JM k pick (VB ins) i = Xf (JM k pick ins i) := by unfold JM; exact Jdc ins _
mutual
theorem Jhc : ∀ (v : Vl) (t : Ty), Ks v (Xf t) = Ks v t
  | .mk a b c d bits pb items pi pick, .mk k n p ins => by rw [Xf, Ks, Ks, YZ, Jdd items]
theorem Jdd : ∀ (l : List Vl) (k pick : Int) (ins : List Ty) (i : Nat), Qs l k pick (VB ins) i = Qs l k pick ins i
  | [], _, _, _, _ => by rw [Qs, Qs]
  | x :: xs, k, pick, ins, i => by rw [Qs, Qs, Zb, Jhc x, Jdd xs]
end
theorem Jde (t : Ty) (v : Vl) : Vs (Xf t) v = Vs t v := by unfold Vs; rw [vt, Jhc]
theorem wR (h : Nat) : ∀ (l : List (Ty × BS)) (f th : BS), Yw h (l.map fun p => (Xf p.1, p.2)) f th = Yw h l f th
  | [], f, th => rfl
  | (x, s) :: l, f, th => by rw [List.map_cons, Yw, Yw, Xg, wR h l, wR h l]
mutual
theorem Jaa : ∀ (v : Vl) (t : Ty), Vp v (Xf t) = Vp v t
  | .mk a b c d bits pb items pi pick, t => by
    have h1 : ((Qe items t.k pick t.ins 0).map fun p => (Xf p.1, p.2)).headD (default, []) = (fun p : Ty × BS => (Xf p.1, p.2)) ((Qe items t.k pick t.ins 0).headD (default, [])) := by
      cases Qe items t.k pick t.ins 0 with
      | nil => show (default, []) = (Xf default, []); rw [erT_def]
      | cons x l => rfl
    have h2 : (((Qe items t.k pick t.ins 0).map fun p => (Xf p.1, p.2)).map Prod.fst) = ((Qe items t.k pick t.ins 0).map Prod.fst).map Xf := by rw [List.map_map, List.map_map]; rfl
    rw [Vp, Vp, Jni, Jsr, Jhb, Jdf items, wR, h1, h2, wQ]
theorem Jdf : ∀ (l : List Vl) (k pick : Int) (ins : List Ty) (i : Nat), Qe l k pick (VB ins) i = (Qe l k pick ins i).map fun p => (Xf p.1, p.2)
  | [], _, _, _, _ => by rw [Qe, Qe]; rfl
  | x :: xs, k, pick, ins, i => by rw [Qe, Qe, Zb, Jaa x, Jdf xs]; rfl
end
theorem Jnk (t : Ty) (v : Vl) : jm (Xf t) v = jm t v := by unfold jm; rw [Jde, Jaa]
theorem Jnl (k : Int) (ins : List Ty) (m : Nat) : Kx k (VB ins) m = (Kx k ins m).map Xf := by
  unfold Kx
  rw [List.map_map]; exact List.map_congr_left fun i _ => Zb k 0 ins i
theorem wS (s : BS) (h : Nat) : ∀ (l : List Ty) (a la : Nat) (op : Bool), QD s h (l.map Xf) a la op = QD s h l a la op
  | [], _, _, _ => rfl
  | x :: xs, a, la, op => by rw [List.map_cons, QD, QD, Xg, Xy, wS s h xs, wS s h xs]
theorem ql (s : BS) : ∀ (l : List Ty) (a : Nat) (os : List Nat), V1 s (l.map Xf) a os = V1 s l a os
  | [], _, _ => rfl
  | x :: xs, a, os => by rw [List.map_cons, V1, V1, Xg, Xy, ql s xs, ql s xs]
theorem Jnm (k n : Int) (ins : List Ty) (s : BS) : JW k n (VB ins) s = JW k n ins s := by
  unfold JW
  rw [YZ, Zb, Xg, Xy]
theorem Jnn (k n : Int) (ins : List Ty) (fs : List Gf) (s : BS) : xN k n (VB ins) fs s = xN k n ins fs s := by
  unfold xN
  rw [Jnm, Jnl, wQ, wS]
  split
  · rfl
  · split
    · rfl
    · cases QD s (Kg (Kx k ins (JW k n ins s).1)).toNat (Kx k ins (JW k n ins s).1) 0 (Kg (Kx k ins (JW k n ins s).1)).toNat false with
      | none => rfl
      | some os => simp only [ql]
theorem Jq4 (k n : Int) (p : Pl) (ins : List Ty) (fs : List Gf) (s : BS) : ZG k n none (VB ins) fs s = ZG k n p ins fs s := by
  have h1 : JK (.mk k n none (VB ins)) = JK (.mk k n p ins) := by have := Xg (.mk k n p ins); rw [Xf] at this; exact this
  have h2 : JV (.mk k n none (VB ins)) = JV (.mk k n p ins) := by have := Xy (.mk k n p ins); rw [Xf] at this; exact this
  unfold ZG
  rw [h1, h2, YZ, Jnn]
mutual
theorem Jhd : ∀ (t : Ty), KM (Xf t) = KM t
  | .mk k n p ins => by funext s; rw [Xf, KM, KM, Jdg ins, Jq4 k n p]
theorem Jdg : ∀ (l : List Ty), Y8 (VB l) = Y8 l
  | [] => by rw [VB]
  | x :: xs => by rw [VB, Y8, Y8, Jhd x, Jdg xs]
end
theorem Jno (t : Ty) (s : BS) : getR (Xf t) s = getR t s := by unfold getR; rw [vt, Jhd]
theorem Jnp (items : List Vl) (x : Ty) : WX items (Xf x) = WX items x := by unfold WX; rw [List.map_congr_left fun v _ => Jaa v x]
theorem Jnq (k n : Int) (ins : List Ty) (items : List Vl) (rs : List BS) : WR k n (VB ins) items rs = WR k n ins items rs := by
  unfold WR Xv
  rw [Jdc, YZ, Jni, Jnp, Xy]
mutual
theorem Jdh : ∀ (v : Vl) (t : Ty), KC v (Xf t) = KC v t
  | .mk a b c d bits pb items pi pick, t => by rw [KC, KC, Jni, Jsr, Jhb, zj items, Jnq]
theorem zj : ∀ (l : List Vl) (k pick : Int) (ins : List Ty) (i : Nat), Kh l k pick (VB ins) i = Kh l k pick ins i
  | [], _, _, _, _ => by rw [Kh, Kh]
  | x :: xs, k, pick, ins, i => by rw [Kh, Kh, Zb, Jdh x, zj xs]
end
theorem Ji3 (t : Ty) (v : Vl) : Ym (Xf t) v = Ym t v := by unfold Ym; rw [Jde, Jdh]
def jC (x : BS × BS) : Vl := KL [wM x.1, wM x.2] 0
def acV (a : AcE) : Vl := KL [wM a.addr, .mk a.nonce 0 0 0 [] none [] none 0, .mk a.bal.a a.bal.b a.bal.c a.bal.d [] none [] none 0, wM a.code, KL (a.slots.map jC) 0] 0
def XR (l : List AcE) : Vl := KL (l.map acV) 0
theorem Jab : V2 QR 0 = 0 := by decide +kernel
def WS (l : List AcE) : BS × Int := if Qm l ≠ 0 then ([], Qm l) else jm QR (XR l)
def jD (l : List AcE) : BS × Int := if Qm l ≠ 0 then ([], Qm l) else Ym QR (XR l)
def YB (v : Vl) : BS := v.items.map fun x => UInt8.ofNat (x.num.getD 0 0)
def jE (v : Vl) (i : Nat) : Vl := v.items.getD i v0L
def Xz (v : Vl) : BS × BS := (YB (jE v 0), YB (jE v 1))
def w4B (v : Vl) : W4 := ⟨v.num.getD 0 0, v.num.getD 1 0, v.num.getD 2 0, v.num.getD 3 0⟩
def acB (v : Vl) : AcE := ⟨YB (jE v 0), (jE v 1).num.getD 0 0, w4B (jE v 2), YB (jE v 3), (jE v 4).items.map Xz⟩
def qm (v : Vl) : List AcE := v.items.map acB
def Zc (s : BS) : List AcE × Int := if (getR QR s).2 ≠ 0 then ([], (getR QR s).2) else if Qm (qm (getR QR s).1) ≠ 0 then ([], Qm (qm (getR QR s).1)) else (qm (getR QR s).1, 0)
def byB (x : Vl) : UInt8 := UInt8.ofNat (x.num.getD 0 0)
theorem Jt6 (v : Vl) : YB v = v.items.map byB := rfl
theorem Ji4 (q : Nat) : Value.int .u8 (IntKind.u8.wrap (q : Int)) = bV (UInt8.ofNat q) := by
  rw [ja]
  congr 1
  apply UInt8.toNat_inj.1
  simp
def ofS (l : List Vl) (i : Nat) : BS := (l.take i).map byB ++ List.replicate (l.length - i) 0
theorem Jac (l : List Vl) {i : Nat} (h : i ≤ l.length) : (ofS l i).length = l.length := by unfold ofS; simp; omega
theorem Jnr {l : List Vl} {i : Nat} {x : Vl} (h : l[i]? = some x) : ((ofS l i).map bV).set i (bV (byB x)) = (ofS l (i + 1)).map bV := by
  have hlt := (List.getElem?_eq_some_iff.1 h).1
  unfold ofS
  rw [← List.map_set]
  congr 1
  rw [List.set_append_right _ _ (by simp; omega), Kt h, List.map_append, List.append_assoc]
  congr 1
  rw [show (List.map byB (List.take i l)).length = i by simp; omega, Nat.sub_self, show l.length - i = (l.length - (i + 1)) + 1 by omega, List.replicate_succ, List.set_cons_zero]
  rfl
theorem Jq5 {R : Jr} {v : Vl} (hv : v.In R) (hl : v.items.length ≤ 100000) : PureR Tryz.prog 62 [v.val].toArray (J5 (YB v)) R := by
  obtain ⟨a, b, c, d, bits, pb, items, pi, pick⟩ := v
  have hs : Seg R items.length (Ql items) pi := by cases hv; assumption
  change items.length ≤ 100000 at hl; rw [Jt6]; refine Je Tryz.func62 rfl rfl fun w => ?_; refine sR fun _ hK1 => ?_; refine Jp (cs := #[_, _, _, _, _, _, _]) rfl rfl rfl rfl fun r1 => ?_; refine Jj rfl (nK hK1 ?_); refine sR fun _ hK2 => ?_
  refine LS 2 [0] rfl rfl ?_; refine LR rfl (J7 rfl hs rfl) ?_; refine WU (n := items.length) (b := 1) rfl rfl rfl rfl rfl rfl rfl rfl rfl (by omega) (by omega) fun rm => ?_; rw [show List.replicate items.length (Value.int .u8 0) = (ofS items 0).map bV from by unfold ofS; simp [bV]]; refine Jj rfl (nK hK2 ?_); refine sQ fun _ hK3 => sR fun _ hK4 => ?_
  refine LS 2 [1] rfl rfl ?_; refine LR rfl (J7 rfl hs rfl) ?_; refine Jj rfl (nK hK4 ?_); refine Jv (JN (σ := Nat) (fun i => i ≤ items.length) (fun i => [(3, .slice (some ⟨rm, 0, none⟩) items.length items.length), (11, KU items.length pi), (12, .int .i64 (items.length : Int)), (13, .int .i64 (i : Int))]) (fun i => [(rm, .cells ((ofS items i).map bV).toArray 5 (0, 0))]) (fun _ _ _ => True) (fun i => items.length - i) 0 (Nat.zero_le _) (.cons rfl (.cons rfl (.cons rfl (.cons rfl .nil)))) (.cons_cons _ (List.nil_sublist _)) (fun _ _ h => h) ?_); intro i hi1; refine sR fun _ hK5 => JZ rfl (nK hK5 ?_); refine sQ fun _ hK6 => ?_; refine Jd rfl (fun h7 => ?_) (fun h7 => ?_)
  · try simp only [ZZ] at h7
    refine Jg (hK6 ?_); refine sB fun _ hK8 => sQ fun _ hK9 => ?_
    obtain ⟨⟨ya, yb, yc, yd, ybits, ypb, yitems, ypi, ypick⟩, hx, hxm⟩ := Vo (show i < items.length by omega)
    refine Jb (Jj rfl ?_)
    refine LR rfl (Jw (j := i) rfl hs rfl rfl rfl (by first | rfl | omega) (by omega)) ?_; refine LR rfl (QF (fun q hq => Or.inr hq) rfl hs hx rfl rfl) ?_; refine Js (cs := #[_, _, _, _, _, _, _]) rfl rfl rfl rfl fun r2 => ?_; refine Jj rfl ?_
    refine LT 0 rfl rfl (nK hK9 ?_); refine Jb (LS 3 [] rfl rfl ?_)
    refine LR rfl (JR (j := 0) rfl rfl rfl rfl rfl (by first | decide | omega) (by first | (simp only [Nat.zero_add, Nat.reduceAdd, Nat.reduceMul, Nat.zero_mul, Nat.mul_one, Nat.add_zero]; exact rfl) | exact rfl)) ?_; refine LS 2 [0] rfl rfl ?_; refine J1 (show _ = bV (UInt8.ofNat ya) from Ji4 ya) ?_; refine LR rfl (Ki (j := i) (m := 1) (off' := i) rfl rfl rfl rfl (by omega) (by omega) (by omega)) ?_; refine KW (k := 1) (off := i) (xs := (ofS items i).map bV) (ys := (ofS items (i + 1)).map bV) rfl rfl rfl rfl rfl rfl (by rw [List.length_map, Jac _ (by omega)]; omega) (Jnr hx) rfl ?_; refine Jh (Jk (hK8 ?_)); refine Jb ?_
    refine JZ rfl ?_; refine J1 (show _ = Value.int .i64 ((i + 1 : Nat) : Int) from by rw [wrap_i64 (by omega) (by omega)]; congr 1 <;> omega) ?_; refine Jj rfl (Jh (JB ?_)); exact J6 (i + 1) (by omega) (by omega) (.cons rfl (.cons rfl (.cons rfl (.cons rfl .nil)))) (.cons _ (List.Sublist.refl _)) (fun _ _ h => h)
  · try simp only [ZZ] at h7
    refine JL (Jn ?_); refine Jn (J3 (hK3 ?_)); refine sQ fun _ hK10 => ?_
    obtain rfl : i = items.length := by omega
    refine Jb (Jj rfl ?_); refine LR rfl (QO (b := ofS items items.length) (row := some (rm, items.length, [])) (e := 5) (show _ = some (JE (ofS items items.length).length _) from by rw [Jac _ (Nat.le_refl _)]; rfl) ⟨by rw [List.length_map]; omega, by rw [Jac _ (Nat.le_refl _)]; simp⟩ (fun p hp => .inl (by rw [List.mem_singleton.1 hp, List.append_nil]; exact List.mem_cons_self)) rfl rfl rfl) ?_; refine Jj rfl (nK hK10 ?_); refine Jc (pT rfl rfl rfl fun w1 hs1 => ?_); refine ⟨?_, hs1.keep⟩; rw [show ofS items items.length = items.map byB from by unfold ofS; simp]; rfl
theorem Jvz {s : BS} {r : Nat} {Lr : Jr} (hl : s.length ≤ 100000) (h : (r, Obj.cells (Ql (s.map jA)).toArray 0 (0, 0)) ∈ Lr) : Vl.In Lr (.mk 0 0 0 0 [] none (s.map jA) (some (⟨r, 0, none⟩, s.length)) 0) :=
  .mk u0 u0 u0 u0 (by decide) rfl (by rw [List.length_map]; omega) ⟨by rw [List.length_map]; exact Nat.le_refl _, fun _ => ⟨rfl, _, 0, (0, 0), h, by rw [List.drop_zero, List.toList_toArray, List.take_length]⟩⟩ i0 fun x hx => by
    obtain ⟨b, _, rfl⟩ := List.mem_map.1 hx
    exact (Jsk b).mono fun q hq => absurd hq List.not_mem_nil
def Jns {s : BS} (hl : s.length ≤ 100000) : VR (wM s) := ⟨_, [(0, .cells (Ql (s.map jA)).toArray 0 (0, 0))], Jvz hl (List.mem_singleton_self _), Jsl s _⟩
theorem Jnt {Lr : Jr} {its : List Vl} {r e n : Nat} (h : (r, Obj.cells (Ql its).toArray e (0, 0)) ∈ Lr) (hn : its.length = n) (hl : n ≤ 1000) (hi : ∀ x ∈ its, x.In Lr) : Vl.In Lr (.mk 0 0 0 0 [] none its (some (⟨r, 0, none⟩, n)) 0) :=
  .mk u0 u0 u0 u0 (by decide) rfl (by omega) ⟨Nat.le_of_eq hn, fun _ => ⟨rfl, _, e, (0, 0), h, by rw [List.drop_zero, List.toList_toArray, List.take_length]⟩⟩ i0 hi
theorem Jt7 {us : List Vl} {F yL zL : Jr} {y z : Vl} {rb e : Nat} (hin : ∀ x ∈ us, x.In F) (hy : y.In yL) (hz : z.In zL) {q : Vl} (hq : q ∈ us ++ [Vl.mk 0 0 0 0 [] none [y, z] (some (⟨rb, 0, none⟩, 2)) 0]) : q.In ((rb, Obj.cells (Ql [y, z]).toArray e (0, 0)) :: (zL ++ (yL ++ F))) := by
  rcases List.mem_append.1 hq with hq | hq
  · exact (hin q hq).mono fun p hp => by simp [hp]
  · rw [List.mem_singleton.1 hq]
    refine Jnt List.mem_cons_self rfl (by decide) fun x hx => ?_; simp only [List.mem_cons, List.not_mem_nil, or_false] at hx
    rcases hx with rfl | rfl
    · exact hy.mono fun p hp => by simp [hp]
    · exact hz.mono fun p hp => by simp [hp]
theorem Jt8 {slots : List (BS × BS)} {j : Nat} {us : List Vl} {k v : BS} {y z : Vl} {p : Pl} (her : us.map WM = (slots.take j).map jC) (hx : slots[j]? = some (k, v)) (hy : WM y = wM k) (hz : WM z = wM v) : (us ++ [Vl.mk 0 0 0 0 [] none [y, z] p 0]).map WM = (slots.take (j + 1)).map jC := by
  rw [List.map_append, her, Kt hx, List.map_append]
  congr 1
  show [WM _] = [jC (k, v)]
  rw [Qf, Wf, List.map_cons, List.map_cons, List.map_nil, hy, hz]; rfl
theorem Jt9 {vs us : List Vl} {E F U yL zL : Jr} {y z : Vl} {rb e nonce ba bb bc bd n : Nat} {p : Pl} (hin : ∀ x ∈ vs, x.In E) (hs : Seg U n (Ql us) p) (hn : us.length = n) (hn2 : n ≤ 100000) (hin2 : ∀ x ∈ us, x.In F) (hnu : X5 nonce) (hba : W4.ok ⟨ba, bb, bc, bd⟩) (hy : y.In yL) (hz : z.In zL) {q : Vl}
    (hq : q ∈ vs ++ [Vl.mk 0 0 0 0 [] none [y, .mk nonce 0 0 0 [] none [] none 0, .mk ba bb bc bd [] none [] none 0, z, .mk 0 0 0 0 [] none us p 0] (some (⟨rb, 0, none⟩, 5)) 0]) : q.In ((rb, Obj.cells (Ql [y, .mk nonce 0 0 0 [] none [] none 0, .mk ba bb bc bd [] none [] none 0, z, .mk 0 0 0 0 [] none us p 0]).toArray e (0, 0)) :: (zL ++ (yL ++ (U ++ (F ++ E))))) := by
  rcases List.mem_append.1 hq with hq | hq
  · exact (hin q hq).mono fun p hp => by simp [hp]
  · rw [List.mem_singleton.1 hq]
    refine Jnt List.mem_cons_self rfl (by decide) fun x hx => ?_; simp only [List.mem_cons, List.not_mem_nil, or_false] at hx
    rcases hx with rfl | rfl | rfl | rfl | rfl
    · exact hy.mono fun p hp => by simp [hp]
    · exact .mk hnu u0 u0 u0 (by decide) rfl (by decide) rfl i0 (fun x hx => nomatch hx)
    · exact .mk hba.a hba.b hba.c hba.d (by decide) rfl (by decide) rfl i0 (fun x hx => nomatch hx)
    · exact hz.mono fun p hp => by simp [hp]
    · refine .mk u0 u0 u0 u0 (by decide) rfl (by omega) (by rw [hn]; exact hs.mono fun p hp => by simp [hp]) i0 fun x hx => (hin2 x hx).mono fun p hp => by simp [hp]
theorem Jua {accts : List AcL} {i : Nat} {vs us : List Vl} {addr code : BS} {nonce ba bb bc bd : Nat} {slots : List (BS × BS)} {ap p p2 : Pl} {y z : Vl} (her : vs.map WM = (accts.take i).map fun a => acV a.er) (hx : accts[i]? = some ⟨addr, nonce, ⟨ba, bb, bc, bd⟩, code, slots, ap⟩) (hy : WM y = wM addr) (hz : WM z = wM code) (hu : us.map WM = (slots.take slots.length).map jC) :
    (vs ++ [Vl.mk 0 0 0 0 [] none [y, .mk nonce 0 0 0 [] none [] none 0, .mk ba bb bc bd [] none [] none 0, z, .mk 0 0 0 0 [] none us p 0] p2 0]).map WM = (accts.take (i + 1)).map fun a => acV a.er := by
  rw [List.map_append, her, Kt hx, List.map_append]
  congr 1
  show [WM _] = [acV (AcL.er ⟨addr, nonce, ⟨ba, bb, bc, bd⟩, code, slots, ap⟩)]
  rw [List.take_length] at hu; simp only [Qf, Wf, List.map_cons, List.map_nil, hy, hz, hu]
  rfl
theorem Jub (accts : List AcL) : Vl.mk 0 0 0 0 [] none (accts.map fun a => acV a.er) none 0 = XR (accts.map AcL.er) := by
  unfold XR KL
  rw [List.map_map]; rfl
open Classical in
theorem Jq6 {α : Type} (a b : α) (Z Y M U W : List α) : (a :: b :: (Z ++ (Y ++ (M ++ (U ++ W))))).Perm (U ++ (a :: b :: (M ++ (Z ++ (Y ++ W))))) := by
  rw [List.perm_iff_count]; intro x; simp only [List.count_append, List.count_cons]; omega
open Classical in
theorem Jq7 {α : Type} (a b : α) (Z Y M U F V E : List α) : (a :: b :: (Z ++ (Y ++ (M ++ (U ++ (F ++ (V ++ E))))))).Perm (V ++ (a :: b :: (M ++ (Z ++ (Y ++ (U ++ (F ++ E))))))) := by
  rw [List.perm_iff_count]; intro x; simp only [List.count_append, List.count_cons]; omega
open Classical in
theorem Jq8 {α : Type} (r a b : α) (M Z Y F W : List α) : (r :: a :: b :: (M ++ (Z ++ (Y ++ (F ++ W))))).Perm (a :: (M ++ (r :: ((b :: (Z ++ (Y ++ F))) ++ W)))) := by
  rw [List.perm_iff_count]; intro x; simp only [List.count_append, List.count_cons]; omega
open Classical in
theorem Jq9 {α : Type} (r a b : α) (M W : List α) : (r :: a :: b :: (M ++ W)).Perm (a :: (M ++ (r :: (b :: W)))) := by
  rw [List.perm_iff_count]; intro x; simp only [List.count_append, List.count_cons]; omega
def Ac1 (a : AcL) : Prop := a.addr.length ≤ 100000 ∧ a.code.length ≤ 100000 ∧ a.slots.length ≤ 100000 ∧ ∀ x ∈ a.slots, x.1.length ≤ 100000 ∧ x.2.length ≤ 100000
set_option maxHeartbeats 2000000 in
theorem Jhf {R : Jr} {accts : List AcL} {p : Pl} (hs : StL.In R ⟨accts, p⟩) (hn : accts.length ≤ 100000) (hb : ∀ a ∈ accts, Ac1 a) : PureT (α := VR (XR (accts.map AcL.er))) Tryz.prog 54 [KU accts.length p].toArray (fun y => y.x.val) [] (fun y => y.L) R := by
  have hseg : Seg R accts.length (jr accts) p := hs.seg
  refine JI Tryz.func54 rfl rfl fun w => ?_; refine sR fun _ hK1 => ?_; refine Js (cs := #[_, _, _, _, _, _, _]) rfl rfl rfl rfl fun r1 => ?_; refine nK hK1 (sR fun _ hK2 => ?_); refine Js (cs := #[_, _, _, _, _, _, _]) rfl rfl rfl rfl fun r2 => ?_; refine nK hK2 (sQ fun _ hK3 => ?_); refine sR fun _ hK4 => Jj rfl (LR rfl (J7 rfl hseg rfl) (Jj rfl ?_)); refine nK hK4 (Jv ?_); refine JN (σ := Nat × List Vl × Vw × Jr) (fun q => q.1 ≤ accts.length ∧ rowOk 7 q.1 (Ql q.2.1) q.2.2.1 ∧ (∀ x ∈ q.2.1, Vl.In q.2.2.2 x) ∧ q.2.1.map WM = (accts.take q.1).map fun a => acV a.er) (fun q => [(2, V5 r1), (3, V5 r2), (9, KU accts.length p), (10, .int .i64 (accts.length : Int)), (11, .int .i64 (q.1 : Int))]) (fun q => (r2, .cells #[.int .u64 0, .int .u64 0, .int .u64 0, .int .u64 0, .slice none 0 0, JE q.1 q.2.2.1, .int .i64 0] 81 (0, 0)) :: (r1, .cells #[.int .u64 0, .int .u64 0, .int .u64 0, .int .u64 0, .slice none 0 0, .slice none 0 0, .int .i64 0] 81 (0, 0)) :: (JX 81 (Ql q.2.1) q.2.2.1 ++ q.2.2.2)) (fun _ _ _ => True) (fun q => accts.length - q.1) (0, [], none, []) ⟨Nat.zero_le _, ⟨rfl, rfl⟩, fun x hx => (nomatch hx), rfl⟩ (.cons rfl (.cons rfl (.cons rfl (.cons rfl (.cons rfl .nil))))) (by simp only [JX, List.nil_append, List.append_nil]; exact List.Sublist.refl _) (fun _ _ h => h) ?_; rintro ⟨i, vs, row, E⟩ ⟨hi1, hrow, hin, her⟩; simp only at hi1 hrow hin her; refine sR fun _ hK5 => JZ rfl (nK hK5 ?_); refine sQ fun _ hK6 => ?_; refine Jd rfl (fun h7 => ?_) (fun h7 => ?_)
  · try simp only [ZZ] at h7
    refine Jg (hK6 ?_); refine sB fun _ hK8 => sQ fun _ hK9 => ?_
    obtain ⟨a, ha, hma⟩ := Vo (show i < accts.length by omega)
    have ha2 := hs.accts a hma
    obtain ⟨hb1, hb2, hb3, hb4⟩ := hb a hma
    obtain ⟨addr, nonce, ⟨ba, bb, bc, bd⟩, code, slots, ap⟩ := a
    have hnu : X5 nonce := ha2.nonce
    have hba : W4.ok ⟨ba, bb, bc, bd⟩ := ha2.bal
    have hsg : Seg R slots.length (vZ slots) ap := ha2.seg
    simp only at hb1 hb2 hb3 hb4; refine Jb ?_
    refine LR rfl (Jw (j := i) rfl hseg rfl rfl rfl (by first | rfl | omega) (by omega)) ?_; refine LR rfl (KS AcL.len (fun q hq => Or.inr hq) rfl hseg ha rfl rfl) ?_; refine Js (cs := #[_, _, _, _, _, _, _, _]) rfl rfl rfl rfl fun r3 => ?_
    refine LT 0 rfl rfl (nK hK9 ?_); refine sR fun _ hK10 => ?_; refine Js (cs := #[_, _, _, _, _, _, _]) rfl rfl rfl rfl fun r4 => ?_; refine nK hK10 (sQ fun _ hK11 => ?_); refine sR fun _ hK12 => ?_
    refine LS 2 [1] rfl rfl ?_; refine LR rfl (J7 rfl hsg rfl) ?_; refine Jj rfl (nK hK12 ?_); refine Jv ?_; refine JN (σ := Nat × List Vl × Vw × Jr) (fun q => q.1 ≤ slots.length ∧ rowOk 7 q.1 (Ql q.2.1) q.2.2.1 ∧ (∀ x ∈ q.2.1, Vl.In q.2.2.2 x) ∧ q.2.1.map WM = (slots.take q.1).map jC) (fun q => [(2, V5 r1), (3, V5 r2), (5, V5 r3), (6, V5 r4), (9, KU accts.length p), (10, .int .i64 (accts.length : Int)), (11, .int .i64 (i : Int)), (16, KU slots.length ap), (17, .int .i64 (slots.length : Int)), (18, .int .i64 (q.1 : Int))]) (fun q => (r4, .cells #[.int .u64 0, .int .u64 0, .int .u64 0, .int .u64 0, .slice none 0 0, JE q.1 q.2.2.1, .int .i64 0] 81 (0, 0)) :: (r3, .cells #[J5 addr, uV nonce, uV ba, uV bb, uV bc, uV bd, J5 code, KU slots.length ap] 34 (0, 0)) :: (r2, .cells #[.int .u64 0, .int .u64 0, .int .u64 0, .int .u64 0, .slice none 0 0, JE i row, .int .i64 0] 81 (0, 0)) :: (r1, .cells #[.int .u64 0, .int .u64 0, .int .u64 0, .int .u64 0, .slice none 0 0, .slice none 0 0, .int .i64 0] 81 (0, 0)) :: (JX 81 (Ql q.2.1) q.2.2.1 ++ (q.2.2.2 ++ (JX 81 (Ql vs) row ++ E)))) (fun _ _ _ => True) (fun q => slots.length - q.1) (0, [], none, []) ⟨Nat.zero_le _, ⟨rfl, rfl⟩, fun x hx => (nomatch hx), rfl⟩ (.cons rfl (.cons rfl (.cons rfl (.cons rfl (.cons rfl (.cons rfl (.cons rfl (.cons rfl (.cons rfl (.cons rfl .nil)))))))))) (by simp only [JX, List.nil_append, List.append_nil]; exact List.Sublist.refl _) (fun _ _ h => h) ?_; rintro ⟨j, us, rw2, F⟩ ⟨hj1, hrow2, hin2, her2⟩; simp only at hj1 hrow2 hin2 her2; refine sR fun _ hK13 => JZ rfl (nK hK13 ?_); refine sQ fun _ hK14 => ?_; refine Jd rfl (fun h15 => ?_) (fun h15 => ?_)
    · try simp only [ZZ] at h15
      refine Jg (hK14 ?_); refine sB fun _ hK16 => sQ fun _ hK17 => ?_
      obtain ⟨⟨k, v⟩, hx, hmx⟩ := Vo (show j < slots.length by omega)
      obtain ⟨hk1, hv1⟩ := hb4 _ hmx
      simp only at hk1 hv1; refine Jb ?_
      refine LR rfl (Jw (j := j) rfl hsg rfl rfl rfl (by first | rfl | omega) (by omega)) ?_; refine LR rfl (KS Kn (fun q hq => Or.inr hq) rfl hsg hx rfl rfl) ?_; refine Js (cs := #[_, _]) rfl rfl rfl rfl fun r5 => ?_
      refine LT 0 rfl rfl (nK hK17 ?_)
      refine JU [(r4, .cells #[.int .u64 0, .int .u64 0, .int .u64 0, .int .u64 0, .slice none 0 0, JE j rw2, .int .i64 0] 81 (0, 0)), (r5, .cells #[J5 k, J5 v] 59 (0, 0))] [(0, .pure), (1, .pure), (2, .pure), (3, .pure), (4, .grow (Qu (Jns hk1) (fun y => y.x.val) (fun y => y.L))), (5, .pure), (6, .pure), (7, .grow (Qu (Jns hv1) (fun y => y.x.val) (fun y => y.L))), (8, .dep [26, 29] (Jbb 2 81)), (9, .pure), (10, .dep [31] (Jbb 1 81))] 11 [0, 1, 2, 3, 5, 6, 4, 7, 8, 9, 10] (by kernel_rfl) (by kernel_rfl) (by first | exact (fun _ h => absurd h List.not_mem_nil) | simp [SubS] | (intro p hp; simp [hp])) ?_
      refine Jz (k := 0) rfl rfl rfl rfl rfl (fun _ hS => (JP rfl rfl rfl)) ?_; refine Jz (k := 1) rfl rfl rfl rfl rfl (fun _ hS => (Jm rfl (.inl (hS _ (Ky (n := 0) rfl))) rfl rfl)) ?_
      refine Jz (k := 2) rfl rfl rfl rfl rfl (fun _ hS => (JP rfl rfl rfl)) ?_; refine Jz (k := 3) rfl rfl rfl rfl rfl (fun _ hS => (Jm rfl (.inl (hS _ (Ky (n := 1) rfl))) rfl rfl)) ?_
      refine Jz (k := 5) rfl rfl rfl rfl rfl (fun _ hS => (JP rfl rfl rfl)) ?_; refine Jz (k := 6) rfl rfl rfl rfl rfl (fun _ hS => (Jm rfl (.inl (hS _ (Ky (n := 1) rfl))) rfl rfl)) ?_; refine Qd (k := 4) rfl rfl rfl rfl rfl (enters_of Tryz.func79 (by kernel_rfl) rfl) (xY hk1) (fun q hq => nomatch hq) fun y => ?_
      obtain ⟨⟨ya, yb, yc, yd, ybits, ypb, yitems, ypi, ypick⟩, yL, yok, yer⟩ := y
      refine Qd (k := 7) rfl rfl rfl rfl rfl (enters_of Tryz.func79 (by kernel_rfl) rfl) (xY hv1) (fun q hq => nomatch hq) fun y => ?_
      obtain ⟨⟨za, zb, zc, zd, zbits, zpb, zitems, zpi, zpick⟩, zL, zok, zer⟩ := y
      refine Vz (k := 8) (dv := [_, _]) (n := 2) (sz := 7) (vs := [_, _]) (zs := [_, _, _, _, _, _, _, _, _, _, _, _, _, _]) (r := [uV ya, uV yb, uV yc, uV yd, KU ybits.length ypb, KU yitems.length ypi, .int .i64 ypick, uV za, uV zb, uV zc, uV zd, KU zbits.length zpb, KU zitems.length zpi, .int .i64 zpick]) rfl rfl rfl rfl rfl rfl rfl rfl rfl rfl rfl rfl rfl (by rw [Ku]; exact rfl) rfl fun rb => ?_; refine Jz (k := 9) rfl rfl rfl rfl rfl (fun _ hS => (JJ (r := [_, _, _, _, _, _, _]) rfl rfl)) ?_; refine Vz (k := 10) (dv := [_]) (n := 1) (sz := 7) (vs := [_]) (zs := [_, _, _, _, _, _, _]) (r := [.int .u64 0, .int .u64 0, .int .u64 0, .int .u64 0, .slice none 0 0, .slice (some ⟨rb, 0, none⟩) 2 2, .int .i64 0]) rfl rfl rfl rfl rfl rfl rfl rfl rfl rfl rfl rfl rfl (by rw [Ku]; exact rfl) rfl fun rc => ?_; refine KD ?_; refine KH (Jq6 (M := [_, _, _, _, _]) ..) ?_; refine Km (L0 := _) (xs := Ql us) (row := rw2) (n := j) (sz := 7) (b := 88) (news := [_, _, _, _, _, _, _]) (List.Perm.refl _) rfl rfl rfl rfl (Ja (k := 0) rfl) rfl rfl rfl rfl rfl (by decide) rfl rfl rfl (by decide) hrow2 (by omega) (by omega) fun ra cap sp hra => ?_
      refine LS 1 [] rfl rfl ?_; refine Kz (k := 4) (cs' := #[.int .u64 0, .int .u64 0, .int .u64 0, .int .u64 0, .slice none 0 0, JE (j + 1) (some (ra, cap, sp)), .int .i64 0]) rfl rfl rfl rfl rfl rfl rfl rfl rfl rfl ?_; refine Jh (Jk (hK16 ?_)); refine Jb ?_
      refine JZ rfl ?_; refine J1 (show _ = Value.int .i64 ((j + 1 : Nat) : Int) from by rw [wrap_i64 (by omega) (by omega)]; congr 1 <;> omega) ?_; refine Jj rfl (Jh (JB ?_))
      have hvc : Ql us ++ Vl.cells (.mk 0 0 0 0 [] none [(.mk ya yb yc yd ybits ypb yitems ypi ypick), (.mk za zb zc zd zbits zpb zitems zpi zpick)] (some (⟨rb, 0, none⟩, 2)) 0) = Ql (us ++ [.mk 0 0 0 0 [] none [(.mk ya yb yc yd ybits ypb yitems ypi ypick), (.mk za zb zc zd zbits zpb zitems zpi zpick)] (some (⟨rb, 0, none⟩, 2)) 0]) := by unfold Ql; rw [List.flatMap_append]; simp
      refine Xx (Jq8 (M := [_, _, _, _, _]) ..) ?_; exact J6 (j + 1, us ++ [.mk 0 0 0 0 [] none [(.mk ya yb yc yd ybits ypb yitems ypi ypick), (.mk za zb zc zd zbits zpb zitems zpi zpick)] (some (⟨rb, 0, none⟩, 2)) 0], some (ra, cap, sp), _ :: (zL ++ (yL ++ F))) ⟨by simp only; omega, by simp only; rw [← hvc]; exact hra, fun z hz => Jt7 hin2 yok zok hz, Jt8 her2 hx yer zer⟩ (by simp only; omega) (.cons rfl (.cons rfl (.cons rfl (.cons rfl (.cons rfl (.cons rfl (.cons rfl (.cons rfl (.cons rfl (.cons rfl .nil)))))))))) (by simp only; rw [← hvc]; exact .cons _ (.cons _ (List.Sublist.refl _))) (fun _ _ h => h)
    · try simp only [ZZ] at h15
      refine JL (Jn ?_); refine Jn (J3 (hK11 ?_))
      obtain rfl : j = slots.length := by omega
      have hul : us.length = slots.length := by have := congrArg List.length her2; simpa using this
      have hvr2 : JE slots.length rw2 = KU us.length (Vi rw2) := by rw [hul]; exact (Wc _ _ (fun h => by rw [h] at hrow2; exact hrow2.1)).symm
      rw [hvr2]
      refine JU [(r2, .cells #[.int .u64 0, .int .u64 0, .int .u64 0, .int .u64 0, .slice none 0 0, JE i row, .int .i64 0] 81 (0, 0)), (r3, .cells #[J5 addr, uV nonce, uV ba, uV bb, uV bc, uV bd, J5 code, KU slots.length ap] 34 (0, 0)), (r4, .cells #[.int .u64 0, .int .u64 0, .int .u64 0, .int .u64 0, .slice none 0 0, KU us.length (Vi rw2), .int .i64 0] 81 (0, 0))] [(0, .pure), (1, .pure), (2, .pure), (3, .pure), (4, .grow (Qu (Jns hb1) (fun y => y.x.val) (fun y => y.L))), (5, .pure), (6, .pure), (7, .pure), (8, .pure), (9, .pure), (10, .pure), (11, .pure), (12, .pure), (13, .pure), (14, .grow (Qu (Jns hb2) (fun y => y.x.val) (fun y => y.L))), (15, .pure), (16, .dep [40, 44, 47, 50, 51] (Jbb 5 81)), (17, .pure), (18, .dep [53] (Jbb 1 81))] 19 [0, 1, 2, 3, 5, 6, 9, 10, 11, 12, 13, 15, 4, 7, 8, 14, 16, 17, 18] (by kernel_rfl) (by kernel_rfl) (by first | exact (fun _ h => absurd h List.not_mem_nil) | simp [SubS] | (intro p hp; simp [hp])) ?_
      refine Jz (k := 0) rfl rfl rfl rfl rfl (fun _ hS => (JP rfl rfl rfl)) ?_; refine Jz (k := 1) rfl rfl rfl rfl rfl (fun _ hS => (Jm rfl (.inl (hS _ (Ky (n := 0) rfl))) rfl rfl)) ?_
      refine Jz (k := 2) rfl rfl rfl rfl rfl (fun _ hS => (JP rfl rfl rfl)) ?_; refine Jz (k := 3) rfl rfl rfl rfl rfl (fun _ hS => (Jm rfl (.inl (hS _ (Ky (n := 1) rfl))) rfl rfl)) ?_
      refine Jz (k := 5) rfl rfl rfl rfl rfl (fun _ hS => (JP rfl rfl rfl)) ?_; refine Jz (k := 6) rfl rfl rfl rfl rfl (fun _ hS => (Jm rfl (.inl (hS _ (Ky (n := 1) rfl))) rfl rfl)) ?_
      refine Jz (k := 9) rfl rfl rfl rfl rfl (fun _ hS => (JP rfl rfl rfl)) ?_; refine Jz (k := 10) rfl rfl rfl rfl rfl (fun _ hS => (J0 (vs := [_, _, _, _]) rfl (.inl (hS _ (Ky (n := 1) rfl))) rfl rfl rfl rfl)) ?_; refine Jz (k := 11) rfl rfl rfl rfl rfl (fun _ hS => (JJ (r := [_, _, _, _, _, _, _]) rfl rfl)) ?_
      refine Jz (k := 12) rfl rfl rfl rfl rfl (fun _ hS => (JP rfl rfl rfl)) ?_; refine Jz (k := 13) rfl rfl rfl rfl rfl (fun _ hS => (Jm rfl (.inl (hS _ (Ky (n := 1) rfl))) rfl rfl)) ?_; refine Jz (k := 15) rfl rfl rfl rfl rfl (fun _ hS => (J0 (vs := [_, _, _, _, _, _, _]) rfl (.inl (hS _ (Ky (n := 2) rfl))) rfl rfl rfl rfl)) ?_; refine Qd (k := 4) rfl rfl rfl rfl rfl (enters_of Tryz.func79 (by kernel_rfl) rfl) (xY hb1) (fun q hq => nomatch hq) fun y => ?_
      obtain ⟨⟨ya, yb, yc, yd, ybits, ypb, yitems, ypi, ypick⟩, yL, yok, yer⟩ := y
      refine WB (k := 7) rfl rfl rfl rfl rfl (enters_of Tryz.func80 (by kernel_rfl) rfl) (XZ _) ?_; refine Jz (k := 8) rfl rfl rfl rfl rfl (fun _ hS => (JJ (r := [_, _, _, _, _, _, _]) rfl rfl)) ?_; refine Qd (k := 14) rfl rfl rfl rfl rfl (enters_of Tryz.func79 (by kernel_rfl) rfl) (xY hb2) (fun q hq => nomatch hq) fun y => ?_
      obtain ⟨⟨za, zb, zc, zd, zbits, zpb, zitems, zpi, zpick⟩, zL, zok, zer⟩ := y
      refine Vz (k := 16) (dv := [_, _, _, _, _]) (n := 5) (sz := 7) (vs := [_, _, _, _, _]) (zs := [_, _, _, _, _, _, _, _, _, _, _, _, _, _, _, _, _, _, _, _, _, _, _, _, _, _, _, _, _, _, _, _, _, _, _]) (r := [uV ya, uV yb, uV yc, uV yd, KU ybits.length ypb, KU yitems.length ypi, .int .i64 ypick, uV nonce, uV 0, uV 0, uV 0, .slice none 0 0, .slice none 0 0, .int .i64 0, uV ba, uV bb, uV bc, uV bd, .slice none 0 0, .slice none 0 0, .int .i64 0, uV za, uV zb, uV zc, uV zd, KU zbits.length zpb, KU zitems.length zpi, .int .i64 zpick, uV 0, uV 0, uV 0, uV 0, .slice none 0 0, KU us.length (Vi rw2), .int .i64 0]) rfl rfl rfl rfl rfl rfl rfl rfl rfl rfl rfl rfl rfl (by rw [Ku]; exact rfl) rfl fun rb => ?_; refine Jz (k := 17) rfl rfl rfl rfl rfl (fun _ hS => (JJ (r := [_, _, _, _, _, _, _]) rfl rfl)) ?_; refine Vz (k := 18) (dv := [_]) (n := 1) (sz := 7) (vs := [_]) (zs := [_, _, _, _, _, _, _]) (r := [.int .u64 0, .int .u64 0, .int .u64 0, .int .u64 0, .slice none 0 0, .slice (some ⟨rb, 0, none⟩) 5 5, .int .i64 0]) rfl rfl rfl rfl rfl rfl rfl rfl rfl rfl rfl rfl rfl (by rw [Ku]; exact rfl) rfl fun rc => ?_; refine KD ?_; refine KH (Jq7 (M := [_, _, _, _]) ..) ?_; refine Km (L0 := _) (xs := Ql vs) (row := row) (n := i) (sz := 7) (b := 88) (news := [_, _, _, _, _, _, _]) (List.Perm.refl _) rfl rfl rfl rfl (Ja (k := 0) rfl) rfl rfl rfl rfl rfl (by decide) rfl rfl rfl (by decide) hrow (by omega) (by omega) fun ra cap sp hra => ?_
      refine LS 1 [] rfl rfl ?_; refine Kz (k := 5) (cs' := #[.int .u64 0, .int .u64 0, .int .u64 0, .int .u64 0, .slice none 0 0, JE (i + 1) (some (ra, cap, sp)), .int .i64 0]) rfl rfl rfl rfl rfl rfl rfl rfl rfl rfl ?_; refine Jh (Jk (hK8 ?_)); refine Jb ?_
      refine JZ rfl ?_; refine J1 (show _ = Value.int .i64 ((i + 1 : Nat) : Int) from by rw [wrap_i64 (by omega) (by omega)]; congr 1 <;> omega) ?_; refine Jj rfl (Jh (JB ?_))
      have hvc : Ql vs ++ Vl.cells (.mk 0 0 0 0 [] none [(.mk ya yb yc yd ybits ypb yitems ypi ypick), (.mk nonce 0 0 0 [] none [] none 0), (.mk ba bb bc bd [] none [] none 0), (.mk za zb zc zd zbits zpb zitems zpi zpick), .mk 0 0 0 0 [] none us (Vi rw2) 0] (some (⟨rb, 0, none⟩, 5)) 0) = Ql (vs ++ [.mk 0 0 0 0 [] none [(.mk ya yb yc yd ybits ypb yitems ypi ypick), (.mk nonce 0 0 0 [] none [] none 0), (.mk ba bb bc bd [] none [] none 0), (.mk za zb zc zd zbits zpb zitems zpi zpick), .mk 0 0 0 0 [] none us (Vi rw2) 0] (some (⟨rb, 0, none⟩, 5)) 0]) := by unfold Ql; rw [List.flatMap_append]; simp
      refine Xx (Jq9 (M := [_, _, _, _]) ..) ?_; exact J6 (i + 1, vs ++ [.mk 0 0 0 0 [] none [(.mk ya yb yc yd ybits ypb yitems ypi ypick), (.mk nonce 0 0 0 [] none [] none 0), (.mk ba bb bc bd [] none [] none 0), (.mk za zb zc zd zbits zpb zitems zpi zpick), .mk 0 0 0 0 [] none us (Vi rw2) 0] (some (⟨rb, 0, none⟩, 5)) 0], some (ra, cap, sp), _ :: (zL ++ (yL ++ (_ ++ (F ++ E))))) ⟨by simp only; omega, by simp only; rw [← hvc]; exact hra, fun z hz => Jt9 hin (Qj hrow2 (by decide)) hul hb3 hin2 hnu hba yok zok hz, Jua her ha yer zer her2⟩ (by simp only; omega) (.cons rfl (.cons rfl (.cons rfl (.cons rfl (.cons rfl .nil))))) (by simp only; rw [← hvc]; exact .cons _ (.cons _ (.cons _ (List.Sublist.refl _)))) (fun _ _ h => h)
  · try simp only [ZZ] at h7
    refine JL (Jn ?_); refine Jn (J3 (hK3 ?_)); refine sQ fun _ hK18 => ?_
    have honeV : ([.int .u64 0, .int .u64 0, .int .u64 0, .int .u64 0, .slice none 0 0, JE i row, .int .i64 0] : List Value).all QQ = true := by cases row <;> rfl
    refine Jb (LR rfl (Ju (xs := [.int .u64 0, .int .u64 0, .int .u64 0, .int .u64 0, .slice none 0 0, JE i row, .int .i64 0]) (n := 7) rfl (Ja (k := 0) rfl) rfl rfl rfl) (J2 (k := 1) (n := 7) (ys := [.int .u64 0, .int .u64 0, .int .u64 0, .int .u64 0, .slice none 0 0, JE i row, .int .i64 0]) rfl rfl rfl rfl rfl rfl rfl honeV rfl ?_)); refine nK hK18 (Jc ?_); refine Jx rfl rfl (.cons (JA (vs := [_, _, _, _, _, _, _]) rfl (Ja (k := 1) rfl) rfl rfl) .nil) (fun w1 hs1 => ?_)
    have hiM : i = accts.length := by omega
    have hvl : vs.length = i := by have := congrArg List.length her; simp at this; omega
    rw [hiM, List.take_length] at her; rw [← hvl] at hrow
    have hvr : JE i row = KU vs.length (Vi row) := by rw [← hvl]; exact (Wc _ _ (fun h => by rw [h] at hrow; exact hrow.1)).symm
    exact ⟨⟨.mk 0 0 0 0 [] none vs (Vi row) 0, JX 81 (Ql vs) row ++ E, j9 (by omega) (Qj hrow (by decide)) hin i0, by rw [Qf, Wf, her]; exact Jub ..⟩, congrArg (fun z => Ending.returned (Value.agg #[.int .u64 0, .int .u64 0, .int .u64 0, .int .u64 0, .slice none 0 0, z, .int .i64 0])) hvr, hs1.weakL (.cons _ (.cons _ (List.Sublist.refl _)))⟩
def vA (x : AcL) : Value := .agg (AcL.cells x).toArray
theorem Jad (x : AcL) : Pure Tryz.prog 39 [vA x].toArray (J5 (AcL.addr x)) := by
  refine JG Tryz.func39 rfl rfl fun w => ?_; refine sR fun _ hK1 => ?_; refine Jp (cs := #[_, _, _, _, _, _, _, _]) rfl rfl rfl rfl fun r1 => ?_; refine Jj rfl (nK hK1 ?_); refine sR fun _ hK2 => ?_
  refine LS 3 [0] rfl rfl (nK hK2 ?_); refine Jc (pT rfl rfl rfl fun w1 hs1 => ?_); exact ⟨rfl, hs1.keep⟩
theorem Jnu {R : Jr} {xs : List AcL} {p : Pl} (hl : xs.length ≤ 9223372036854775807) (hs : Seg R xs.length (xs.flatMap AcL.cells) p) {g : FuncId} {caps : List Value} {pr : AcL → Bool} (eg : Enters Tryz.prog g) (hg : ∀ x ∈ xs, PureR Tryz.prog g (vA x :: caps).toArray (.bool (pr x)) R) :
    PureR Tryz.prog 34 [KU xs.length p, .func (.func g) #[] caps.toArray].toArray (.int .i64 (Yy pr xs)) R := by
  refine Je Tryz.func34 rfl rfl fun w => ?_; refine sR fun _ hK1 => Jj rfl (nK hK1 ?_); refine sQ fun _ hK2 => sR fun _ hK3 => ?_; refine Jj rfl (LR rfl (J7 rfl hs rfl) (Jj rfl ?_)); refine nK hK3 (Jv ?_); refine JN (σ := Nat) (fun i => i ≤ xs.length ∧ ∀ j, j < i → ∀ y, xs[j]? = some y → pr y = false) (fun i => [(0, KU xs.length p), (1, .func (.func g) #[] caps.toArray), (7, .int .i64 (xs.length : Int)), (8, .int .i64 (i : Int))]) (fun _ => []) (fun _ _ _ => True) (fun i => xs.length - i) 0 ⟨by omega, fun j hj => absurd hj (by omega)⟩ (.cons rfl (.cons rfl (.cons rfl (.cons rfl .nil)))) (List.nil_sublist _) (fun _ _ h => h) ?_; rintro i ⟨hi1, hinv⟩; refine sR fun _ hK4 => JZ rfl (nK hK4 ?_); refine sQ fun _ hK5 => ?_; refine Jd rfl (fun h6 => ?_) (fun h6 => ?_)
  try simp only [ZZ] at h6
  refine Jg (hK5 ?_); refine sB fun _ hK7 => sR fun _ hK8 => ?_; refine LS 2 [] rfl rfl (nK hK8 ?_); refine sQ fun _ hK9 => ?_
  obtain ⟨x, hx, hmx⟩ := Vo (show i < xs.length by omega)
  refine Jb (LS 3 [] rfl rfl ?_)
  refine LR rfl (Jw (j := i) rfl hs rfl rfl rfl (by first | rfl | omega) (by omega)) ?_; refine LR rfl (KS AcL.len (fun q hq => Or.inr hq) rfl hs hx rfl rfl) ?_; refine Ji rfl rfl rfl eg (hg x hmx) (fun q hq => Or.inr hq) ?_; refine nK hK9 ?_; refine Jd rfl (fun h10 => ?_) (fun h10 => ?_)
  try simp only [ZZ] at h10
  refine sR fun _ hK11 => LS 2 [] rfl rfl (nK hK11 ?_); refine Jc (Jq (Jf ?_)); refine Jf (Jq (Jf ?_)); refine pT rfl rfl rfl fun w1 hs1 => ?_; refine ⟨?_, hs1.keep⟩; rw [Jb3 hx (by assumption) hinv]; rfl
  try simp only [ZZ] at h10
  refine Jg (Jk (hK7 ?_)); refine Jb (JZ rfl (Jy (by omega) (by omega) ?_)); refine Jj rfl (Jh (JB ?_))
  exact J6 (i + 1) ⟨by omega, fun j hj y hy => by
    rcases Nat.lt_succ_iff_lt_or_eq.1 hj with hj | rfl
    exact hinv j hj y hy
    rw [hx] at hy; cases hy; assumption⟩ (by omega) (.cons rfl (.cons rfl (.cons rfl (.cons rfl .nil)))) (List.nil_sublist _) (fun _ _ h => h)
  · try simp only [ZZ] at h6
    refine JL (Jn ?_); refine Jn (J3 (hK2 ?_)); refine sR fun _ hK12 => Jj rfl (nK hK12 ?_); refine Jc (pT rfl rfl rfl fun w1 hs1 => ?_); refine ⟨?_, hs1.keep⟩; rw [Jb2 fun j x hx => hinv j (by have := (List.getElem?_eq_some_iff.1 hx).1; omega) x hx]; rfl
theorem Jnv {R : Jr} {xs : List AcL} {p : Pl} (hl : xs.length ≤ 9223372036854775807) (hs : Seg R xs.length (xs.flatMap AcL.cells) p) :
    PureR Tryz.prog 38 [KU xs.length p, fV 39].toArray (.bool (Vg AcL.addr xs)) R := by
  refine Je Tryz.func38 rfl rfl fun w => ?_; refine sR fun K1 hK1 => Jj rfl (nK hK1 ?_); clear hK1 K1; refine sQ fun K2 hK2 => sR fun K3 hK3 => ?_; refine Jj rfl (nK hK3 ?_); clear hK3 K3; refine Jv ?_; refine JN (σ := Nat) (fun i => (i = 0 ∨ i < xs.length) ∧ ∀ j x y, j < i → xs[j]? = some x → xs[j + 1]? = some y → Op.bytesLess (AcL.addr x) (AcL.addr y) = true) (fun i => [(0, KU xs.length p), (1, fV 39), (5, .int .i64 ((i + 1 : Nat) : Int))]) (fun _ => []) (fun _ _ _ => True) (fun i => xs.length - i) 0 ⟨.inl rfl, fun j _ _ hj => absurd hj (by omega)⟩ (.cons rfl (.cons rfl (.cons rfl .nil))) (List.nil_sublist _) (fun _ _ h => h) ?_; rintro i ⟨hi1, hinv⟩; refine sQ fun K4 hK4 => sR fun K5 hK5 => ?_; refine LS 2 [] rfl rfl ?_; refine LR rfl (J7 rfl hs rfl) ?_; refine JZ rfl (nK hK5 ?_); clear hK5 K5; refine Jd rfl (fun h6 => ?_) (fun h6 => ?_)
  try simp only [ZZ] at h6
  refine Jg (hK4 ?_); clear hK4 K4; refine sB fun K7 hK7 => sQ fun K8 hK8 => ?_
  obtain ⟨x, hx, hmx⟩ := Vo (show i < xs.length by omega)
  obtain ⟨y, hy, hmy⟩ := Vo (show i + 1 < xs.length by omega)
  refine Kc 14 (by kernel_rfl) (by kernel_rfl) ?_; refine Jl rfl rfl rfl (Jo rfl) ?_; refine Jl rfl rfl rfl (Jo rfl) ?_; refine Jl rfl rfl rfl (Jo rfl) ?_; refine Jl rfl rfl rfl (JC rfl rfl rfl) ?_; refine W5 (by omega) (by omega) ?_
  refine Jl rfl rfl rfl (Jw (j := i) rfl hs rfl rfl rfl (by first | rfl | omega) (by omega)) ?_; refine Jl rfl rfl rfl (KS AcL.len (fun q hq => Or.inr hq) rfl hs hx rfl rfl) ?_; refine Qx rfl rfl rfl (enters_of Tryz.func39 (by kernel_rfl) rfl) (Jad x) ?_; refine Jl rfl rfl rfl (Jo rfl) ?_; refine Jl rfl rfl rfl (Jo rfl) ?_; refine Jl rfl rfl rfl (Jo rfl) ?_
  refine Jl rfl rfl rfl (Jw (j := (i + 1)) rfl hs rfl rfl rfl (by first | rfl | omega) (by omega)) ?_; refine Jl rfl rfl rfl (KS AcL.len (fun q hq => Or.inr hq) rfl hs hy rfl rfl) ?_; refine Qx rfl rfl rfl (enters_of Tryz.func39 (by kernel_rfl) rfl) (Jad y) ?_; refine Jl rfl rfl rfl (Jf9 rfl rfl) ?_; refine Kw ?_; refine nK hK8 ?_; clear hK8 K8; refine Jd rfl (fun h9 => ?_) (fun h9 => ?_)
  try simp only [ZZ] at h9
  refine sR fun K10 hK10 => Jj rfl (nK hK10 ?_); clear hK10 K10; refine Jc (Jq (Jf ?_)); clear hK7 K7; refine Jf (Jq (Jf ?_)); clear hK2 K2; refine pT rfl rfl rfl fun w1 hs1 => ?_; refine ⟨?_, hs1.keep⟩; rw [ju hx hy (by simp_all)]; rfl
  try simp only [ZZ] at h9
  refine Jg (Jk (hK7 ?_)); clear hK7 K7; refine Jb (LS 2 [] rfl rfl (Jy (by omega) (by omega) ?_)); refine Jj rfl (Jh (JB ?_))
  exact J6 (i + 1) ⟨.inr (by omega), fun j u v hj hu hv => by
    rcases Nat.lt_succ_iff_lt_or_eq.1 hj with hj | rfl
    exact hinv j u v hj hu hv
    rw [hx] at hu; rw [hy] at hv; cases hu; cases hv; simp_all⟩ (by omega) (.cons rfl (.cons rfl (.cons rfl .nil))) (List.nil_sublist _) (fun _ _ h => h)
  · try simp only [ZZ] at h6
    refine JL (Jn ?_); clear hK4 K4; refine Jn (J3 (hK2 ?_)); clear hK2 K2; refine sR fun K11 hK11 => Jj rfl (nK hK11 ?_); clear hK11 K11; refine Jc (pT rfl rfl rfl fun w1 hs1 => ?_); refine ⟨?_, hs1.keep⟩; rw [Zn fun j u v hu hv => hinv j u v (by have := (List.getElem?_eq_some_iff.1 hv).1; omega) hu hv]; rfl
def vS (x : (BS × BS)) : Value := .agg (QS x).toArray
theorem Jae (x : (BS × BS)) : Pure Tryz.prog 48 [vS x].toArray (J5 (Prod.fst x)) := by
  refine JG Tryz.func48 rfl rfl fun w => ?_; refine sR fun _ hK1 => ?_; refine Jp (cs := #[_, _]) rfl rfl rfl rfl fun r1 => ?_; refine Jj rfl (nK hK1 ?_); refine sR fun _ hK2 => ?_
  refine LS 3 [0] rfl rfl (nK hK2 ?_); refine Jc (pT rfl rfl rfl fun w1 hs1 => ?_); exact ⟨rfl, hs1.keep⟩
theorem wT {R : Jr} {xs : List (BS × BS)} {p : Pl} (hl : xs.length ≤ 9223372036854775807) (hs : Seg R xs.length (xs.flatMap QS) p) {g : FuncId} {caps : List Value} {pr : (BS × BS) → Bool} (eg : Enters Tryz.prog g) (hg : ∀ x ∈ xs, PureR Tryz.prog g (vS x :: caps).toArray (.bool (pr x)) R) :
    PureR Tryz.prog 40 [KU xs.length p, .func (.func g) #[] caps.toArray].toArray (.int .i64 (Yy pr xs)) R := by
  refine Je Tryz.func40 rfl rfl fun w => ?_; refine sR fun _ hK1 => Jj rfl (nK hK1 ?_); refine sQ fun _ hK2 => sR fun _ hK3 => ?_; refine Jj rfl (LR rfl (J7 rfl hs rfl) (Jj rfl ?_)); refine nK hK3 (Jv ?_); refine JN (σ := Nat) (fun i => i ≤ xs.length ∧ ∀ j, j < i → ∀ y, xs[j]? = some y → pr y = false) (fun i => [(0, KU xs.length p), (1, .func (.func g) #[] caps.toArray), (7, .int .i64 (xs.length : Int)), (8, .int .i64 (i : Int))]) (fun _ => []) (fun _ _ _ => True) (fun i => xs.length - i) 0 ⟨by omega, fun j hj => absurd hj (by omega)⟩ (.cons rfl (.cons rfl (.cons rfl (.cons rfl .nil)))) (List.nil_sublist _) (fun _ _ h => h) ?_; rintro i ⟨hi1, hinv⟩; refine sR fun _ hK4 => JZ rfl (nK hK4 ?_); refine sQ fun _ hK5 => ?_; refine Jd rfl (fun h6 => ?_) (fun h6 => ?_)
  try simp only [ZZ] at h6
  refine Jg (hK5 ?_); refine sB fun _ hK7 => sR fun _ hK8 => ?_; refine LS 2 [] rfl rfl (nK hK8 ?_); refine sQ fun _ hK9 => ?_
  obtain ⟨x, hx, hmx⟩ := Vo (show i < xs.length by omega)
  refine Jb (LS 3 [] rfl rfl ?_)
  refine LR rfl (Jw (j := i) rfl hs rfl rfl rfl (by first | rfl | omega) (by omega)) ?_; refine LR rfl (KS Kn (fun q hq => Or.inr hq) rfl hs hx rfl rfl) ?_; refine Ji rfl rfl rfl eg (hg x hmx) (fun q hq => Or.inr hq) ?_; refine nK hK9 ?_; refine Jd rfl (fun h10 => ?_) (fun h10 => ?_)
  try simp only [ZZ] at h10
  refine sR fun _ hK11 => LS 2 [] rfl rfl (nK hK11 ?_); refine Jc (Jq (Jf ?_)); refine Jf (Jq (Jf ?_)); refine pT rfl rfl rfl fun w1 hs1 => ?_; refine ⟨?_, hs1.keep⟩; rw [Jb3 hx (by assumption) hinv]; rfl
  try simp only [ZZ] at h10
  refine Jg (Jk (hK7 ?_)); refine Jb (JZ rfl (Jy (by omega) (by omega) ?_)); refine Jj rfl (Jh (JB ?_))
  exact J6 (i + 1) ⟨by omega, fun j hj y hy => by
    rcases Nat.lt_succ_iff_lt_or_eq.1 hj with hj | rfl
    exact hinv j hj y hy
    rw [hx] at hy; cases hy; assumption⟩ (by omega) (.cons rfl (.cons rfl (.cons rfl (.cons rfl .nil)))) (List.nil_sublist _) (fun _ _ h => h)
  · try simp only [ZZ] at h6
    refine JL (Jn ?_); refine Jn (J3 (hK2 ?_)); refine sR fun _ hK12 => Jj rfl (nK hK12 ?_); refine Jc (pT rfl rfl rfl fun w1 hs1 => ?_); refine ⟨?_, hs1.keep⟩; rw [Jb2 fun j x hx => hinv j (by have := (List.getElem?_eq_some_iff.1 hx).1; omega) x hx]; rfl
theorem Jnw {R : Jr} {xs : List (BS × BS)} {p : Pl} (hl : xs.length ≤ 9223372036854775807) (hs : Seg R xs.length (xs.flatMap QS) p) :
    PureR Tryz.prog 68 [KU xs.length p, fV 48].toArray (.bool (Vg Prod.fst xs)) R := by
  refine Je Tryz.func68 rfl rfl fun w => ?_; refine sR fun K1 hK1 => Jj rfl (nK hK1 ?_); clear hK1 K1; refine sQ fun K2 hK2 => sR fun K3 hK3 => ?_; refine Jj rfl (nK hK3 ?_); clear hK3 K3; refine Jv ?_; refine JN (σ := Nat) (fun i => (i = 0 ∨ i < xs.length) ∧ ∀ j x y, j < i → xs[j]? = some x → xs[j + 1]? = some y → Op.bytesLess (Prod.fst x) (Prod.fst y) = true) (fun i => [(0, KU xs.length p), (1, fV 48), (5, .int .i64 ((i + 1 : Nat) : Int))]) (fun _ => []) (fun _ _ _ => True) (fun i => xs.length - i) 0 ⟨.inl rfl, fun j _ _ hj => absurd hj (by omega)⟩ (.cons rfl (.cons rfl (.cons rfl .nil))) (List.nil_sublist _) (fun _ _ h => h) ?_; rintro i ⟨hi1, hinv⟩; refine sQ fun K4 hK4 => sR fun K5 hK5 => ?_; refine LS 2 [] rfl rfl ?_; refine LR rfl (J7 rfl hs rfl) ?_; refine JZ rfl (nK hK5 ?_); clear hK5 K5; refine Jd rfl (fun h6 => ?_) (fun h6 => ?_)
  try simp only [ZZ] at h6
  refine Jg (hK4 ?_); clear hK4 K4; refine sB fun K7 hK7 => sQ fun K8 hK8 => ?_
  obtain ⟨x, hx, hmx⟩ := Vo (show i < xs.length by omega)
  obtain ⟨y, hy, hmy⟩ := Vo (show i + 1 < xs.length by omega)
  refine Kc 14 (by kernel_rfl) (by kernel_rfl) ?_; refine Jl rfl rfl rfl (Jo rfl) ?_; refine Jl rfl rfl rfl (Jo rfl) ?_; refine Jl rfl rfl rfl (Jo rfl) ?_; refine Jl rfl rfl rfl (JC rfl rfl rfl) ?_; refine W5 (by omega) (by omega) ?_
  refine Jl rfl rfl rfl (Jw (j := i) rfl hs rfl rfl rfl (by first | rfl | omega) (by omega)) ?_; refine Jl rfl rfl rfl (KS Kn (fun q hq => Or.inr hq) rfl hs hx rfl rfl) ?_; refine Qx rfl rfl rfl (enters_of Tryz.func48 (by kernel_rfl) rfl) (Jae x) ?_; refine Jl rfl rfl rfl (Jo rfl) ?_; refine Jl rfl rfl rfl (Jo rfl) ?_; refine Jl rfl rfl rfl (Jo rfl) ?_
  refine Jl rfl rfl rfl (Jw (j := (i + 1)) rfl hs rfl rfl rfl (by first | rfl | omega) (by omega)) ?_; refine Jl rfl rfl rfl (KS Kn (fun q hq => Or.inr hq) rfl hs hy rfl rfl) ?_; refine Qx rfl rfl rfl (enters_of Tryz.func48 (by kernel_rfl) rfl) (Jae y) ?_; refine Jl rfl rfl rfl (Jf9 rfl rfl) ?_; refine Kw ?_; refine nK hK8 ?_; clear hK8 K8; refine Jd rfl (fun h9 => ?_) (fun h9 => ?_)
  try simp only [ZZ] at h9
  refine sR fun K10 hK10 => Jj rfl (nK hK10 ?_); clear hK10 K10; refine Jc (Jq (Jf ?_)); clear hK7 K7; refine Jf (Jq (Jf ?_)); clear hK2 K2; refine pT rfl rfl rfl fun w1 hs1 => ?_; refine ⟨?_, hs1.keep⟩; rw [ju hx hy (by simp_all)]; rfl
  try simp only [ZZ] at h9
  refine Jg (Jk (hK7 ?_)); clear hK7 K7; refine Jb (LS 2 [] rfl rfl (Jy (by omega) (by omega) ?_)); refine Jj rfl (Jh (JB ?_))
  exact J6 (i + 1) ⟨.inr (by omega), fun j u v hj hu hv => by
    rcases Nat.lt_succ_iff_lt_or_eq.1 hj with hj | rfl
    exact hinv j u v hj hu hv
    rw [hx] at hu; rw [hy] at hv; cases hu; cases hv; simp_all⟩ (by omega) (.cons rfl (.cons rfl (.cons rfl .nil))) (List.nil_sublist _) (fun _ _ h => h)
  · try simp only [ZZ] at h6
    refine JL (Jn ?_); clear hK4 K4; refine Jn (J3 (hK2 ?_)); clear hK2 K2; refine sR fun K11 hK11 => Jj rfl (nK hK11 ?_); clear hK11 K11; refine Jc (pT rfl rfl rfl fun w1 hs1 => ?_); refine ⟨?_, hs1.keep⟩; rw [Zn fun j u v hu hv => hinv j u v (by have := (List.getElem?_eq_some_iff.1 hv).1; omega) hu hv]; rfl
theorem Jra (a : BS) : (!decide (a = a)) = false := by simp
theorem Jhg (a : BS) : Pure Tryz.prog 158 [J5 a].toArray (.bool false) := by
  refine JG Tryz.func158 rfl rfl fun w => ?_; refine sR fun _ hK1 => Jj rfl (nK hK1 ?_); refine sR fun _ hK2 => LS 2 [] rfl rfl ?_; refine LR rfl (WV rfl rfl) ?_; refine J1 (congrArg Value.bool (Jra a)) ?_; refine Jj rfl (nK hK2 ?_); refine Jc (pT rfl rfl rfl fun w1 hs1 => ?_); exact ⟨rfl, hs1.keep⟩
theorem zk (a b : BS) : Pure Tryz.prog 106 [J5 a, J5 b].toArray (.int .i64 (qL a b)) := by
  refine JG Tryz.func106 rfl rfl fun w => ?_; refine sR fun K1 hK1 => Jj rfl (nK hK1 ?_); clear hK1 K1; refine sR fun K2 hK2 => Jj rfl (JF rfl rfl rfl (enters_of Tryz.func158 (by kernel_rfl) rfl) (Jhg a) (Jj rfl ?_)); refine nK hK2 ?_; clear hK2 K2; refine sR fun K3 hK3 => Jj rfl (JF rfl rfl rfl (enters_of Tryz.func158 (by kernel_rfl) rfl) (Jhg b) (Jj rfl ?_)); refine nK hK3 ?_; clear hK3 K3; refine sQ fun K4 hK4 => sR fun K5 hK5 => ?_; refine Jj rfl (nK hK5 ?_); clear hK5 K5; refine Jd rfl (fun h6 => ?_) (fun h6 => ?_)
  try exact Bool.noConfusion h6
  · try simp only [ZZ] at h6
    refine Jg (hK4 ?_); clear hK4 K4; refine sQ fun K12 hK12 => sR fun K13 hK13 => ?_; refine Jj rfl (nK hK13 ?_); clear hK13 K13; refine Jd rfl (fun h14 => ?_) (fun h14 => ?_)
    try exact Bool.noConfusion h14
    · try simp only [ZZ] at h14
      refine Jg (hK12 ?_); clear hK12 K12; refine sQ fun K16 hK16 => sR fun K17 hK17 => ?_; refine LS 2 [] rfl rfl ?_; refine LR rfl (Joy rfl rfl) ?_; refine nK hK17 ?_; clear hK17 K17; refine Jd rfl (fun h18 => ?_) (fun h18 => ?_)
      try simp only [ZZ] at h18
      refine sR fun K19 hK19 => Jj rfl (nK hK19 ?_); clear hK19 K19; refine Jc (Jf ?_); clear hK16 K16; refine pT rfl rfl rfl fun w1 hs1 => ?_; refine ⟨?_, hs1.keep⟩
      unfold qL
      simp_all [JS]
      · try simp only [ZZ] at h18
        refine Jg (hK16 ?_); clear hK16 K16; refine sQ fun K20 hK20 => sR fun K21 hK21 => ?_; refine LS 2 [] rfl rfl ?_; refine LR rfl (Jp4 rfl rfl) ?_; refine nK hK21 ?_; clear hK21 K21; refine Jd rfl (fun h22 => ?_) (fun h22 => ?_)
        try simp only [ZZ] at h22
        refine sR fun K23 hK23 => Jj rfl (nK hK23 ?_); clear hK23 K23; refine Jc (Jf ?_); clear hK20 K20; refine pT rfl rfl rfl fun w1 hs1 => ?_; refine ⟨?_, hs1.keep⟩
        unfold qL
        simp_all [JS]
        · try simp only [ZZ] at h22
          refine Jg (hK20 ?_); clear hK20 K20; refine sR fun K24 hK24 => Jj rfl (nK hK24 ?_); clear hK24 K24; refine Jc (pT rfl rfl rfl fun w1 hs1 => ?_); refine ⟨?_, hs1.keep⟩
          unfold qL
          simp_all [JS]
theorem Jnx : Lib.repeatL [0] 32 = VQ := by decide +kernel
theorem Je5 : Pure Tryz.prog 42 [].toArray (J5 VQ) := by
  rw [← Jnx]; refine JG Tryz.func42 rfl rfl fun w => ?_; refine sR fun _ hK1 => Jj rfl (nK hK1 ?_); refine sR fun _ hK2 => ?_; refine JF rfl rfl rfl (enters_of Tryz.func69 (by kernel_rfl) rfl) (jT (n := 32) (by decide)) ?_; refine Jj rfl (nK hK2 ?_); refine Jc (pT rfl rfl rfl fun w1 hs1 => ?_); exact ⟨rfl, hs1.keep⟩
theorem Jv0 {R : Jr} {rb e : Nat} (hb : (rb, Obj.cells #[fV 39] e (0, 0)) ∈ R) (x : AcL) (k : BS) : PureR Tryz.prog 105 [vA x, J5 k, .pointer (some ⟨rb, 0, none⟩)].toArray (.int .i64 (qL (AcL.addr x) k)) R := by
  refine Je Tryz.func105 rfl rfl fun w => ?_; refine sR fun _ hK1 => ?_; refine Jp (cs := #[_, _, _, _, _, _, _, _]) rfl rfl rfl rfl fun r1 => ?_; refine Jj rfl (nK hK1 ?_); refine sR fun _ hK2 => ?_; refine LR rfl (Jm rfl (Or.inr hb) rfl rfl) ?_; refine LR rfl (J0 (vs := [_, _, _, _, _, _, _, _]) rfl (Ja (k := 0) rfl) rfl rfl rfl rfl) ?_; refine JF rfl rfl rfl (enters_of Tryz.func39 (by kernel_rfl) rfl) (Jad x) ?_; refine Jj rfl (JF rfl rfl rfl (enters_of Tryz.func106 (by kernel_rfl) rfl) (zk (AcL.addr x) k) (Jj rfl ?_)); refine nK hK2 (Jc ?_); refine pT rfl rfl rfl fun w1 hs1 => ?_; exact ⟨rfl, hs1.keep⟩
theorem Ji5 {R : Jr} {xs : List AcL} {p : Pl} (hl : xs.length ≤ 1000) (hs : Seg R xs.length (xs.flatMap AcL.cells) p) (hso : KE AcL.addr xs) {k : BS} {g : FuncId} {caps : List Value} (eg : Enters Tryz.prog g) (hg : ∀ x ∈ xs, PureR Tryz.prog g (vA x :: J5 k :: caps).toArray (.int .i64 (qL (AcL.addr x) k)) R) :
    PureR Tryz.prog 104 [KU xs.length p, J5 k, .func (.func g) #[] caps.toArray].toArray (.tuple #[.int .i64 (ZO AcL.addr k xs : Nat), .bool (VN AcL.addr k xs)]) R := by
  refine Je Tryz.func104 rfl rfl fun w => ?_; refine sR fun _ hK1 => LS 2 [] rfl rfl (nK hK1 ?_); refine sR fun _ hK2 => Jj rfl (LR rfl (J7 rfl hs rfl) (Jj rfl ?_)); refine nK hK2 (sR fun _ hK3 => ?_); refine LS 3 [] rfl rfl (nK hK3 ?_); refine sB fun _ hK4 => ?_; refine JN (σ := Nat × Nat) (fun s => (s.1 ≤ s.2 ∧ s.2 ≤ xs.length) ∧ (∀ q y, q < s.1 → xs[q]? = some y → Op.bytesLess (AcL.addr y) k = true) ∧ ∀ q y, s.2 ≤ q → xs[q]? = some y → Op.bytesLess (AcL.addr y) k = false) (fun s => [(0, KU xs.length p), (1, J5 k), (2, .func (.func g) #[] caps.toArray), (8, .int .i64 (xs.length : Int)), (9, .int .i64 (s.1 : Int)), (10, .int .i64 (s.2 : Int))]) (fun _ => []) (fun _ _ _ => True) (fun s => s.2 - s.1) (0, xs.length) ⟨⟨Nat.zero_le _, Nat.le_refl _⟩, fun q _ hq => absurd hq (Nat.not_lt_zero q), fun q y hq hy => absurd (List.getElem?_eq_some_iff.1 hy).1 (by omega)⟩ (.cons rfl (.cons rfl (.cons rfl (.cons rfl (.cons rfl (.cons rfl .nil)))))) (List.nil_sublist _) (fun _ _ h => h) ?_; rintro ⟨i, j⟩ ⟨⟨hi0, hj0⟩, hi1, hi2⟩; simp only at hi0 hj0 hi1 hi2; change HC _ _ [(0, _), (1, _), (2, _), (8, _), (9, .int .i64 (i : Int)), (10, .int .i64 (j : Int))] _ _ _ _; refine sQ fun _ hK5 => sR fun _ hK6 => ?_; refine LS 3 [] rfl rfl (nK hK6 ?_); refine Jd rfl (fun h7 => ?_) (fun h7 => ?_)
  try simp only [ZZ] at h7
  refine Jg (hK5 ?_); refine Jv (sR fun _ hK8 => (LS 3 [] rfl rfl ?_)); refine Jy (by omega) (by omega) ?_; refine JZ rfl (qp (by omega) (by omega) (LR rfl (vD (n := 1) (b := (((i + j) / 2 : Nat) : Int)) rfl rfl rfl (by decide) (by omega) (by omega)) ?_)); refine JZ rfl (Jy (by omega) (by omega) (Jj rfl ?_)); refine nK hK8 (sQ fun _ hK9 => ?_)
  obtain ⟨x, hx, hmx⟩ := Vo (show (i + j) / 2 < xs.length by omega)
  refine Jb (LS 3 [] rfl rfl ?_)
  refine LR rfl (Jw (j := ((i + j) / 2)) rfl hs rfl rfl rfl (by first | rfl | omega) (by omega)) ?_; refine LR rfl (KS AcL.len (fun q hq => Or.inr hq) rfl hs hx rfl rfl) ?_; refine Jj rfl (Ji rfl rfl rfl eg (hg x hmx) (fun q hq => Or.inr hq) ?_); refine JZ rfl (J1 (congrArg Value.bool (Jgc (AcL.addr x) k)) ?_); refine nK hK9 ?_; refine Jd rfl (fun h10 => ?_) (fun h10 => ?_)
  try simp only [ZZ] at h10
  refine Jb (LS 2 [] rfl rfl (Jy (by omega) (by omega) ?_)); refine Jj rfl (Jh ?_); refine Jk (JB ?_); exact J6 ((i + j) / 2 + 1, j) ⟨⟨by simp only; omega, hj0⟩, Jb5 hso hx (by assumption), hi2⟩ (by simp only; omega) (.cons rfl (.cons rfl (.cons rfl (.cons rfl (.cons rfl (.cons rfl .nil)))))) (List.nil_sublist _) (fun _ _ h => h)
  try simp only [ZZ] at h10
  refine Jb (LS 2 [] rfl rfl (Jh ?_)); refine Jk (JB ?_); exact J6 (i, (i + j) / 2) ⟨⟨by simp only; omega, by simp only; omega⟩, hi1, Jb6 hso hx (by assumption)⟩ (by simp only; omega) (.cons rfl (.cons rfl (.cons rfl (.cons rfl (.cons rfl (.cons rfl .nil)))))) (List.nil_sublist _) (fun _ _ h => h)
  · try simp only [ZZ] at h7
    refine JL (Jn ?_); refine Jn (J3 (hK4 ?_)); refine sQ fun _ hK11 => ?_
    have hij : i = j := by omega
    have hlo : i = ZO AcL.addr k xs := Jlo (by omega) hi1 (fun y hy => hi2 i y (by omega) hy)
    refine Jb (LS 5 [] rfl rfl ?_)
    refine JH 39 rfl (fun hb12 => ?_) (fun hb12 => ?_) <;> (try simp only [ZZ] at hb12) <;> first | (refine Jj rfl ?_) | (refine LK rfl ?_)
    all_goals refine LW 2 [] rfl rfl ?_
    all_goals first
      | (obtain ⟨x, hx, hmx⟩ := Vo (show i < xs.length by omega); refine LR rfl (Jw (j := i) rfl hs rfl rfl rfl (by first | rfl | omega) (by omega)) ?_)
      | (refine LK rfl ?_)
    all_goals first
      | (refine LR rfl (KS AcL.len (fun q hq => Or.inr hq) rfl hs hx rfl rfl) ?_)
      | (refine LK rfl ?_)
    all_goals refine LW 1 [] rfl rfl ?_
    all_goals first
      | (refine Ji rfl rfl rfl eg (hg x hmx) (fun q hq => Or.inr hq) ?_)
      | (refine LK rfl ?_)
    all_goals first
      | (refine JZ rfl ?_; refine J1 (congrArg Value.bool (Jb4 (AcL.addr x) k)) ?_)
      | (refine LK rfl ?_)
    all_goals refine LW 1 [] rfl rfl ?_
    all_goals refine LS 2 [] rfl rfl ?_
    all_goals refine Jh ?_
    all_goals (
     refine hK11 (Jc ?_); refine Jx rfl rfl (.cons (J4 rfl) (.cons (J4 rfl) .nil)) (fun w1 hs1 => ?_); refine ⟨?_, hs1.keep⟩
     first
       | (rw [← Jb7 (kf := AcL.addr) (hlo ▸ hx), ← hlo]; rfl)
       | (rw [jZ (kf := AcL.addr) (by omega), ← hlo]; rfl)
     skip)
theorem Jny {R : Jr} {xs : List AcL} {p : Pl} (hl : xs.length ≤ 1000) (hs : Seg R xs.length (xs.flatMap AcL.cells) p) (hso : KE AcL.addr xs) {k : BS} :
    PureR Tryz.prog 70 [KU xs.length p, J5 k, fV 39].toArray (.tuple #[.int .i64 (ZO AcL.addr k xs : Nat), .bool (VN AcL.addr k xs)]) R := by
  refine Je Tryz.func70 rfl rfl fun w => ?_; refine sR fun _ hK1 => ?_; refine Jp (cs := #[_]) rfl rfl rfl rfl fun r1 => ?_; refine LS 2 [] rfl rfl (nK hK1 ?_); refine sR fun _ hK2 => LS 2 [] rfl rfl ?_; refine LR rfl (Kv rfl rfl) ?_; refine Ji (Rl := (r1, Obj.cells #[fV 39] _ (0, 0)) :: R) rfl rfl rfl (enters_of Tryz.func104 (by kernel_rfl) rfl) (Ji5 (caps := [.pointer (some ⟨r1, 0, none⟩)]) hl (hs.mono fun q hq => List.mem_cons_of_mem _ hq) hso (enters_of Tryz.func105 (by kernel_rfl) rfl) (fun x hx => Jv0 List.mem_cons_self x k)) (fun q hq => (List.mem_cons.1 hq).elim (fun h => Or.inl (by rw [h]; exact List.mem_cons_self)) Or.inr) ?_; refine LS 4 [] rfl rfl (nK hK2 ?_); refine Jc ?_; refine Jx rfl rfl (.cons (J4 rfl) (.cons (J4 rfl) .nil)) (fun w1 hs1 => ?_); exact ⟨rfl, hs1.keep⟩
theorem Jv1 {R : Jr} {rb e : Nat} (hb : (rb, Obj.cells #[fV 48] e (0, 0)) ∈ R) (x : (BS × BS)) (k : BS) : PureR Tryz.prog 110 [vS x, J5 k, .pointer (some ⟨rb, 0, none⟩)].toArray (.int .i64 (qL (Prod.fst x) k)) R := by
  refine Je Tryz.func110 rfl rfl fun w => ?_; refine sR fun _ hK1 => ?_; refine Jp (cs := #[_, _]) rfl rfl rfl rfl fun r1 => ?_; refine Jj rfl (nK hK1 ?_); refine sR fun _ hK2 => ?_; refine LR rfl (Jm rfl (Or.inr hb) rfl rfl) ?_; refine LR rfl (J0 (vs := [_, _]) rfl (Ja (k := 0) rfl) rfl rfl rfl rfl) ?_; refine JF rfl rfl rfl (enters_of Tryz.func48 (by kernel_rfl) rfl) (Jae x) ?_; refine Jj rfl (JF rfl rfl rfl (enters_of Tryz.func106 (by kernel_rfl) rfl) (zk (Prod.fst x) k) (Jj rfl ?_)); refine nK hK2 (Jc ?_); refine pT rfl rfl rfl fun w1 hs1 => ?_; exact ⟨rfl, hs1.keep⟩
theorem Ji6 {R : Jr} {xs : List (BS × BS)} {p : Pl} (hl : xs.length ≤ 1000) (hs : Seg R xs.length (xs.flatMap QS) p) (hso : KE Prod.fst xs) {k : BS} {g : FuncId} {caps : List Value} (eg : Enters Tryz.prog g) (hg : ∀ x ∈ xs, PureR Tryz.prog g (vS x :: J5 k :: caps).toArray (.int .i64 (qL (Prod.fst x) k)) R) :
    PureR Tryz.prog 109 [KU xs.length p, J5 k, .func (.func g) #[] caps.toArray].toArray (.tuple #[.int .i64 (ZO Prod.fst k xs : Nat), .bool (VN Prod.fst k xs)]) R := by
  refine Je Tryz.func109 rfl rfl fun w => ?_; refine sR fun _ hK1 => LS 2 [] rfl rfl (nK hK1 ?_); refine sR fun _ hK2 => Jj rfl (LR rfl (J7 rfl hs rfl) (Jj rfl ?_)); refine nK hK2 (sR fun _ hK3 => ?_); refine LS 3 [] rfl rfl (nK hK3 ?_); refine sB fun _ hK4 => ?_; refine JN (σ := Nat × Nat) (fun s => (s.1 ≤ s.2 ∧ s.2 ≤ xs.length) ∧ (∀ q y, q < s.1 → xs[q]? = some y → Op.bytesLess (Prod.fst y) k = true) ∧ ∀ q y, s.2 ≤ q → xs[q]? = some y → Op.bytesLess (Prod.fst y) k = false) (fun s => [(0, KU xs.length p), (1, J5 k), (2, .func (.func g) #[] caps.toArray), (8, .int .i64 (xs.length : Int)), (9, .int .i64 (s.1 : Int)), (10, .int .i64 (s.2 : Int))]) (fun _ => []) (fun _ _ _ => True) (fun s => s.2 - s.1) (0, xs.length) ⟨⟨Nat.zero_le _, Nat.le_refl _⟩, fun q _ hq => absurd hq (Nat.not_lt_zero q), fun q y hq hy => absurd (List.getElem?_eq_some_iff.1 hy).1 (by omega)⟩ (.cons rfl (.cons rfl (.cons rfl (.cons rfl (.cons rfl (.cons rfl .nil)))))) (List.nil_sublist _) (fun _ _ h => h) ?_; rintro ⟨i, j⟩ ⟨⟨hi0, hj0⟩, hi1, hi2⟩; simp only at hi0 hj0 hi1 hi2; change HC _ _ [(0, _), (1, _), (2, _), (8, _), (9, .int .i64 (i : Int)), (10, .int .i64 (j : Int))] _ _ _ _; refine sQ fun _ hK5 => sR fun _ hK6 => ?_; refine LS 3 [] rfl rfl (nK hK6 ?_); refine Jd rfl (fun h7 => ?_) (fun h7 => ?_)
  try simp only [ZZ] at h7
  refine Jg (hK5 ?_); refine Jv (sR fun _ hK8 => (LS 3 [] rfl rfl ?_)); refine Jy (by omega) (by omega) ?_; refine JZ rfl (qp (by omega) (by omega) (LR rfl (vD (n := 1) (b := (((i + j) / 2 : Nat) : Int)) rfl rfl rfl (by decide) (by omega) (by omega)) ?_)); refine JZ rfl (Jy (by omega) (by omega) (Jj rfl ?_)); refine nK hK8 (sQ fun _ hK9 => ?_)
  obtain ⟨x, hx, hmx⟩ := Vo (show (i + j) / 2 < xs.length by omega)
  refine Jb (LS 3 [] rfl rfl ?_)
  refine LR rfl (Jw (j := ((i + j) / 2)) rfl hs rfl rfl rfl (by first | rfl | omega) (by omega)) ?_; refine LR rfl (KS Kn (fun q hq => Or.inr hq) rfl hs hx rfl rfl) ?_; refine Jj rfl (Ji rfl rfl rfl eg (hg x hmx) (fun q hq => Or.inr hq) ?_); refine JZ rfl (J1 (congrArg Value.bool (Jgc (Prod.fst x) k)) ?_); refine nK hK9 ?_; refine Jd rfl (fun h10 => ?_) (fun h10 => ?_)
  try simp only [ZZ] at h10
  refine Jb (LS 2 [] rfl rfl (Jy (by omega) (by omega) ?_)); refine Jj rfl (Jh ?_); refine Jk (JB ?_); exact J6 ((i + j) / 2 + 1, j) ⟨⟨by simp only; omega, hj0⟩, Jb5 hso hx (by assumption), hi2⟩ (by simp only; omega) (.cons rfl (.cons rfl (.cons rfl (.cons rfl (.cons rfl (.cons rfl .nil)))))) (List.nil_sublist _) (fun _ _ h => h)
  try simp only [ZZ] at h10
  refine Jb (LS 2 [] rfl rfl (Jh ?_)); refine Jk (JB ?_); exact J6 (i, (i + j) / 2) ⟨⟨by simp only; omega, by simp only; omega⟩, hi1, Jb6 hso hx (by assumption)⟩ (by simp only; omega) (.cons rfl (.cons rfl (.cons rfl (.cons rfl (.cons rfl (.cons rfl .nil)))))) (List.nil_sublist _) (fun _ _ h => h)
  · try simp only [ZZ] at h7
    refine JL (Jn ?_); refine Jn (J3 (hK4 ?_)); refine sQ fun _ hK11 => ?_
    have hij : i = j := by omega
    have hlo : i = ZO Prod.fst k xs := Jlo (by omega) hi1 (fun y hy => hi2 i y (by omega) hy)
    refine Jb (LS 5 [] rfl rfl ?_)
    refine JH 39 rfl (fun hb12 => ?_) (fun hb12 => ?_) <;> (try simp only [ZZ] at hb12) <;> first | (refine Jj rfl ?_) | (refine LK rfl ?_)
    all_goals refine LW 2 [] rfl rfl ?_
    all_goals first
      | (obtain ⟨x, hx, hmx⟩ := Vo (show i < xs.length by omega); refine LR rfl (Jw (j := i) rfl hs rfl rfl rfl (by first | rfl | omega) (by omega)) ?_)
      | (refine LK rfl ?_)
    all_goals first
      | (refine LR rfl (KS Kn (fun q hq => Or.inr hq) rfl hs hx rfl rfl) ?_)
      | (refine LK rfl ?_)
    all_goals refine LW 1 [] rfl rfl ?_
    all_goals first
      | (refine Ji rfl rfl rfl eg (hg x hmx) (fun q hq => Or.inr hq) ?_)
      | (refine LK rfl ?_)
    all_goals first
      | (refine JZ rfl ?_; refine J1 (congrArg Value.bool (Jb4 (Prod.fst x) k)) ?_)
      | (refine LK rfl ?_)
    all_goals refine LW 1 [] rfl rfl ?_
    all_goals refine LS 2 [] rfl rfl ?_
    all_goals refine Jh ?_
    all_goals (
     refine hK11 (Jc ?_); refine Jx rfl rfl (.cons (J4 rfl) (.cons (J4 rfl) .nil)) (fun w1 hs1 => ?_); refine ⟨?_, hs1.keep⟩
     first
       | (rw [← Jb7 (kf := Prod.fst) (hlo ▸ hx), ← hlo]; rfl)
       | (rw [jZ (kf := Prod.fst) (by omega), ← hlo]; rfl)
     skip)
theorem Jnz {R : Jr} {xs : List (BS × BS)} {p : Pl} (hl : xs.length ≤ 1000) (hs : Seg R xs.length (xs.flatMap QS) p) (hso : KE Prod.fst xs) {k : BS} :
    PureR Tryz.prog 73 [KU xs.length p, J5 k, fV 48].toArray (.tuple #[.int .i64 (ZO Prod.fst k xs : Nat), .bool (VN Prod.fst k xs)]) R := by
  refine Je Tryz.func73 rfl rfl fun w => ?_; refine sR fun _ hK1 => ?_; refine Jp (cs := #[_]) rfl rfl rfl rfl fun r1 => ?_; refine LS 2 [] rfl rfl (nK hK1 ?_); refine sR fun _ hK2 => LS 2 [] rfl rfl ?_; refine LR rfl (Kv rfl rfl) ?_; refine Ji (Rl := (r1, Obj.cells #[fV 48] _ (0, 0)) :: R) rfl rfl rfl (enters_of Tryz.func109 (by kernel_rfl) rfl) (Ji6 (caps := [.pointer (some ⟨r1, 0, none⟩)]) hl (hs.mono fun q hq => List.mem_cons_of_mem _ hq) hso (enters_of Tryz.func110 (by kernel_rfl) rfl) (fun x hx => Jv1 List.mem_cons_self x k)) (fun q hq => (List.mem_cons.1 hq).elim (fun h => Or.inl (by rw [h]; exact List.mem_cons_self)) Or.inr) ?_; refine LS 4 [] rfl rfl (nK hK2 ?_); refine Jc ?_; refine Jx rfl rfl (.cons (J4 rfl) (.cons (J4 rfl) .nil)) (fun w1 hs1 => ?_); exact ⟨rfl, hs1.keep⟩
end Go.Proofs.YteceenlfegnigaaGreatDoor
