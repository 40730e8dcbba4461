import Derived.Test.YteceenlfegnigaaGreatDoorZtParsesd
set_option maxRecDepth 100000
namespace Go.Proofs.YteceenlfegnigaaGreatDoor
set_option linter.all false
open Go.SL Go.RowKit Go.Shelf
variable {a : AcL} {af : Array Edge} {args : Array Operand} {at_ : Array TypeId} {cs : Array Value} {Y s : BS} {own : Bool} {Q : Exit → Act → World → Prop} {g : FuncId} {dp : Int} {L L' Lr R Rl : Jj} {xs : List (BS × BS)} {pa : List (Nat × Operand)} {caps sp vs : List Value} {yitems : List Vl} {B M N b c cap d e i j m r rb rv sz : Nat} {f : Operand} {gd : Option (Nat × Bool)} {dst : Option Nat} {pb pi : Pl} {P : Program} {ps : String} {T t x : Ty} {q : Ty × Nat × Nat} {α : Type} {ty : TypeId} {row : Vg} {v y z : Vl} {w : World} {X : XP} {LL : α → Jj} {V : α → Value}
theorem Jt3 {c : Cx} {d : List Deferred} {l : Ko} {code : Code} (js : List Nat) (hn : js.Nodup) (hL : xC L js = L') (h : HCE c d l L' X code Q) : HCE c d l L X code Q := fun a w hf hs => h a w hf (hL ▸ hs.sel js hn)
theorem qQ {σ τ : Type} {c3 : Cx} {d : List Deferred} {l : Ko} {Xb : XP} {I : σ → Prop} {LI : σ → Jj} {E : Code → τ → Prop} {LE : τ → Jj} {pc : List PanicEntry → Prop} (s : σ) (h : I s) (hL : L.Sublist (LI s) ∧ (LI s).Sublist L) : HQ c3 d l L Xb (vV c3 Xb I LI E LE pc .normal) := fun a w hf hs => ⟨s, h, hs.weakL hL.2⟩
theorem row_some {n : Nat} {xs : List Value} (h : rowOk sz n xs row) (h0 : 0 < n) : ∃ r cap sp, row = some (r, cap, sp) := by
 cases row with
 | none => have := h.1; omega
 | some q => obtain ⟨r, cap, sp⟩ := q; exact ⟨r, cap, sp, rfl⟩
def wf (s : BS) (TY : List Ty) (i : Nat) (pre : List Nat) : List (Ty × Nat × Nat) := Kf (TY.take i) 0 (pre ++ [s.length])
structure PInv (s : BS) (H : Nat) (TY : List Ty) (i A la : Nat) (op : Int) (pre : List Nat) : Prop where
  le : i ≤ TY.length
  cv : pre.length = cV (TY.take i)
  opv : op = Vw (TY.take i)
  at_ : (A : Int) = JV (TY.take i)
  off : Qy s H TY 0 H false = (Qy s H (TY.drop i) A la (decide (0 ≤ op))).map (pre ++ ·)
section
variable {s : BS} {H : Nat} {TY : List Ty} {i A la : Nat} {op : Int} {pre : List Nat} {x : Ty}
theorem PInv.start : PInv s H TY 0 0 H (-1) [] := ⟨Nat.zero_le _, rfl, rfl, rfl, by rw [List.drop_zero, show decide ((0 : Int) ≤ -1) = false from rfl]; cases Qy s H TY 0 H false <;> rfl⟩
theorem Ke {l : List α} {x : α} (h : l[i]? = some x) : l.take (i + 1) = l.take i ++ [x] := by rw [List.take_add_one, h]; rfl
theorem KF {l : List α} {x : α} (h : l[i]? = some x) : l.drop i = x :: l.drop (i + 1) := by
 exact HZ
theorem Ye (l : List Ty) : 0 ≤ JV l := (YX l).1
theorem PInv.bound (h : PInv s H TY i A la op pre) (hx : TY[i]? = some x) (hH : JV TY = (H : Int)) : (A : Int) + Wx x ≤ H := by
 exact kr
theorem PInv.len (h : PInv s H TY i A la op pre) : (wf s TY i pre).length = i := by unfold wf; rw [Xu, List.length_take, Nat.min_eq_left h.le]
theorem PInv.fix (h : PInv s H TY i A la op pre) (hx : TY[i]? = some x) (hf : JA x = true) (hz : ∀ y ∈ TY, JA y = true → 0 ≤ JO y) : PInv s H TY (i + 1) (A + (JO x).toNat) la op pre ∧ wf s TY (i + 1) pre = wf s TY i pre ++ [(x, A, A + (JO x).toNat)] := by
 have h0 := hz x (List.mem_of_getElem? hx) hf
 have hlt := (List.getElem?_eq_some_iff.1 hx).1
 have h1 := h.off
 rw [KF hx, Qy, if_pos hf] at h1; refine ⟨⟨hlt, ?_, ?_, ?_, h1⟩, ?_⟩
 ·rw [Ke hx, Jbe, if_pos hf]; exact h.cv
 ·rw [Ke hx, j6, if_pos hf]; exact h.opv
 ·exact Hz
 ·unfold wf
  rw [Ke hx, qO hf _ 0 _ (fun y hy => hz y (List.mem_of_mem_take hy)) A (by rw [h.at_]; simp)]
theorem PInv.bad (h : PInv s H TY i A la op pre) (hx : TY[i]? = some x) (hf : JA x = false) {v : Nat} (hv : v = V4 ((s.drop A).take 4)) (hb : (¬ 0 ≤ op ∧ v ≠ H) ∨ v < la ∨ s.length < v) : Qy s H TY 0 H false = none := by
 subst hv
 rw [h.off, KF hx, Qy, if_neg (by rw [hf]; decide), if_pos (by
  rcases hb with ⟨h1, h2⟩ | h1
  ·exact .inl ⟨by simp [h1], h2⟩
  ·exact .inr h1)]
 rfl
theorem PInv.var (h : PInv s H TY i A la op pre) (hx : TY[i]? = some x) (hf : JA x = false) {v : Nat} (hv : v = V4 ((s.drop A).take 4)) (h1 : 0 ≤ op ∨ v = H) (h2 : la ≤ v) (h3 : v ≤ s.length) :
  PInv s H TY (i + 1) (A + 4) v i (pre ++ [v]) ∧ (op = -1 → wf s TY (i + 1) (pre ++ [v]) = wf s TY i pre ++ [(x, v, s.length)]) ∧
   (∀ j : Nat, op = (j : Int) → ∃ x0 f0, (wf s TY i pre)[j]? = some (x0, f0, s.length) ∧ wf s TY (i + 1) (pre ++ [v]) = (wf s TY i pre).set j (x0, f0, v) ++ [(x, v, s.length)]) := by
 have hlt := (List.getElem?_eq_some_iff.1 hx).1
 have hn : ¬ JA x = true := by rw [hf]; decide
 have hlv : V4 ((s.drop A).take 4) = v := hv.symm
 have ho := h.off
 rw [KF hx, Qy, if_neg hn, hlv, if_neg (by
  rintro (⟨g1, g2⟩ | g | g)
  ·simp only [decide_eq_false_iff_not] at g1; omega
  ·omega
  ·omega), Option.map_map] at ho
 have hps : wf s TY (i + 1) (pre ++ [v]) = Kf (TY.take i) 0 (pre ++ [v]) ++ [(x, v, s.length)] := by
  unfold wf
  rw [Ke hx, List.append_assoc]; exact qP hn v s.length _ 0 pre h.cv
 refine ⟨⟨hlt, ?_, ?_, ?_, ?_⟩, fun e => ?_, fun j e => ?_⟩
 ·rw [Ke hx, Jbe, if_neg hn, List.length_append, h.cv]; rfl
 ·rw [Ke hx, j6, if_neg hn, List.length_take, Nat.min_eq_left h.le]
 ·exact Hr
 ·rw [ho, show decide (0 ≤ (i : Int)) = true by simp]
  congr 1
  funext r
  simp
 ·rw [hps, j7 _ 0 (pre ++ [v]) (pre ++ [s.length]) (by rw [← h.opv]; exact e)]; rfl
 ·obtain ⟨x0, f0, g1, g2⟩ := yG v s.length (TY.take i) 0 pre j h.cv (by rw [← h.opv]; exact e)
  exact ⟨x0, f0, g1, by rw [hps, g2]; rfl⟩
theorem PInv.done (h : PInv s H TY TY.length A la op pre) : wf s TY TY.length pre = Kf TY 0 (pre ++ [s.length]) ∧ Qy s H TY 0 H false = if ¬ 0 ≤ op ∧ H ≠ s.length then none else some (pre ++ [s.length]) := by
 refine ⟨by unfold wf; rw [List.take_length], ?_⟩; rw [h.off, List.drop_length, Qy]
 by_cases hc : ¬ 0 ≤ op ∧ H ≠ s.length
 ·rw [if_pos hc, if_pos ⟨by simp [hc.1], hc.2⟩]; rfl
 ·rw [if_neg hc, if_neg (by rintro ⟨g1, g2⟩; exact hc ⟨by simpa using g1, g2⟩)]; rfl
end
abbrev Ym (k n : Int) (ins : List Ty) (s : BS) : List (Ty × Nat × Nat) := Kf (Kg k ins (JM k n ins s).1) 0 (QN k n ins s).1
section
variable {k n : Int} {ins : List Ty} {s : BS} {M H : Nat}
theorem jf (h : (JM k n ins s).2 ≠ 0) : (QN k n ins s).2 = (JM k n ins s).2 := by unfold QN; rw [if_pos h]
theorem Ji8 (h0 : (JM k n ins s).2 = 0) (hM : M = (JM k n ins s).1) (hH : JV (Kg k ins M) = (H : Int)) (h : s.length < H) : (QN k n ins s).2 = 2 := by
 unfold QN; rw [if_neg (by rw [h0]; decide), ← hM, hH, if_pos m0]
theorem Jbf (h0 : (JM k n ins s).2 = 0) (hM : M = (JM k n ins s).1) (hH : JV (Kg k ins M) = (H : Int)) (h : H ≤ s.length) : QN k n ins s = match Qy s H (Kg k ins M) 0 H false with | none => ([], 2) | some os => (os, 0) := by
 unfold QN; rw [if_neg (by rw [h0]; decide), ← hM, hH, if_neg m0, Int.toNat_natCast]
 all_goals (cases Qy s H (Kg k ins M) 0 H false <;> rfl)
theorem Ji9 (h0 : (JM k n ins s).2 = 0) (hM : M = (JM k n ins s).1) (hH : JV (Kg k ins M) = (H : Int)) (h : H ≤ s.length) (ho : Qy s H (Kg k ins M) 0 H false = none) : (QN k n ins s).2 = 2 := by
 rw [Jbf h0 hM hH h, ho]
end
set_option maxHeartbeats 2000000 in
theorem Jt4 {k n : Int} {p : Pl} {ins : List Ty} (ht : Ty.In R (.mk k n p ins)) (hc : Va (.mk k n p ins) 0 = 0) (hk3 : k = 3 ∨ k = 4 ∨ k = 7) (hl : s.length ≤ 100000) :
    PureX (α := { row : Vg // rowOk 5 (Ym k n ins s).length (XL (Ym k n ins s)) row }) Tryz.prog 147 [Ty.val (.mk k n p ins), Jw s].toArray ((QN k n ins s).2 = 0) (fun v => (QN k n ins s).2 ≠ 0 ∧ v = xg (QN k n ins s).2) (fun x => J3 (Ym k n ins s).length x.1) (fun x => JL 162 (XL (Ym k n ins s)) x.1) R := by
  obtain ⟨hk8, ho, _, _⟩ := Qv hc
  have hmny := Jxf ht hc hk3 hl
  have hmok := jd (s := s) hk8 ho hk3
  have hmX := ZC (s := s) hk8 ho hk3
  obtain ⟨M, hM⟩ : ∃ M, M = (JM k n ins s).1 := ⟨_, rfl⟩
  rw [← hM] at hmny hmok hmX
  obtain ⟨TY, hTY⟩ : ∃ TY, TY = Kg k ins M := ⟨_, rfl⟩
  have hTl : TY.length = M := by rw [hTY, VG]
  have hzz : ∀ z ∈ TY, JA z = true → 0 ≤ JO z := fun z _ hz => by have := jc hz; omega
  have hbl := Ye TY
  obtain ⟨H, hH⟩ : ∃ H, H = (JV TY).toNat := ⟨_, rfl⟩
  have hHi : JV TY = (H : Int) := by omega
  have hHi' : JV (Kg k ins M) = (H : Int) := by rw [← hTY]; exact hHi
  refine Jar Tryz.func147 rfl rfl fun w => Ww fun K1 hK1 => Ka (LN rfl fun r1 => (LN rfl fun r2 => ?_)); refine QK rfl (KM (hK1 _ _ _ _ ?_)); refine Ww fun K2 hK2 => Ka (LS 2 [1, 0] rfl rfl ?_); refine KZ rfl rfl rfl (enters_of Tryz.func185 m5 rfl) hmny oR (fun hm0 _ => ?_) (fun v hv => Qs rfl rfl (by rw [jf hv.1]; exact hv))
  have hM5 := (hmok hm0).1
  have hX := hmX hm0
  have hti := fun i (h : i < M) => ht.sub _ (Kw (hX i h)).2
  have hbg := Jd8 ht (m := M) m0 hX
  rw [hHi'] at hbg; refine QK rfl (KM (hK2 _ _ _ _ ?_)); refine Ww fun K3 hK3 => Ka (LS 2 [1] rfl rfl (Jb rfl rfl rfl (enters_of Tryz.func163 m5 rfl) hbg oR ?_)); refine HT fun r3 => ?_; refine KM (hK3 _ _ _ _ ?_); refine Ww fun K4 hK4 => Ka (LS 2 [0, 1] rfl rfl (LR rfl (JI rfl rfl) ?_)); refine V7 rfl (KZ rfl rfl rfl jk (VS (_) 2) oN (fun hok _ => ?_) (fun v hv => Qs rfl rfl (WH (Ji8 hm0 hM hHi' M4) m7 hv)))
  have hHl : H ≤ s.length := by have := Z1.mp hok; omega
  refine KM (hK4 _ _ _ _ ?_); refine Ww fun K5 hK5 => Ka (LN rfl fun r4 => ?_); refine KM (hK5 _ _ _ _ ?_); refine Ww fun K6 hK6 => ?_
  refine JJ [(r3, .cells #[.int .i64 (H : Int)] 3 (0, 0))] [(0, .pure), (1, .grow (V1 vv (.cells #[.int .i64 0] 3 (0, 0)))), (2, .grow (V1 vv (.cells #[.int .i64 0] 3 (0, 0)))), (3, .grow (V1 vv (.cells #[.int .i64 0] 3 (0, 0)))), (4, .turn), (5, .turn), (6, .turn)] 7 [0, 1, 2, 3, 4, 5, 6] m5 m5 m6 (Ji (k := 0) rfl rfl rfl rfl rfl (fun _ hS => (Je rfl (.inl (hS _ (Kn (n := 0) rfl))) rfl rfl)) (Wt (k := 1) (cs := #[_]) rfl rfl rfl rfl rfl rfl fun r5 => Wt (k := 2) (cs := #[_]) rfl rfl rfl rfl rfl rfl fun r6 => Wt (k := 3) (cs := #[_]) rfl rfl rfl rfl rfl rfl fun r7 => ?_))
  refine WS (k := 4) (q := 2) rfl rfl rfl rfl rfl rfl rfl rfl rfl mi mh m6 ?_
  refine WS (k := 5) (q := 1) rfl rfl rfl rfl rfl rfl rfl rfl rfl mi mh m6 ?_
  refine WS (k := 6) (q := 0) rfl rfl rfl rfl rfl rfl rfl rfl rfl mi mh m6 (Kk (KM (hK6 _ _ _ _ ?_))); refine Jie fun K7 hK7 => Ww fun K8 hK8 => Ka (LS 2 [6] rfl rfl (Vx rfl rfl rfl Jol (Ja5 (.mk k n p ins) (M : Int)) fun pp => ?_))
  obtain ⟨ra, rb⟩ := pp
  change HL _ _ _ (jz rb M :: Vs ra (.mk k n p ins) :: _) _ _ _ _; refine KM (hK8 _ _ _ _ ?_); refine Jkr (Jt3 [4, 3, 2, 5, 0, 1, 6, 7, 8] (L' := [_, _, _, _, _, _, _, _, _]) m7 rfl ?_)
  refine Jks (τ := Unit) (fun ch => ∃ v, ((QN k n ins s).2 ≠ 0 ∧ v = xg (QN k n ins s).2) ∧ ch = wY v) (fun i (q : Nat × Nat × Nat × Int × Vg × List Nat) => q.1 = i ∧ PInv s H TY q.1 q.2.1 q.2.2.1 q.2.2.2.1 q.2.2.2.2.2 ∧ rowOk 5 q.1 (XL (wf s TY q.1 q.2.2.2.2.2)) q.2.2.2.2.1) (fun q => (r5, .cells #[.int .i64 (q.2.1 : Int)] 3 (0, 0)) :: (r6, .cells #[.int .i64 (q.2.2.1 : Int)] 3 (0, 0)) :: (r7, .cells #[.int .i64 q.2.2.2.1] 3 (0, 0)) :: (r4, .cells #[J3 q.1 q.2.2.2.2.1] 159 (0, 0)) :: JL 162 (XL (wf s TY q.1 q.2.2.2.2.2)) q.2.2.2.2.1) (fun _ _ => False) (fun _ => []) [jz rb M, Vs ra (.mk k n p ins), _, _, _] (0, 0, H, -1, none, []) rfl rfl Jor (Jpw ht m0 hX ra rb) mA rfl (fun q hq => by rcases List.mem_cons.1 hq with rfl | hq; exact .inl mf; rcases List.mem_cons.1 hq with rfl | hq; exact .inl mf; exact .inr hq) rfl ⟨rfl, PInv.start, rfl, rfl⟩ ?_ ?_ ?_ ?_
  · rintro q Xr Xb w3 i _ _ ⟨i2, A, la, op, row, pre⟩ ⟨hii, rfl, rfl⟩ ⟨he, hinv, hrow⟩ Kr hKr
    simp only at he hinv hrow; subst he
    have hti1 := hti i2 hii
    have hxx : TY[i2]? = some (J0 k 0 ins i2) := by rw [hTY]; unfold Kg; rw [List.getElem?_map, List.getElem?_range hii]; rfl
    have hsz := vZ hti1
    have hbd := hinv.bound hxx hHi
    have hbt := Yd (J0 k 0 ins i2)
    have hbe := WM (J0 k 0 ins i2)
    unfold itV
    obtain ⟨x, hx⟩ : ∃ x, x = J0 k 0 ins i2 := ⟨_, rfl⟩
    rw [← hx] at hti1 hxx hsz hbd hbt hbe ⊢
    obtain ⟨y, hy⟩ : ∃ y : Nat, Wx x = (y : Int) := ⟨_, (Int.toNat_of_nonneg m0).symm⟩
    rw [hy] at hsz hbd hbt hbe
    obtain ⟨xk, xn, xp, xi⟩ := x
    refine W5 fun K9 hK9 => Ka (QK rfl (KM (hK9 _ _ _ _ ?_))); refine Ka (LN rfl fun r8 => ?_)
    refine Ve (k := 0) (n := 3) (cs' := #[_, _, _]) (vs := #[_, _, _]) rfl rfl rfl rfl rfl rfl rfl mm rfl mh (KM (hKr _ _ ?_)); clear hKr; refine wn (W5 fun K10 hK10 => Ka (LR rfl (Jm (xs := Ty.cells (.mk xk xn xp xi)) (n := 3) rfl (kn 0 rfl) rfl rfl (Ty.len _)) ?_)); refine Jb rfl rfl rfl Jik hsz (fun q hq => Or.inr (List.mem_append_right _ hq)) (LS 5 [] rfl rfl (KM (hK10 _ _ _ _ ?_))); refine W5 fun K11 hK11 => Ka (LR rfl (Jm (xs := Ty.cells (.mk xk xn xp xi)) (n := 3) rfl (kn 0 rfl) rfl rfl (Ty.len _)) (LS 4 [1, 1] rfl rfl (Jk mq (LR rfl (Js (r := [_, _, _, _, _]) rfl rfl) (LN rfl fun r9 => ?_)))))
    refine Nm ?_; refine KM (hK11 _ _ _ _ ?_); refine W5 fun K12 hK12 => W5 fun K13 hK13 => Ka (NC ?_); refine KM (hK13 _ _ _ _ ?_); refine cD (fun g => ?_) fun g => ?_
    · refine W5 fun K15 hK15 => ?_
      have hff : JA (Ty.mk xk xn xp xi) = false := ‹_›
      rw [hff, if_neg m7] at hbe; refine Ka (LR rfl (Je rfl (JB (k := 3) rfl) rfl rfl) (LR rfl (Je rfl (kn 2 rfl) rfl rfl) ?_)); refine LR rfl (KV (kl := some (.i64, (A : Int))) (kh := none) (m := A) (n := s.length) rfl rfl rfl rfl rfl rfl m0 m0 (show _ = s.drop A from by rw [List.take_length])) (J6 rfl rfl rfl Joo (Jpr (s := s.drop A) nC) ?_)
      obtain ⟨v, hv⟩ : ∃ v, v = V4 ((s.drop A).take 4) := ⟨_, rfl⟩
      rw [← hv]; refine LS 1 [] rfl rfl ?_
      refine Nm ?_; refine KM (hK15 _ _ _ _ ?_); refine W5 fun K16 hK16 => Ka (LS 5 [0, 3] rfl rfl ?_)
      refine Jp 55 rfl (fun gb => ?_) (fun gb => ?_) <;> (try simp only [ZZ] at gb) <;> first | (refine LR rfl (J5 rfl rfl rfl) ?_) | (refine LK rfl ?_)
      all_goals refine DA ?_
      all_goals first
        | (refine LR rfl (Je rfl (JB (k := 3) rfl) rfl rfl) ?_)
        | (refine LK rfl ?_)
      all_goals first
        | (refine LR rfl (JI rfl rfl) ?_)
        | (refine LK rfl ?_)
      all_goals refine LW 3 [] rfl rfl ?_
      all_goals first
        | (refine LK rfl ?_)
        | (refine Jp 62 rfl (fun gb => ?_) (fun gb => ?_) <;> (try simp only [ZZ] at gb) <;> first | (refine LR rfl (Je rfl (kn 0 rfl) rfl rfl) ?_) | (refine LR rfl (Je rfl (kn 1 rfl) rfl rfl) ?_) | (refine LR rfl (Je rfl (kn 2 rfl) rfl rfl) ?_) | (refine LR rfl (Je rfl (kn 3 rfl) rfl rfl) ?_) | (refine LR rfl (Je rfl (kn 4 rfl) rfl rfl) ?_) | (refine LR rfl (Je rfl (kn 5 rfl) rfl rfl) ?_) | (refine LR rfl (Je rfl (kn 6 rfl) rfl rfl) ?_) | (refine LR rfl (Je rfl (JB (k := 0) rfl) rfl rfl) ?_) | (refine LR rfl (Je rfl (JB (k := 1) rfl) rfl rfl) ?_) | (refine LR rfl (Je rfl (JB (k := 2) rfl) rfl rfl) ?_) | (refine LR rfl (Je rfl (JB (k := 3) rfl) rfl rfl) ?_) | (refine LR rfl (Je rfl (JB (k := 4) rfl) rfl rfl) ?_) | (refine LK rfl ?_))
      all_goals refine Gv ?_
      all_goals first
        | (refine LK rfl ?_)
        | (refine Jp 65 rfl (fun gb => ?_) (fun gb => ?_) <;> (try simp only [ZZ] at gb) <;> first | (refine LR rfl (J5 rfl rfl rfl) ?_) | (refine LK rfl ?_))
      all_goals refine DA ?_
      all_goals first
        | (refine LR rfl (Je rfl (JB (k := 2) rfl) rfl rfl) ?_)
        | (refine LK rfl ?_)
      all_goals refine LW 3 [] rfl rfl ?_
      all_goals refine KZ rfl rfl rfl jk (VS (_) 2) oN (fun hok _ => ?_) (fun v1 hv1 => by first | exact Bool.noConfusion hv1.1 | ((repeat (first | refine Jn0 ?_ | refine Jkm ?_)); exact Jkp ⟨v1, WH (Ji9 hm0 hM hHi' hHl (by rw [← hTY]; exact hinv.bad hxx hff hv (by first | (refine .inr (.inl ?_); omega) | (refine .inr (.inr ?_); omega) | (refine .inl ⟨?_, fun e => ?_⟩; omega; have := Z4.1 hv1.1; omega)))) m7 hv1, rfl⟩))
      all_goals try exact Bool.noConfusion hok
      all_goals refine KM ?_
      all_goals (
       refine hK16 _ _ _ _ (W5 fun K30 hK30 => W5 fun K31 hK31 => ?_)
       obtain ⟨hvi, hvn, hvj⟩ := hinv.var hxx hff hv (by first | (left; omega) | (right; have := Z3.1 hok; omega)) m0 m0
       refine Ka (LS 2 [4] rfl rfl ?_); refine KM (hK31 _ _ _ _ ?_); refine cD (fun g => ?_) fun g => ?_
       obtain ⟨j, hj0⟩ : ∃ j : Nat, op = (j : Int) := ⟨op.toNat, by omega⟩
       have hj : j < i2 := by have := hinv.opv; have := Y5 (TY.take i2); rw [List.length_take, Nat.min_eq_left hinv.le] at this; omega
       obtain ⟨rr, cap, sp, rfl⟩ := row_some hrow m0
       obtain ⟨x0, f0, g1, g2⟩ := hvj j hj0
       have hjp : j * 5 + 4 < (XL (wf s TY i2 pre)).length := by rw [Jel, hinv.len]; omega
       have hjl : j * 5 + 4 < (XL (wf s TY i2 pre) ++ sp).length := by rw [List.length_append]; omega
       have hrowJ : rowOk 5 i2 (XL ((wf s TY i2 pre).set j (x0, f0, v))) (some (rr, cap, sp)) := ⟨by rw [Jel, List.length_set, hinv.len], hrow.2⟩
       refine Ka (LR rfl (Je (v := J3 i2 (some (rr, cap, sp))) rfl (kn 5 rfl) rfl rfl) (LR rfl (Je rfl (kn 4 rfl) rfl rfl) ?_))
       refine LS 2 [0] rfl rfl (LR rfl (wv (row := some (rr, cap, sp)) (j := j) (m := 5) (off' := j * 5) rfl hrow rfl rfl rfl hj0 hj rfl) (LR rfl (JR (off' := j * 5 + 4) rfl rfl rfl) (Kt (k := 6) (cs' := (XL ((wf s TY i2 pre).set j (x0, f0, v)) ++ sp).toArray) rfl rfl rfl rfl rfl rfl (by rw [List.getElem?_toArray, List.getElem?_eq_getElem hjl]; rfl) (Jwb _) (by rw [List.setIfInBounds_toArray, List.set_append_left _ _ hjp, Jem v g1]) rfl ?_))); refine KM (hK30 _ _ _ _ ?_); refine gA ?_; refine W5 fun K33 hK33 => Ka (LR rfl (Je (v := J3 i2 (some (rr, cap, sp))) rfl (kn 5 rfl) rfl rfl) (HG ?_)); refine J7 (vs := [_]) (zs := [_, _, _, _, _]) (r := [_, _, _, _, _]) rfl rfl rfl rfl rfl rfl rfl rfl rfl mn rfl fun r10 => JF (L0 := [_, _, _, _, _, _, _]) (xs := XL ((wf s TY i2 pre).set j (x0, f0, v))) (row := some (rr, cap, sp)) (n := i2) (sz := 5) (b := 56) (news := [_, _, _, _, _]) (List.perm_append_comm (l₁ := [_, _, _, _, _, _, _])) rfl rfl rfl rfl (kn 0 rfl) rfl rfl rfl rfl rfl m7 rfl rfl rfl m7 hrowJ m0 m0 fun ra2 cap2 sp2 hra => G9 ?_; refine KM (hK33 _ _ _ _ ?_); refine Hg ?_
       (obtain rfl : y = 4 := by omega
        exact qQ (i2 + 1, A + 4, v, (i2 : Int), some (ra2, cap2, sp2), pre ++ [v]) ⟨rfl, hvi, by simp only; rw [g2, Xv]; exact hra⟩ (by simp only; rw [g2, Xv]; exact ⟨List.Sublist.refl _, List.Sublist.refl _⟩))
       refine vC (hK30 _ _ _ _ ?_); refine gA ?_; refine W5 fun K34 hK34 => Ka (LR rfl (Je (v := J3 i2 row) rfl (kn 5 rfl) rfl rfl) (HG ?_)); refine J7 (vs := [_]) (zs := [_, _, _, _, _]) (r := [_, _, _, _, _]) rfl rfl rfl rfl rfl rfl rfl rfl rfl mn rfl fun r11 => JF (L0 := [_, _, _, _, _, _, _]) (xs := XL (wf s TY i2 pre)) (row := row) (n := i2) (sz := 5) (b := 56) (news := [_, _, _, _, _]) (List.perm_append_comm (l₁ := [_, _, _, _, _, _, _])) rfl rfl rfl rfl (kn 0 rfl) rfl rfl rfl rfl rfl m7 rfl rfl rfl m7 hrow m0 m0 fun ra2 cap2 sp2 hra => G9 ?_; refine KM (hK34 _ _ _ _ ?_); refine Ka (LS 3 [4] rfl rfl ?_); refine Jk mq ?_
       refine Kt (k := 4) rfl rfl rfl rfl rfl rfl rfl rfl mi mh (KM (Yp (QG [4, 5, 6, 7, 0] (L' := [_, _, _, _, _]) m7 rfl ?_)))
       (obtain rfl : y = 4 := by omega
        have g3 := hvn (by have := hinv.opv; have := Y5 (TY.take i2); omega)
        exact qQ (i2 + 1, A + 4, v, (i2 : Int), some (ra2, cap2, sp2), pre ++ [v]) ⟨rfl, hvi, by simp only; rw [g3, Xv]; exact hra⟩ (by simp only; rw [g3, Xv]; exact ⟨List.Sublist.refl _, List.Sublist.refl _⟩))
       skip)
    refine vC (hK12 _ _ _ _ ?_); refine W5 fun K35 hK35 => Ka (LR rfl (Je (v := J3 i2 row) rfl (kn 5 rfl) rfl rfl) (HG ?_)); refine J7 (vs := [_]) (zs := [_, _, _, _, _]) (r := [_, _, _, _, _]) rfl rfl rfl rfl rfl rfl rfl rfl rfl mn rfl fun r12 => JF (L0 := [_, _, _, _, _, _, _]) (xs := XL (wf s TY i2 pre)) (row := row) (n := i2) (sz := 5) (b := 56) (news := [_, _, _, _, _]) (List.perm_append_comm (l₁ := [_, _, _, _, _, _, _])) rfl rfl rfl rfl (kn 0 rfl) rfl rfl rfl rfl rfl m7 rfl rfl rfl m7 hrow m0 m0 fun ra2 cap2 sp2 hra => G9 ?_; refine KM (hK35 _ _ _ _ ?_); refine Hg ?_
    (have hfx : JA (Ty.mk xk xn xp xi) = true := ‹_›
     rw [hfx, if_pos rfl] at hbe
     obtain ⟨f1, f2⟩ := hinv.fix hxx hfx hzz
     rw [show (JO (Ty.mk xk xn xp xi)).toNat = y by omega] at f1 f2
     exact qQ (i2 + 1, A + y, la, op, some (ra2, cap2, sp2), pre) ⟨rfl, f1, by simp only; rw [f2, Xv]; exact hra⟩ (by simp only; rw [f2, Xv]; exact ⟨List.Sublist.refl _, List.Sublist.refl _⟩))
  · rintro D i ⟨i2, A, la, op, row, pre⟩ hfi ⟨he, hinv, hrow⟩
    simp only at he hinv hrow
    have hin : i = M := hfi
    have he2 : i2 = TY.length := by omega
    subst he2
    have hfin := hinv.done
    refine Yp (hK7 _ _ _ _ ?_); refine Ww fun K36 hK36 => Ka (LR rfl (Je (v := .int .i64 op) rfl (kn 3 rfl) rfl rfl) (LS 2 [] rfl rfl ?_))
    refine Jp 96 rfl (fun gb => ?_) (fun gb => ?_) <;> (try simp only [ZZ] at gb) <;> first | (refine LR rfl (Je (v := .int .i64 (H : Int)) rfl (Or.inl (List.mem_cons_of_mem _ (List.mem_append_right _ (List.mem_cons_of_mem _ (List.mem_cons_of_mem _ List.mem_cons_self))))) rfl rfl) ?_) | (refine LK rfl ?_)
    all_goals first
      | (refine LR rfl (Je (v := Jw s) rfl (Or.inl (List.mem_cons_of_mem _ (List.mem_append_right _ (List.mem_cons_of_mem _ (List.mem_cons_of_mem _ (List.mem_cons_of_mem _ List.mem_cons_self)))))) rfl rfl) ?_)
      | (refine LK rfl ?_)
    all_goals first
      | (refine LR rfl (JI rfl rfl) ?_)
      | (refine LK rfl ?_)
    all_goals refine Gv ?_
    all_goals refine KZ rfl rfl rfl jk (VS (_) 2) oN (fun hok _ => ?_) (fun v hv => by first | exact Bool.noConfusion hv.1 | exact Jdc (k := 0) rfl rfl (Qs rfl rfl (WH (Ji9 hm0 hM hHi' hHl (by rw [← hTY]; exact (hfin.2).trans (if_pos ⟨by omega, fun e => by have := Z4.1 hv.1; omega⟩))) m7 hv)))
    all_goals refine KM ?_
    all_goals (
     refine hK36 _ _ _ _ (Ww fun K41 hK41 => Ka (LR rfl (Je (v := J3 TY.length row) rfl (kn 4 rfl) rfl rfl) (QK rfl ?_))); refine KM (hK41 _ _ _ _ ?_); refine Jn2 (Jlz ?_)
     have hpo := Jbf hm0 hM hHi' hHl
     rw [← hTY, hfin.2, if_neg (by first | (rintro ⟨g1, g2⟩; omega) | (rintro ⟨g1, g2⟩; have := Z3.1 hok; omega))] at hpo; simp only at hpo
     have hps : Ym k n ins s = wf s TY TY.length pre := by unfold Ym; rw [hpo, ← hM, ← hTY, hfin.1]
     rw [hps]; refine D0 ?_; refine Jd rfl rfl (.cons (Jn rfl) .nil) (fun w1 hs1 => ?_); exact .inl ⟨by rw [hpo], ⟨row, by rw [hinv.len]; exact hrow⟩, congrArg (fun m => Ending.returned (J3 m row)) hinv.len.symm, hs1.weakL (.cons _ (.cons _ (.cons _ (.cons _ (.cons _ (List.sublist_append_left _ _))))))⟩
     skip)
  exact gp
  · rintro D _ ⟨v, hv, rfl⟩
    exact Jdc (k := 0) rfl rfl (Qs rfl rfl hv)
open Go.Proofs (Enters enters_of)
theorem jg : ∀ {l : List (Gf × BS)} {vs : List Vl} {f : Gf} {s : BS} {v : Vl}, Vt l = (vs, 0) → f s = (v, 0) → Vt (l ++ [(f, s)]) = (vs ++ [v], 0)
 | [], vs, f, s, v, h, hv => by
  rw [Vt] at h
  obtain rfl := (Prod.mk.inj h).1
  rw [List.nil_append, Vt, Vt, hv, if_neg mf, if_neg mf]; rfl
 | (f', s') :: l, vs, f, s, v, h, hv => by
  rw [Vt] at h
  by_cases h1 : (f' s').2 ≠ 0
  ·rw [if_pos h1] at h; exact absurd (Prod.mk.inj h).2 h1
  rw [if_neg h1] at h
  by_cases h2 : (Vt l).2 ≠ 0
  ·rw [if_pos h2] at h; exact absurd (Prod.mk.inj h).2 h2
  rw [if_neg h2] at h
  obtain rfl := (Prod.mk.inj h).1
  have ih := jg (l := l) (vs := (Vt l).1) (Prod.ext rfl (Decidable.not_not.1 h2)) hv
  rw [List.cons_append, Vt, if_neg h1, ih, if_neg mf]; rfl
theorem qk : ∀ {l r : List (Gf × BS)} {vs : List Vl} {f : Gf} {s : BS}, Vt l = (vs, 0) → (f s).2 ≠ 0 → (Vt (l ++ (f, s) :: r)).2 = (f s).2
 | [], r, vs, f, s, _, hv => by rw [List.nil_append, Vt, if_pos hv]
 | (f', s') :: l, r, vs, f, s, h, hv => by
  rw [Vt] at h
  by_cases h1 : (f' s').2 ≠ 0
  ·rw [if_pos h1] at h; exact absurd (Prod.mk.inj h).2 h1
  rw [if_neg h1] at h
  by_cases h2 : (Vt l).2 ≠ 0
  ·rw [if_pos h2] at h; exact absurd (Prod.mk.inj h).2 h2
  have ih := qk (r := r) (l := l) (vs := (Vt l).1) (Prod.ext rfl (Decidable.not_not.1 h2)) hv
  rw [List.cons_append, Vt, if_neg h1, if_pos (by rw [ih]; exact hv)]; exact ih
theorem yH {s : BS} {H : Nat} (hH : H ≤ s.length) : ∀ {ts : List Ty} {a la : Nat} {op : Bool} {os : List Nat}, Qy s H ts a la op = some os → la ≤ s.length → (op = false → la = H) → (∀ x ∈ ts, JA x = true → 0 ≤ JO x) → (a : Int) + JV ts = H → ∀ q ∈ Kf ts a os, q.2.1 ≤ q.2.2 ∧ q.2.2 ≤ s.length
 | [], _, _, _, _, _, _, _, _, _, q, hq => by rw [Kf] at hq; cases hq
 | x :: xs, a, la, op, os, h, hla, hop, hz, hb, q, hq => by
  have hz2 : ∀ y ∈ xs, JA y = true → 0 ≤ JO y := fun y hy => hz y (List.mem_cons_of_mem _ hy)
  have hn := Ye xs
  rw [JV, Wx] at hb; rw [Qy] at h; rw [Kf] at hq
  by_cases hf : JA x = true
  ·rw [if_pos hf] at h hb hq
   have h0 := hz x List.mem_cons_self hf
   rcases List.mem_cons.1 hq with rfl | hq
   ·simp only; omega
   ·exact yH hH h hla hop hz2 m0 q hq
  ·rw [if_neg hf] at h hb hq
   split at h
   ·cases h
   ·rename_i h1
    obtain ⟨r, h2, rfl⟩ := Option.map_eq_some_iff.1 h
    obtain ⟨o, r2, rfl, g1, g2, _⟩ := wc h2 m0 (fun h => by cases h)
    rcases List.mem_cons.1 hq with rfl | hq
    ·exact ⟨g1, g2⟩
    ·exact yH hH h2 m0 (fun h => by cases h) hz2 m0 q hq
def gq (s : BS) (q : Ty × Nat × Nat) : Gf × BS := (Ku q.1, (s.take q.2.2).drop q.2.1)
theorem ql {α β γ : Type} (f : α → β) (g : α → γ) : ∀ l : List α, (l.map f).zip (l.map g) = l.map fun a => (f a, g a)
 | [] => rfl
 | x :: xs => by rw [List.map_cons, List.map_cons, List.zip_cons_cons, ql f g xs]; rfl
theorem Jbg {k n : Int} {ins : List Ty} (hX : (JM k n ins s).2 = 0 → ∀ i, i < (JM k n ins s).1 → VQ k 0 i < ins.length) :
  j0 k n ins (XK ins) s = if (QN k n ins s).2 ≠ 0 then (v0L, (QN k n ins s).2) else if (Vt ((Ym k n ins s).map (gq s))).2 ≠ 0 then (v0L, (Vt ((Ym k n ins s).map (gq s))).2) else (KP (Vt ((Ym k n ins s).map (gq s))).1 0, 0) := by
 unfold j0
 by_cases hm : (JM k n ins s).2 ≠ 0
 ·rw [if_pos hm, if_pos (by rw [jf hm]; exact hm), jf hm]
 rw [if_neg hm]
 have hm0 := Decidable.not_not.1 hm
 have hX := hX hm0
 unfold Ym QN
 rw [if_neg hm]
 by_cases hb : (s.length : Int) < JV (Kg k ins (JM k n ins s).1)
 ·rw [if_pos hb, if_pos hb, if_pos mf]
 rw [if_neg hb, if_neg hb]
 generalize (JM k n ins s).1 = M at *
 cases Qy s (JV (Kg k ins M)).toNat (Kg k ins M) 0 (JV (Kg k ins M)).toNat false with
 | none => simp
 | some os =>
  simp only [ne_eq, not_true_eq_false, if_false]
  have e : ((List.range M).map fun i => (XK ins).getD (VQ k 0 i) g0).zip (VH s (Kg k ins M) 0 os) = (Kf (Kg k ins M) 0 os).map (gq s) := by
   have e1 : ((List.range M).map fun i => (XK ins).getD (VQ k 0 i) g0) = (Kf (Kg k ins M) 0 os).map fun q => Ku q.1 := by
    have e2 : ((Kf (Kg k ins M) 0 os).map Prod.fst).map Ku = (Kg k ins M).map Ku := by rw [qN]
    rw [List.map_map] at e2; rw [show (fun q : Ty × Nat × Nat => Ku q.1) = Ku ∘ Prod.fst from rfl, e2]
    unfold Kg
    rw [List.map_map]; exact List.map_congr_left fun i hi => wd (Kw (hX i (List.mem_range.1 hi))).1
   rw [e1, j5, ql]; rfl
  rw [e]
section
variable {k n : Int} {p : Pl} {ins : List Ty} {s : BS}
theorem g_w (h : JA (.mk k n p ins) = true ∧ (s.length : Int) ≠ JO (.mk k n p ins)) : Ku (.mk k n p ins) s = (v0L, 2) := by rw [Ku]; unfold j3; rw [if_pos h]
variable (hnf : ¬ (JA (.mk k n p ins) = true ∧ (s.length : Int) ≠ JO (.mk k n p ins)))
include hnf
theorem g_1 (h1 : k = 1) : Ku (.mk k n p ins) s = (jm (Xd s), 0) := by rw [Ku]; unfold j3; rw [if_neg hnf, if_pos h1]
theorem g_2 (h1 : k ≠ 1) (h2 : k = 2) : Ku (.mk k n p ins) s = if 1 < (s.getD 0 0).toNat then (v0L, 2) else (jm (Xd s), 0) := by rw [Ku]; unfold j3; rw [if_neg hnf, if_neg h1, if_pos h2]
theorem g_5 (h1 : k ≠ 1) (h2 : k ≠ 2) (h5 : k = 5) : Ku (.mk k n p ins) s = if ((J4 s (8 * s.length)).drop n.toNat).any id then (v0L, 8) else (Yl (J4 s n.toNat), 0) := by rw [Ku]; unfold j3; rw [if_neg hnf, if_neg h1, if_neg h2, if_pos h5]
theorem g_6 (h1 : k ≠ 1) (h2 : k ≠ 2) (h5 : k ≠ 5) (h6 : k = 6) : Ku (.mk k n p ins) s = vp n s := by rw [Ku]; unfold j3; rw [if_neg hnf, if_neg h1, if_neg h2, if_neg h5, if_pos h6]; rfl
theorem Jxh (h1 : k ≠ 1) (h2 : k ≠ 2) (h5 : k ≠ 5) (h6 : k ≠ 6) (h8 : k = 8) (hs : s = []) : Ku (.mk k n p ins) s = (v0L, 2) := by rw [Ku]; unfold j3; rw [if_neg hnf, if_neg h1, if_neg h2, if_neg h5, if_neg h6, if_pos h8, hs]
theorem g_r (h1 : k ≠ 1) (h2 : k ≠ 2) (h5 : k ≠ 5) (h6 : k ≠ 6) (h8 : k ≠ 8) : Ku (.mk k n p ins) s = j0 k n ins (XK ins) s := by rw [Ku]; unfold j3; rw [if_neg hnf, if_neg h1, if_neg h2, if_neg h5, if_neg h6, if_neg h8]
theorem Jxi (h1 : k ≠ 1) (h2 : k ≠ 2) (h5 : k ≠ 5) (h6 : k ≠ 6) (h8 : k = 8) (hs : s ≠ []) (hb : ins.length ≤ (s.getD 0 0).toNat) : Ku (.mk k n p ins) s = (v0L, 9) := by
 rw [Ku]; unfold j3; rw [if_neg hnf, if_neg h1, if_neg h2, if_neg h5, if_neg h6, if_pos h8]
 cases s with
 | nil => exact absurd rfl hs
 | cons b r => simp only; rw [if_pos Mi]
theorem g_8 (h1 : k ≠ 1) (h2 : k ≠ 2) (h5 : k ≠ 5) (h6 : k ≠ 6) (h8 : k = 8) (hs : s ≠ []) (hx : ins[(s.getD 0 0).toNat]? = some x) : Ku (.mk k n p ins) s = if (Ku x (s.drop 1)).2 ≠ 0 then (v0L, (Ku x (s.drop 1)).2) else (KP [(Ku x (s.drop 1)).1] (s.getD 0 0).toNat, 0) := by
 rw [Ku]; unfold j3; rw [if_neg hnf, if_neg h1, if_neg h2, if_neg h5, if_neg h6, if_pos h8]
 cases s with
 | nil => exact absurd rfl hs
 | cons b r =>
  simp only [List.getD_cons_zero, List.drop_succ_cons, List.drop_zero] at hx ⊢
  have hlt := (List.getElem?_eq_some_iff.1 hx).1
  rw [if_neg m0, wd hx]
end
theorem yI  {a : Nat} (h : Xd s = [a, b, c, d]) : Vl.In [] (.mk a b c d [] none [] none 0) := by
 have h2 := (xY s).2
 rw [h] at h2
 have hU : ∀ x ∈ [a, b, c, d], YK x := fun x hx => h2 x hx
 exact .mk (hU a mf) (hU b mf) (hU c mf) (hU d mf) m7 rfl m7 rfl i0 (fun x hx => nomatch hx)
theorem Jt5 (l : List Vl) : (KC l).length = l.length * 7 := Qd Vl.len l
theorem XM {vs : List Vl} {E : Jj} {p : Pl} {pick : Int} (hl : vs.length ≤ 9223372036854775807) (hs : Seg Lr vs.length (KC vs) p) (hE : ∀ x ∈ vs, x.In E) (hp : Yo pick) : Vl.In (Lr ++ E) (.mk 0 0 0 0 [] none vs p pick) :=
 .mk u0 u0 u0 u0 m7 rfl hl (hs.mono fun q hq => List.mem_append_left _ hq) hp fun x hx => (hE x hx).mono fun q hq => List.mem_append_right _ hq
theorem yJ {c : Cx} {d : List Deferred} {l : Ko} {ok : Prop} {bad : Value → Prop}
  (hca : KD l f args = some (g, vs)) (eg : Enters c.P g) (hpt : PureX c.P g vs.toArray ok bad V LL Rl) (hno : ok → α → False) (hR : ∀ p ∈ Rl, known c L p.1 p.2) (hp : ∀ v, bad v → HQ c d l L X (Q (.panic (wY v)))) :
  ∀ (next : Act → World → Prop) a w, Fr c.n d l a → St c L X w → Oper.uponIn (FW c.ro) 0 c.P ⟨dst, .call ⟨.value f, args, at_⟩, ty, ps, af, gd⟩ a next Q ((execOp a.eval ⟨dst, .call ⟨.value f, args, at_⟩, ty, ps, af, gd⟩).run c.P w) := fun next a w hf hs => by
 rw [VJ hf hca c.P w _ rfl eg, Oper.uponIn_enter]; refine ⟨fun hdep => nH, ?_⟩
 have hc := callsIn_wide (n := 0) |>.2 (hpt.run w fun p hp => hs.known (hR p hp))
 refine CallsIn.mono mM ?_
 rintro e w' (⟨ho, x, rfl, hk, h1, h2⟩ | ⟨v, hv, rfl, hk⟩)
 ·exact (hno ho x).elim
 ·exact hp v hv a w' hf (hs.more hk)
section
variable {c : Cx} {X : XP} {S : Jj} {ops : Array Oper} {l : Ko} {E : Jj} {d : List Deferred} {tb : jS} {rest : List Nat} {T : Jj → Act → Prop} {i k : Nat} {v : Value}
theorem ZF {t : TypeId} {n : Nat} {vs : Ko} {r zs : List Value} {z : Value} (hk : W1 ops.toList k = some ⟨some i, .buildSlice t n pa.toArray, ty, ps, af, gd⟩) (hg : Kp l ops ⟨some i, .buildSlice t n pa.toArray, ty, ps, af, gd⟩ = some true) (hi : Nat.ble (i + 1) c.n = true)
  (hA : tb k = .turn) (hS : SubS S E)
  (hp : WI l pa = some vs) (ht : Ks c.P t = some e) (hz : QL c.P e = some z) (hs : KQ c.P e = some sz) (hzs : z.cells.size = sz) (hb : Nat.ble (n * sz) 16777216 = true) (h0 : Nat.ble 1 (n * sz) = true)
  (hmk : (madeCells z.cells (n * sz)).toList = zs) (hf : Zc (fun i => some (i * sz, sz)) zs (QE vs) = some r)
  (h : ∀ q, HB c d ((i, .slice (some ⟨q, 0, none⟩) n n) :: l) ((q, .cells r.toArray e (0, 0)) :: E) X S ops tb rest T) : HB c d l E X S ops tb (k :: rest) T := fun a hfr => by
 refine ⟨_, QO hk, ?_⟩; rw [hA]; refine .inl ⟨Nat, slV n, fun q => (q, .cells r.toArray e (0, 0)) :: E, ⟨JD hfr hg, fun w hst => ?_⟩, fun q => ⟨fun p hp => List.mem_cons_of_mem _ (hS p hp), h q _ (hfr.put (Nat.le_of_ble_eq_true hi))⟩⟩
 have h1 := Vp hfr hp
 have h2 : (pa.toArray.map fun (p : Nat × Operand) => (p.1, a.eval p.2)) = vs.toArray := by
  apply Array.toList_inj.1; rw [Array.toList_map]; simpa using h1
 rw [Qz] at hf; subst hmk
 have h3 := VA ht hz hs hzs (Nat.le_of_ble_eq_true hb) (Nat.le_of_ble_eq_true h0) hf w
 rw [← h2] at h3
 have h4 : (Instr.buildSlice t n (pa.toArray.map fun (i, x) => (i, a.eval x))).run c.P w = .ok (.slice (some ⟨w.heap.size, 0, none⟩) n n) (w.alloc (.cells r.toArray e)) := h3
 refine YH (v := .slice (some ⟨w.heap.size, 0, none⟩) n n) (w' := w.alloc (.cells r.toArray e)) ?_ ⟨w.heap.size, rfl, hst.alloc _⟩; refine Gl ?_; rw [h4]; rfl
end
open Classical in
theorem Jxj (a b c d e : α) (Y A P E : List α) : (a :: (Y ++ (b :: c :: d :: e :: (A ++ (P ++ E))))).Perm (A ++ (a :: b :: c :: d :: e :: (Y ++ (P ++ E)))) := by
 exact Nr
open Classical in
theorem Jxk (a b c d e f : α) (Y P E : List α) : (a :: b :: c :: d :: e :: f :: (Y ++ (P ++ E))).Perm (b :: c :: d :: e :: f :: (a :: (P ++ (Y ++ E)))) := by
 exact Nr
theorem VI {c : Cx} {d : List Deferred} {l : Ko} {K : Act → World → Prop} (hp : L.Perm L') (h : HQ c d l L' X K) : HQ c d l L X K := fun a w hf hs => h a w hf (hs.perm hp)
theorem Jen (h : N + j < 8 * s.length) (hb : Qg s (N + j) = true) : ((J4 s (8 * s.length)).drop N).any id = true :=
 List.any_eq_true.2 ⟨_, List.mem_iff_getElem?.2 ⟨j, by rw [List.getElem?_drop]; exact Vj s h⟩, by simpa using hb⟩
theorem Jpx (h : ∀ j, j < 8 * s.length - N → Qg s (N + j) = false) : ((J4 s (8 * s.length)).drop N).any id = false := by
 rw [List.any_eq_false]; intro b hb
 obtain ⟨j, hj⟩ := List.getElem?_of_mem hb
 rw [List.getElem?_drop] at hj
 have hlt := (List.getElem?_eq_some_iff.1 hj).1
 rw [Kq] at hlt; rw [Vj s hlt] at hj
 cases hj
 rw [h j m0]; simp
theorem Jpy {k n : Int} {p : Pl} {ins : List Ty} (ht : Ty.In R (.mk k n p ins)) (hc : Va (.mk k n p ins) 0 = 0) (hk3 : k = 3 ∨ k = 4 ∨ k = 7) (hl : s.length ≤ 100000) :
  PureX (α := { row : Vg // rowOk 5 (Ym k n ins s).length (XL (Ym k n ins s)) row }) Tryz.prog 147 [Ty.val (.mk k n p ins), Jw s].toArray ((QN k n ins s).2 = 0) (fun v => (QN k n ins s).2 ≠ 0 ∧ v = xg (QN k n ins s).2) (fun x => Ky (Ym k n ins s).length (QD x.1)) (fun x => JL 162 (XL (Ym k n ins s)) x.1) R :=
 (Jt4 ht hc hk3 hl).map id (fun x => (VE _ _ (fun h => by have := x.2; rw [h] at this; exact this.1)).symm) fun x => List.Sublist.refl _
theorem Jpz {k n : Int} {ins : List Ty} (hX : ∀ i, i < (JM k n ins s).1 → VQ k 0 i < ins.length) (h : (Ym k n ins s)[i]? = some q) : q.1 ∈ ins := by
 have h1 : ((Ym k n ins s).map Prod.fst)[i]? = some q.1 := by rw [List.getElem?_map, h]; rfl
 unfold Ym at h1
 rw [qN] at h1
 unfold Kg at h1
 rw [List.getElem?_map] at h1
 obtain ⟨j, hj, e⟩ := Option.map_eq_some_iff.1 h1
 have hj2 := List.mem_range.1 (List.mem_of_getElem? hj)
 rw [← e]; exact (Kw (hX j hj2)).2
theorem Jp0 {k n : Int} {ins : List Ty} (h0 : (QN k n ins s).2 = 0) (hq : q ∈ Ym k n ins s) : (JM k n ins s).2 = 0 ∧ q.2.1 ≤ q.2.2 ∧ q.2.2 ≤ s.length := by
 by_cases hm : (JM k n ins s).2 ≠ 0
 ·rw [jf hm] at h0; exact absurd h0 hm
 have hm0 := Decidable.not_not.1 hm
 refine ⟨hm0, ?_⟩
 have hb0 := Ye (Kg k ins (JM k n ins s).1)
 obtain ⟨H, hH⟩ : ∃ H : Nat, JV (Kg k ins (JM k n ins s).1) = (H : Int) := ⟨_, (Int.toNat_of_nonneg hb0).symm⟩
 by_cases hl : s.length < H
 ·rw [Ji8 hm0 rfl hH hl] at h0; cases h0
 have ho := Jbf hm0 rfl hH m0
 cases e : Qy s H (Kg k ins (JM k n ins s).1) 0 H false with
 | none => rw [e] at ho; rw [ho] at h0; cases h0
 | some os =>
  rw [e] at ho
  unfold Ym at hq
  rw [ho] at hq; exact yH m0 e m0 (fun _ => rfl) (fun x _ hx => by have := jc hx; omega) (by rw [hH]; simp) q hq
set_option maxHeartbeats 4000000 in
theorem Jy4 (ht : t.In R) : Va t 0 = 0 → ∀ s : BS, s.length ≤ 100000 → PureX (α := VR (Ku t s).1) Tryz.prog 95 [t.val, Jw s].toArray ((Ku t s).2 = 0) (fun v => (Ku t s).2 ≠ 0 ∧ v = xg (Ku t s).2) (fun y => y.x.val) (fun y => y.L) R := by
  induction ht with
  | @mk k n p ins hk hn hil hs hi ih =>
  intro hc s hl
  have ht : Ty.In R (.mk k n p ins) := .mk hk hn hil hs hi
  obtain ⟨hk8, ho, _, _⟩ := Qv hc
  have hsub := WN hc
  have hF := Jaz ht
  have hZ := Jgf ht
  unfold WR at hZ
  have hbl := Jla (k := k) (p := p) (ins := ins) hl hn
  have hT := Jpt (s := s) (n := 8 * s.length) (Nat.le_refl _) hl
  have hpl : ¬ (JA (.mk k n p ins) = true ∧ (s.length : Int) ≠ JO (.mk k n p ins)) → k = 1 ∨ k = 2 ∨ k = 5 → (s.length : Int) = if k = 1 then n else if k = 2 then 1 else (n + 7) / 8 := fun hnf h => by
    have hi0 : ins = [] := by
      unfold JG at ho
      rcases h with rfl | rfl | rfl <;> simp at ho <;> first | exact ho.1 | exact ho.1.1
    have hx : JA (.mk k n p ins) = true := by
      rw [Jgp hc, VP, hi0, Yw]
      rcases h with rfl | rfl | rfl <;> rfl
    have e : (s.length : Int) = JO (.mk k n p ins) := Decidable.byContradiction fun h2 => hnf ⟨hx, h2⟩
    rw [e, JO]
    rcases h with rfl | rfl | rfl <;> simp
  have hn1 : k = 1 → 1 ≤ n ∧ n ≤ 32 := fun e => by subst e; unfold JG at ho; simp at ho; omega
  have hn5 : k = 5 → 1 ≤ n ∧ n ≤ 512 := fun e => by subst e; unfold JG at ho; simp at ho; omega
  have h16 : k = 8 → ins.length ≤ 8 := fun e => by subst e; unfold JG at ho; simp at ho; omega
  refine XY Tryz.func95 rfl rfl fun w => Nd fun r1 r2 => ?_; refine GV ?_; refine Gn ?_; refine Jb rfl rfl rfl Joj hF oR (NC ?_)
  refine Jp 15 rfl (fun gb => ?_) (fun gb => ?_) <;> (try simp only [ZZ] at gb) <;> first | (refine QK rfl ?_) | (refine LK rfl ?_)
  all_goals refine NG ?_
  all_goals refine GY ?_
  all_goals first | (refine Jb rfl rfl rfl Jok hZ oR ?_) | refine LK rfl ?_
  all_goals refine Gv ?_
  all_goals refine KZ rfl rfl rfl jk (VS (_) 2) oN (fun hok _ => ?_) (fun v hv => by first | exact Bool.noConfusion hv.1 | exact Qs rfl rfl (WH (by rw [g_w ⟨‹JA _ = true›, fun e => absurd hv.1 (by rw [if_pos ‹JA _ = true›, e, beq_self_eq_true]; decide)⟩]) m7 hv))
  all_goals (
   refine Jz 1 rfl (Zj 3 rfl ?_)
   have hnf : ¬ (JA (.mk k n p ins) = true ∧ (s.length : Int) ≠ JO (.mk k n p ins)) := by
     rintro ⟨hA, hB⟩
     first
     | (have e := Z3.1 hok; rw [if_pos hA] at e; exact hB e)
     | (have e : JA (.mk k n p ins) = false := ‹_›; rw [e] at hA; cases hA)
   clear hok; refine Gcc 12 [1] rfl rfl (cD (fun g => ?_) fun g => ?_)
   refine GL ?_
   have hln := hpl hnf (.inl ‹k = 1›)
   rw [if_pos ‹k = 1›] at hln
   have hnn := hn1 ‹_›
   obtain ⟨a, b, c, d, hnm⟩ := j4 s
   have hnu := xh (s := s) m0
   rw [hnm] at hnu; refine Nw ?_; refine J6 rfl rfl rfl (enters_of Tryz.func144 m5 rfl) hnu (No ?_)
   refine GH fun w1 hs1 => ?_
   (have e1 := g_1 hnf (s := s) ‹k = 1›
    refine .inl ⟨by rw [e1], ⟨.mk a b c d [] none [] none 0, [], yI hnm, by rw [e1, KB, Xp, hnm]; rfl⟩, rfl, hs1.weakL (List.nil_sublist _)⟩)
   · refine Nv ?_; refine cD (fun g => ?_) fun g => ?_
     refine GL ?_
     have hln := hpl hnf (.inr (.inl ‹k = 2›))
     rw [if_neg ‹k ≠ 1›, if_pos ‹k = 2›] at hln
     obtain ⟨a, b, c, d, hnm⟩ := j4 s
     have hnu := xh (s := s) m0
     rw [hnm] at hnu; refine DH ?_; refine V7 rfl (KZ rfl rfl rfl jk (VS (_) 2) oN (fun hok _ => ?_) (fun v hv => Qs rfl rfl (WH (by rw [g_2 hnf ‹k ≠ 1› ‹k = 2›, if_pos M4]) m7 hv))); refine ND ?_; refine J6 rfl rfl rfl (enters_of Tryz.func144 m5 rfl) hnu (No ?_)
     refine GH fun w1 hs1 => ?_
     (have e1 := g_2 hnf (s := s) ‹k ≠ 1› ‹k = 2›
      rw [if_neg Mt] at e1
      refine .inl ⟨by rw [e1], ⟨.mk a b c d [] none [] none 0, [], yI hnm, by rw [e1, KB, Xp, hnm]; rfl⟩, rfl, hs1.weakL (List.nil_sublist _)⟩)
     · refine Nv ?_; refine cD (fun g => ?_) fun g => ?_
       · refine GL ?_
         have hln := hpl hnf (.inr (.inr ‹k = 5›))
         rw [if_neg ‹k ≠ 1›, if_neg ‹k ≠ 2›] at hln
         have hnn := hn5 ‹_›
         obtain ⟨N, hN⟩ : ∃ N, N = n.toNat := ⟨_, rfl⟩
         refine GW ?_; refine HK ?_; refine Jk mw (JW rfl rfl rfl (enters_of Tryz.func145 m5 rfl) hT oN fun x => ?_)
         obtain ⟨row, hrow⟩ := x
         match row, hrow with | none, hrow => ?_ | some (ra, cap, sp), hrow => ?_
         all_goals first | exact absurd hrow.1 m0 | skip
         refine JQ 5 rfl ?_
         have hcap : 8 * s.length ≤ cap := by have := hrow.2; omega
         obtain ⟨off1, hoff⟩ : ∃ o, (if cap = N then 0 else 0 + N * 1) = o := ⟨_, rfl⟩
         refine QZ 4 [2] rfl rfl (Jk mH (LR rfl (JT (kl := some N) (kh := none) (km := none) (sz := 1) (m := N) (q := 8 * s.length) (z := cap) (off' := off1) rfl rfl rfl ⟨_, rfl⟩ trivial trivial rfl rfl rfl m0 m0 (Nat.le_refl _) (fun _ => rfl) hoff) (kz ?_))); refine kR ?_; refine Jy (σ := Nat) (fun j => j ≤ 8 * s.length - N ∧ ∀ i, i < j → Qg s (N + i) = false) (fun j => [(1, Jw s), (2, QR r1), (4, QR r2), (5, .slice (some ⟨ra, 0, none⟩) (8 * s.length) cap), (49, .slice (some ⟨ra, off1, none⟩) (8 * s.length - N) (cap - N)), (50, .int .i64 ((8 * s.length - N : Nat) : Int)), (51, .int .i64 (j : Int))]) (fun _ => [(ra, .cells (KL (J4 s (8 * s.length)) ++ sp).toArray 4 (0, 0)), WE r2 v0L, Vs r1 (.mk k n p ins)]) (fun _ _ _ => True) (fun j => 8 * s.length - N - j) 0 ⟨Nat.zero_le _, fun i h => by omega⟩ (lK rfl) (List.Sublist.refl _) (fun _ _ h => h) ?_; rintro j ⟨hj1, hbits⟩; change HC _ _ _ ((ra, _) :: (r2, _) :: (r1, _) :: []) _ _ _; refine Nv ?_; refine cD (fun g => ?_) fun g => ?_
         refine gY ?_; refine LR rfl (Kc (j := j) (m := 1) (off' := N + j) rfl rfl rfl rfl m0 m0 (by rw [← hoff, if_neg m0]; omega)) (LR rfl (Je rfl (kn 0 rfl) rfl (Jbd s (i := N + j) m0 sp)) (Gc ?_)); refine KZ rfl rfl rfl jk (VS (_) 8) oN (fun hok _ => ?_) (fun v hv => Qs rfl rfl (WH (by rw [g_5 hnf ‹k ≠ 1› ‹k ≠ 2› ‹k = 5›, ← hN, if_pos (Jen m0 (Z8.mp hv.1))]) m7 hv)); refine ND ?_; refine N0 ?_; exact Jr (j + 1) ⟨by omega, fun i hi => by by_cases e : i = j; (subst e; exact Z7.mp hok); exact hbits i m0⟩ m0 (lK rfl) (List.Sublist.refl _) (fun _ _ h => h)
         · refine Nv ?_
           have hany := Jpx (s := s) (N := N) (fun i hi => hbits i m0)
           refine g7 ?_
           refine Db ?_; refine Ga ?_; refine Ho fun w1 hs1 => ?_
           (have e1 := g_5 hnf (s := s) ‹k ≠ 1› ‹k ≠ 2› ‹k = 5›
            rw [← hN, hany, if_neg m7] at e1
            refine .inl ⟨by rw [e1], ⟨.mk 0 0 0 0 (J4 s N) (some (⟨ra, 0, none⟩, cap)) [] none 0, [(ra, .cells (KL (J4 s (8 * s.length)) ++ sp).toArray 4 (0, 0))], ZE m0 m0 m0, by rw [e1, KB, Xp]; rfl⟩, congrArg Ending.returned (Ji6 s N ra cap).symm, hs1.weakL ((List.cons_sublist_cons).2 (List.nil_sublist _))⟩)
       · refine Nv ?_; refine cD (fun g => ?_) fun g => ?_
         refine QZ 4 [1] rfl rfl (KZ rfl rfl rfl (enters_of Tryz.func146 m5 rfl) hbl oN (fun hok y => ?_) (fun v hv => Qs rfl rfl (by rw [g_6 hnf ‹k ≠ 1› ‹k ≠ 2› ‹k ≠ 5› ‹k = 6›]; exact hv)))
         obtain ⟨⟨ya, yb, yc, yd, ybits, ypb, yitems, ypi, ypick⟩, yL, yok, yer⟩ := y
         refine kZ ?_
         refine GH fun w1 hs1 => ?_
         (have e1 := g_6 hnf (s := s) ‹k ≠ 1› ‹k ≠ 2› ‹k ≠ 5› ‹k = 6›
          refine .inl ⟨by rw [e1]; exact hok, ⟨.mk ya yb yc yd ybits ypb yitems ypi ypick, yL, yok, by rw [e1]; exact yer⟩, rfl, hs1.weakL (.cons _ (.cons _ (List.Sublist.refl _)))⟩)
         · refine Nv ?_; refine cD (fun g => ?_) fun g => ?_
           · refine GW ?_; refine LR rfl (ZL rfl rfl) (KZ rfl rfl rfl jk (VS (_) 2) oN (fun hok _ => ?_) (fun v hv => Qs rfl rfl (WH (by rw [Jxh hnf ‹k ≠ 1› ‹k ≠ 2› ‹k ≠ 5› ‹k ≠ 6› ‹k = 8› (of_decide_eq_true (Z8.mp hv.1))]) m7 hv))); refine NR ?_
             have hsne : s ≠ [] := of_decide_eq_false (Z7.mp hok)
             have hpos : 0 < s.length := List.length_pos_iff.2 hsne
             refine DH ?_; refine V7 rfl (Jk (show _ = Value.int .i64 (((s.getD 0 0).toNat : Nat)) from congrArg (Value.int .i64) (wrap_i64 m0 Ma)) (X6 8 [1] rfl rfl (Ni ?_))); refine V7 rfl (KZ rfl rfl rfl jk (VS (_) 9) oN (fun hok _ => ?_) (fun v hv => Qs rfl rfl (WH (by rw [Jxi hnf ‹k ≠ 1› ‹k ≠ 2› ‹k ≠ 5› ‹k ≠ 6› ‹k = 8› hsne M4]) m7 hv))); refine NR ?_
             obtain ⟨x, hx⟩ : ∃ x, ins[(s.getD 0 0).toNat]? = some x := ⟨_, List.getElem?_eq_getElem Mt⟩
             have hxm := List.mem_of_getElem? hx
             have ihx := ih x hxm (hsub x hxm) (s.drop 1) nC
             by_cases hgo : (Ku x (s.drop 1)).2 = 0 ∧ Nonempty (VR (Ku x (s.drop 1)).1)
             rotate_left
             have hlt : (s.getD 0 0).toNat < ins.length := (List.getElem?_eq_some_iff.1 hx).1
             have hbadx : ∀ {v : Value}, (Ku x (s.drop 1)).2 ≠ 0 ∧ v = xg (Ku x (s.drop 1)).2 → (Ku (.mk k n p ins) s).2 ≠ 0 ∧ v = xg (Ku (.mk k n p ins) s).2 := fun hv => by rw [g_8 hnf ‹k ≠ 1› ‹k ≠ 2› ‹k ≠ 5› ‹k ≠ 6› ‹k = 8› hsne hx, if_pos hv.1]; exact hv
             exact Jig [(0, .int .i64 ((s.getD 0 0).toNat : Int)), (1, .pointer (some ⟨r1, 2, none⟩)), (2, Ky ins.length p), (3, .int .i64 ((s.getD 0 0).toNat : Int)), (4, .pointer (some ⟨plB p, XO p + (s.getD 0 0).toNat * 3, none⟩)), (5, x.val), (6, Jw s), (7, Jw (s.drop 1))] 8 m5 rfl m5 rfl (.cons rfl rfl (Jf rfl) <| .cons rfl rfl (JR rfl rfl rfl) <| .cons rfl rfl (Je rfl (kn 1 rfl) rfl rfl) <| .cons rfl rfl (Jf rfl) <| .cons rfl rfl (Jg (j := (s.getD 0 0).toNat) rfl hs rfl rfl rfl rfl hlt) <| .cons rfl rfl (Kj oR rfl hs hx rfl rfl) <| .cons rfl rfl (Jf rfl) <| .cons rfl rfl (KV (kl := some (.i64, 1)) (kh := none) (m := 1) (n := s.length) rfl rfl rfl rfl rfl rfl m0 m0 M3) .nil) rfl rfl (yJ rfl Jod ihx (fun h y => hgo ⟨h, ⟨y⟩⟩) oR (fun v hv => Qs rfl rfl (hbadx hv)))
             obtain ⟨hg0, ⟨x0⟩⟩ := hgo
             have hlt : (s.getD 0 0).toNat < ins.length := (List.getElem?_eq_some_iff.1 hx).1
             refine JJ [Vs r1 (.mk k n p ins)] [(0, .pure), (1, .pure), (2, .pure), (3, .pure), (4, .pure), (5, .pure), (6, .pure), (7, .pure), (8, .grow (Qh x0 (fun y => y.x.val) (fun y => y.L))), (9, .turn)] 10 [0, 1, 2, 3, 4, 5, 6, 7, 8, 9] m5 m5 (fun q hq => List.mem_cons_of_mem _ hq) (Nn ?_)
             refine kH ?_; refine Ji (k := 2) rfl rfl rfl rfl rfl (fun _ hS => (Je rfl (.inl (hS _ (Kn (n := 0) rfl))) rfl rfl)) (Ji (k := 3) rfl rfl rfl rfl rfl (fun _ hS => (Jf rfl)) (Ji (k := 4) rfl rfl rfl rfl rfl (fun _ _ => Jg (j := (s.getD 0 0).toNat) rfl hs rfl rfl rfl rfl hlt) (Ji (k := 5) rfl rfl rfl rfl rfl (fun _ _ => Kj oR rfl hs hx rfl rfl) (GM ?_)))); refine Ji (k := 7) rfl rfl rfl rfl rfl (fun _ _ => KV (kl := some (.i64, 1)) (kh := none) (m := 1) (n := s.length) rfl rfl rfl rfl rfl rfl m0 m0 M3) (KI (k := 8) rfl rfl rfl rfl rfl Jod (ihx.toT (fun v hv => hv.1 hg0)) oR fun y => ?_); obtain ⟨⟨ya, yb, yc, yd, ybits, ypb, yitems, ypi, ypick⟩, yL, yok, yer⟩ := y; refine ZF (k := 9) (n := 1) (sz := 7) (vs := [_]) (zs := [_, _, _, _, _, _, _]) (r := [_, _, _, _, _, _, _]) rfl rfl rfl rfl (fun q hq => List.mem_append_right _ (List.mem_cons_of_mem _ hq)) rfl rfl rfl rfl rfl rfl rfl mn rfl fun rv => Kk (JY (List.Perm.cons _ List.perm_append_comm) (No ?_))
             refine Db ?_; refine Ga ?_; refine Ho fun w1 hs1 => ?_
             (have e1 := g_8 hnf (s := s) ‹k ≠ 1› ‹k ≠ 2› ‹k ≠ 5› ‹k ≠ 6› ‹k = 8› hsne hx
              rw [if_neg (by rw [hg0]; decide)] at e1
              refine .inl ⟨by rw [e1], ⟨.mk 0 0 0 0 [] none [.mk ya yb yc yd ybits ypb yitems ypi ypick] (some (⟨rv, 0, none⟩, 1)) ((s.getD 0 0).toNat : Int), [(rv, _)] ++ yL, XM mf ⟨Nat.le_refl _, fun _ => ⟨rfl, _, _, _, List.mem_singleton_self _, rfl⟩⟩ (fun z hz => by rw [List.mem_singleton.1 hz]; exact yok) Md, by rw [e1, KB, Xp, Xp, yer]; rfl⟩, rfl, hs1.weakL ((List.cons_sublist_cons).2 (.cons _ (.cons _ (List.Sublist.refl _))))⟩)
           · refine kS ?_; refine LN rfl fun r3 => kR ?_
             have hk3 : k = 3 ∨ k = 4 ∨ k = 7 := by have h1 : k ≠ 1 := ‹_›; have h2 : k ≠ 2 := ‹_›; have h5 : k ≠ 5 := ‹_›; have h6 : k ≠ 6 := ‹_›; have h8 : k ≠ 8 := ‹_›; omega
             have hmX := ZC (s := s) hk8 ho hk3
             have hgr := (g_r (s := s) hnf ‹k ≠ 1› ‹k ≠ 2› ‹k ≠ 5› ‹k ≠ 6› ‹k ≠ 8›).trans (Jbg hmX)
             have hpp := Jpy (s := s) ht hc hk3 hl
             refine QZ 3 [2] rfl rfl (KZ rfl rfl rfl (enters_of Tryz.func147 m5 rfl) hpp oR (fun hp0 x => ?_) (fun v hv => Qs rfl rfl (by rw [hgr, if_pos hv.1]; exact hv)))
             obtain ⟨prow, hprow⟩ := x
             refine kZ ?_
             have hsg := KY (e := 162) hprow m7
             have hmm0 : (JM k n ins s).2 = 0 := Decidable.byContradiction fun hm => hm (by rw [← jf hm]; exact hp0)
             have hPl : (Ym k n ins s).length ≤ 512 := by unfold Ym; rw [Xu, VG]; exact (jd hk8 ho hk3 hmm0).1
             refine LR rfl (Jq rfl hsg rfl) (kR ?_); rw [if_neg (by rw [hp0]; decide)] at hgr; refine Jy (σ := Nat × List Vl × Vg × Jj) (fun q => q.1 = q.2.1.length ∧ q.1 ≤ (Ym k n ins s).length ∧ rowOk 7 q.1 (KC q.2.1) q.2.2.1 ∧ (∀ x ∈ q.2.1, Vl.In q.2.2.2 x) ∧ Vt (((Ym k n ins s).take q.1).map (gq s)) = (q.2.1.map W0, 0)) (fun q => [(1, Jw s), (2, QR r1), (4, QR r2), (9, QR r3), (96, Ky (Ym k n ins s).length (QD prow)), (97, .int .i64 ((Ym k n ins s).length : Int)), (98, .int .i64 (q.1 : Int))]) (fun q => (r3, .cells #[.int .u64 0, .int .u64 0, .int .u64 0, .int .u64 0, .slice none 0 0, J3 q.1 q.2.2.1, .int .i64 0] 81 (0, 0)) :: WE r2 v0L :: Vs r1 (.mk k n p ins) :: (JL 81 (KC q.2.1) q.2.2.1 ++ (JL 162 (XL (Ym k n ins s)) prow ++ q.2.2.2))) (fun _ _ _ => True) (fun q => (Ym k n ins s).length - q.1) (0, [], none, []) ⟨rfl, Nat.zero_le _, ⟨rfl, rfl⟩, fun x hx => (nomatch hx), rfl⟩ (lK rfl) n8 (fun _ _ h => h) ?_; rintro ⟨i, vs, row, E⟩ ⟨hvl, him, hrow, hin, hrun⟩; simp only at hvl him hrow hin hrun; refine Nv ?_; refine cD (fun g => ?_) fun g => ?_
             · refine kX ?_
               obtain ⟨⟨x, f, f2⟩, hq⟩ : ∃ q, (Ym k n ins s)[i]? = some q := ⟨_, List.getElem?_eq_getElem m0⟩
               obtain ⟨hmm, hft, htl⟩ := Jp0 hp0 (List.mem_of_getElem? hq)
               have hxm := Jpz (hmX hmm) hq
               simp only at hft htl hxm
               have ihx := ih x hxm (hsub x hxm) ((s.take f2).drop f) nz
               obtain ⟨xk, xn, xp, xi⟩ := x
               refine H4 ?_
               refine LR rfl (Jg (j := i) rfl hsg rfl rfl rfl mg m0) (LR rfl (WA (vs := prC (.mk xk xn xp xi, f, f2)) (fun q hq => Or.inl (List.mem_cons_of_mem _ (List.mem_cons_of_mem _ (List.mem_cons_of_mem _ (List.mem_append_right _ (List.mem_append_left _ hq)))))) rfl hsg m0 rfl rfl (XV je hq) (je _)) (LN rfl fun r4 => ?_))
               refine Nm ?_; refine Gj ?_
               by_cases hgo : (Ku (.mk xk xn xp xi) ((s.take f2).drop f)).2 = 0 ∧ Nonempty (VR (Ku (.mk xk xn xp xi) ((s.take f2).drop f)).1)
               rotate_left
               have hbadx : ∀ {v : Value}, (Ku (.mk xk xn xp xi) ((s.take f2).drop f)).2 ≠ 0 ∧ v = xg (Ku (.mk xk xn xp xi) ((s.take f2).drop f)).2 → (Ku (.mk k n p ins) s).2 ≠ 0 ∧ v = xg (Ku (.mk k n p ins) s).2 := fun hv => by
                 have e1 : (Ym k n ins s).map (gq s) = ((Ym k n ins s).take i).map (gq s) ++ gq s (.mk xk xn xp xi, f, f2) :: ((Ym k n ins s).drop (i + 1)).map (gq s) := by
                   rw [← List.map_cons, ← KF hq, ← List.map_append, List.take_append_drop]
                 have e2 := qk (r := ((Ym k n ins s).drop (i + 1)).map (gq s)) (f := Ku (.mk xk xn xp xi)) (s := (s.take f2).drop f) hrun hv.1
                 have e3 : (Vt ((Ym k n ins s).map (gq s))).2 = (Ku (.mk xk xn xp xi) ((s.take f2).drop f)).2 := by rw [e1]; exact e2
                 rw [hgr, if_pos (by rw [e3]; exact hv.1)]; exact ⟨by rw [e3]; exact hv.1, by rw [e3]; exact hv.2⟩
               exact Jig [(0, .pointer (some ⟨r3, 5, none⟩)), (1, J3 i row), (2, .pointer (some ⟨r4, 0, none⟩)), (3, Ty.val (.mk xk xn xp xi)), (4, Jw s), (5, .pointer (some ⟨r4, 3, none⟩)), (6, .int .i64 (f : Int)), (7, .pointer (some ⟨r4, 4, none⟩)), (8, .int .i64 (f2 : Int)), (9, Jw ((s.take f2).drop f))] 10 m5 rfl m5 rfl (.cons rfl rfl (JR rfl rfl rfl) <| .cons rfl rfl (Je rfl (kn 1 rfl) rfl rfl) <| .cons rfl rfl (JR rfl rfl rfl) <| .cons rfl rfl (Jo (vs := [_, _, _]) rfl (kn 0 rfl) rfl rfl rfl rfl) <| .cons rfl rfl (Jf rfl) <| .cons rfl rfl (JR rfl rfl rfl) <| .cons rfl rfl (Je rfl (kn 0 rfl) rfl rfl) <| .cons rfl rfl (JR rfl rfl rfl) <| .cons rfl rfl (Je rfl (kn 0 rfl) rfl rfl) <| .cons rfl rfl (KV (kl := some (.i64, (f : Int))) (kh := some (.i64, (f2 : Int))) (m := f) (n := f2) rfl rfl rfl rfl rfl rfl hft htl rfl) .nil) rfl rfl (yJ rfl Jod ihx (fun h y => hgo ⟨h, ⟨y⟩⟩) oR (fun v hv => Qs rfl rfl (hbadx hv)))
               obtain ⟨hg0, ⟨x0⟩⟩ := hgo
               refine JJ [(r3, .cells #[.int .u64 0, .int .u64 0, .int .u64 0, .int .u64 0, .slice none 0 0, J3 i row, .int .i64 0] 81 (0, 0)), (r4, .cells (prC (.mk xk xn xp xi, f, f2)).toArray 162 (0, 0))] [(0, .pure), (1, .pure), (2, .pure), (3, .pure), (4, .pure), (5, .pure), (6, .pure), (7, .pure), (8, .pure), (9, .pure), (10, .grow (Qh x0 (fun y => y.x.val) (fun y => y.L))), (11, .turn)] 12 [0, 1, 2, 3, 4, 5, 6, 7, 8, 9, 10, 11] m5 m5 (fun q hq => by rcases List.mem_cons.1 hq with rfl | hq; exact List.mem_cons_of_mem _ List.mem_cons_self; rw [List.mem_singleton.1 hq]; exact List.mem_cons_self) ?_
               refine N6 ?_
               refine NX ?_; refine Ji (k := 3) rfl rfl rfl rfl rfl (fun _ hS => (Jo (vs := [_, _, _]) rfl (.inl (hS _ (Kn (n := 1) rfl))) rfl rfl rfl rfl)) (Dr ?_)
               refine kw ?_
               refine Dl ?_; refine Ji (k := 9) rfl rfl rfl rfl rfl (fun _ _ => KV (kl := some (.i64, (f : Int))) (kh := some (.i64, (f2 : Int))) (m := f) (n := f2) rfl rfl rfl rfl rfl rfl hft htl rfl) (KI (k := 10) rfl rfl rfl rfl rfl Jod (ihx.toT (fun v hv => hv.1 hg0)) oR fun y => ?_); obtain ⟨⟨ya, yb, yc, yd, ybits, ypb, yitems, ypi, ypick⟩, yL, yok, yer⟩ := y
               refine ZF (k := 11) (n := 1) (sz := 7) (vs := [_]) (zs := [_, _, _, _, _, _, _]) (r := [_, _, _, _, _, _, _]) rfl rfl rfl rfl (fun q hq => List.mem_append_right _ (by rcases List.mem_cons.1 hq with rfl | hq; exact List.mem_cons_of_mem _ List.mem_cons_self; rw [List.mem_singleton.1 hq]; exact List.mem_cons_self)) rfl rfl rfl rfl rfl rfl rfl mn rfl fun rv => ?_; refine Kk ?_; refine JY (Jxj ..) ?_; refine JF (L0 := _ :: _ :: _ :: _ :: _ :: (yL ++ (JL 162 (XL (Ym k n ins s)) prow ++ E))) (xs := KC vs) (row := row) (n := i) (sz := 7) (b := 88) (news := [_, _, _, _, _, _, _]) (List.Perm.refl _) rfl rfl rfl rfl (kn 0 rfl) rfl rfl rfl rfl rfl m7 rfl rfl rfl m7 hrow m0 m0 fun ra cap sp hra => ?_
               refine LS 1 [] rfl rfl (Kt (k := 3) (cs' := #[.int .u64 0, .int .u64 0, .int .u64 0, .int .u64 0, .slice none 0 0, J3 (i + 1) (some (ra, cap, sp)), .int .i64 0]) rfl rfl rfl rfl rfl rfl rfl rfl rfl rfl (ND ?_)); refine Nf ?_
               have hsn : ((Ym k n ins s).take (i + 1)).map (gq s) = ((Ym k n ins s).take i).map (gq s) ++ [gq s (.mk xk xn xp xi, f, f2)] := by rw [Ke hq, List.map_append]; rfl
               have hgy : Ku (.mk xk xn xp xi) ((s.take f2).drop f) = (W0 (.mk ya yb yc yd ybits ypb yitems ypi ypick), 0) := Prod.ext yer.symm hg0
               have hvc : KC vs ++ Vl.cells (.mk ya yb yc yd ybits ypb yitems ypi ypick) = KC (vs ++ [.mk ya yb yc yd ybits ypb yitems ypi ypick]) := by unfold KC; rw [List.flatMap_append]; simp
               refine VI (Jxk ..) ?_
               exact Jr (i + 1, vs ++ [.mk ya yb yc yd ybits ypb yitems ypi ypick], some (ra, cap, sp), yL ++ E) ⟨by simp only [List.length_append, List.length_singleton]; omega, by simp only; omega, by simp only; rw [← hvc]; exact hra, fun z hz => by rcases List.mem_append.1 hz with hz | hz; exact (hin z hz).mono (fun q hq => List.mem_append_right _ hq); rw [List.mem_singleton.1 hz]; exact yok.mono (fun q hq => List.mem_append_left _ hq), by simp only; rw [hsn, List.map_append]; exact jg hrun hgy⟩ ml (lK rfl) mK (fun _ _ h => h)
             · refine Nv ?_
               have honeV : ([.int .u64 0, .int .u64 0, .int .u64 0, .int .u64 0, .slice none 0 0, J3 i row, .int .i64 0] : List Value).all QW = true := by cases row <;> rfl
               refine Na fun w1 hs1 => ?_
               (have e1 := hgr
                have hiM : i = (Ym k n ins s).length := by omega
                rw [hiM, List.take_length] at hrun; rw [hrun, if_neg mf] at e1; rw [hiM] at hvl hrow; rw [hvl] at hrow
                have hvr : J3 i row = Ky vs.length (QD row) := by rw [hiM, hvl]; exact (VE _ _ (fun h => by rw [h] at hrow; exact hrow.1)).symm
                refine .inl ⟨by rw [e1], ⟨.mk 0 0 0 0 [] none vs (QD row) 0, JL 81 (KC vs) row ++ E, XM m0 (KY hrow m7) hin i0, by rw [e1, KB, VK]; rfl⟩, congrArg (fun z => Ending.returned (Value.agg #[.int .u64 0, .int .u64 0, .int .u64 0, .int .u64 0, .slice none 0 0, z, .int .i64 0])) hvr, hs1.weakL (.cons _ (.cons _ (.cons _ ((List.Sublist.refl _).append (List.sublist_append_right _ _)))))⟩)
   skip)
mutual
def Xw : Ty → Ty
 | .mk k n _ ins => .mk k n none (VT ins)
def VT : List Ty → List Ty
 | [] => []
 | x :: xs => Xw x :: VT xs
end
theorem yK : ∀ l : List Ty, VT l = l.map Xw
 | [] => by rw [VT]; rfl
 | x :: xs => by rw [VT, yK xs]; rfl
theorem ZG (l : List Ty) : (VT l).length = l.length := by rw [yK, List.length_map]
structure TR (t : Ty) : Type where
  x : Ty
  L : Jj
  ok : x.In L
  er : Xw x = t
def byT : Ty := .mk 1 1 none []
def WY (k n : Int) : Ty := .mk k n none [byT]
def qR : Ty := .mk 7 0 none [WY 3 32, WY 3 32]
def acT : Ty := .mk 7 0 none [WY 3 20, .mk 1 8 none [], .mk 1 32 none [], WY 4 512, .mk 4 16 none [qR]]
def Qo : Ty := .mk 4 32 none [acT]
theorem Jp1 {k n : Int} (hk : Yo k) (hn : Yo n) : PureT (α := Nat) Tryz.prog 78 [.int .i64 k, .int .i64 n].toArray (fun r => .agg #[.int .i64 k, .int .i64 n, .slice (some ⟨r, 0, none⟩) 1 1]) [] (fun r => [(r, .cells #[.int .i64 1, .int .i64 1, .slice none 0 0] 76 (0, 0))]) [] := by
 refine J2 Tryz.func78 rfl rfl fun w => MX fun r1 => ?_; refine Gc ?_; exact NM
theorem wg {k n : Int} (hk : Yo k) (hn : Yo n) : PureT (α := Nat) Tryz.prog 83 [.int .i64 k, .int .i64 n].toArray (fun r => .agg #[.int .i64 k, .int .i64 n, .slice (some ⟨r, 0, none⟩) 1 1]) [] (fun r => [(r, .cells #[.int .i64 1, .int .i64 1, .slice none 0 0] 76 (0, 0))]) [] := by
 refine J2 Tryz.func83 rfl rfl fun w => MX fun r1 => ?_; refine Gc ?_; exact NM
abbrev Jlb (e : Nat) : Obj := .cells #[.int .i64 1, .int .i64 1, .slice none 0 0] e (0, 0)
def Jlc (k n : Int) (x : Nat) : Ty := .mk k n (some (⟨x, 0, none⟩, 1)) [byT]
def Jy5 (x y r : Nat) : Ty := .mk 7 0 (some (⟨r, 0, none⟩, 2)) [Jlc 3 32 x, Jlc 3 32 y]
def acX (x y x2 x3 r s a : Nat) : Ty := .mk 7 0 (some (⟨a, 0, none⟩, 5)) [Jlc 3 20 x2, .mk 1 8 none [], .mk 1 32 none [], Jlc 4 512 x3, .mk 4 16 (some (⟨s, 0, none⟩, 1)) [Jy5 x y r]]
def Jld (x y x2 x3 r s a z : Nat) : Ty := .mk 4 32 (some (⟨z, 0, none⟩, 1)) [acX x y x2 x3 r s a]
theorem Jeo {k n : Int} {ins : List Ty} {all : Array Value} (hk : Yo k) (hn : Yo n) (hm : (r, Obj.cells all e (0, 0)) ∈ R) (ha : all.toList = zf ins) (hl : ins.length = m) (hl2 : m ≤ 100) (hi : ∀ x ∈ ins, x.In R) : Ty.In R (.mk k n (some (⟨r, 0, none⟩, m)) ins) :=
 .mk hk hn m0 ⟨Nat.le_of_eq hl, fun _ => ⟨rfl, all, e, (0, 0), hm, by rw [List.drop_zero, ha, List.take_length]⟩⟩ hi
theorem Jbh {k n : Int} (hk : Yo k) (hn : Yo n) : Ty.In R (.mk k n none []) := .mk hk hn m7 rfl (fun x hx => nomatch hx)
theorem wh {k n : Int} {x : Nat} (hk : Yo k) (hn : Yo n) (h : (x, Jlb e) ∈ R) : (Jlc k n x).In R :=
 Jeo hk hn h rfl rfl m7 fun y hy => by rw [List.mem_singleton.1 hy]; exact Jbh mI mI
theorem Y6 {n : Int} (h0 : 0 ≤ n) (h : n ≤ 1000) : Yo n := by unfold Yo; omega
theorem Jbi  {x y x2 x3 s a z : Nat} (h1 : (x, Jlb e) ∈ R) (h2 : (y, Jlb e) ∈ R) (h3 : (x2, Jlb e) ∈ R) (h4 : (x3, Jlb e) ∈ R) (h5 : (r, Obj.cells #[.int .i64 3, .int .i64 32, .slice (some ⟨x, 0, none⟩) 1 1, .int .i64 3, .int .i64 32, .slice (some ⟨y, 0, none⟩) 1 1] e (0, 0)) ∈ R)
  (h6 : (s, Obj.cells #[.int .i64 7, .int .i64 0, .slice (some ⟨r, 0, none⟩) 2 2] e (0, 0)) ∈ R)
  (h7 : (a, Obj.cells #[.int .i64 3, .int .i64 20, .slice (some ⟨x2, 0, none⟩) 1 1, .int .i64 1, .int .i64 8, .slice none 0 0, .int .i64 1, .int .i64 32, .slice none 0 0, .int .i64 4, .int .i64 512, .slice (some ⟨x3, 0, none⟩) 1 1, .int .i64 4, .int .i64 16, .slice (some ⟨s, 0, none⟩) 1 1] e (0, 0)) ∈ R)
  (h8 : (z, Obj.cells #[.int .i64 7, .int .i64 0, .slice (some ⟨a, 0, none⟩) 5 5] e (0, 0)) ∈ R) : (Jld x y x2 x3 r s a z).In R := by
 refine Jeo (Y6 m7 m7) (Y6 m7 m7) h8 rfl rfl m7 fun q hq => ?_; rw [List.mem_singleton.1 hq]; refine Jeo (Y6 m7 m7) (Y6 m7 m7) h7 rfl rfl m7 fun q hq => ?_; simp only [List.mem_cons, List.not_mem_nil, or_false] at hq
 rcases hq with rfl | rfl | rfl | rfl | rfl
 ·exact wh (Y6 m7 m7) (Y6 m7 m7) h3
 ·exact Jbh (Y6 m7 m7) (Y6 m7 m7)
 ·exact Jbh (Y6 m7 m7) (Y6 m7 m7)
 ·exact wh (Y6 m7 m7) (Y6 m7 m7) h4
 ·refine Jeo (Y6 m7 m7) (Y6 m7 m7) h6 rfl rfl m7 fun q hq => ?_
  rw [List.mem_singleton.1 hq]; refine Jeo (Y6 m7 m7) (Y6 m7 m7) h5 rfl rfl m7 fun q hq => ?_; simp only [List.mem_cons, List.not_mem_nil, or_false] at hq
  rcases hq with rfl | rfl
  ·exact wh (Y6 m7 m7) (Y6 m7 m7) h1
  ·exact wh (Y6 m7 m7) (Y6 m7 m7) h2
theorem Jbj (x y x2 x3 r s a z : Nat) : Xw (Jld x y x2 x3 r s a z) = Qo := by
 simp only [Jld, acX, Jy5, Jlc, byT, Xw, VT, Qo, acT, qR, WY]
theorem Jbk : PureT (α := TR Qo) Tryz.prog 53 #[] (fun y => y.x.val) [] (fun y => y.L) [] := by
 refine J2 Tryz.func53 rfl rfl fun w => MX fun r1 => ?_; refine GV ?_; refine JW rfl rfl rfl Jw0 (Jp1 mI mI) oN fun x1 => LN rfl fun r2 => ?_
 refine Nm ?_; refine X6 6 [0, 0] rfl rfl (J7 (vs := [_, _]) (zs := [_, _, _, _, _, _]) (r := [_, _, _, _, _, _]) rfl rfl rfl rfl rfl rfl rfl rfl rfl mn rfl fun r3 => Hl ?_); refine LN rfl fun r4 => ?_
 refine Nm ?_; refine NR ?_
 refine JJ [(r4, .cells #[.int .i64 7, .int .i64 0, .slice (some ⟨r3, 0, none⟩) 2 2] 76 (0, 0))] [(0, .grow (Qh 0 (fun r => .agg #[.int .i64 3, .int .i64 20, .slice (some ⟨r, 0, none⟩) 1 1]) (fun r => [(r, .cells #[.int .i64 1, .int .i64 1, .slice none 0 0] 76 (0, 0))]))), (1, .pure), (2, .pure), (3, .grow (Qh 0 (fun r => .agg #[.int .i64 4, .int .i64 512, .slice (some ⟨r, 0, none⟩) 1 1]) (fun r => [(r, .cells #[.int .i64 1, .int .i64 1, .slice none 0 0] 76 (0, 0))]))), (4, .pure), (5, .grow (V1 (slV 1) (.cells #[.int .i64 7, .int .i64 0, .slice (some ⟨r3, 0, none⟩) 2 2] 76 (0, 0)))), (6, .pure), (7, .dep [9, 10, 11, 12, 15] (zx 5 76)), (8, .pure), (9, .grow (V1 vv (.cells #[.int .i64 0, .int .i64 0, .slice none 0 0] 76 (0, 0))))] 10 [1, 2, 4, 5, 6, 0, 3, 7, 8, 9] m5 m5 m6 (kM ?_); refine Vb (k := 5) (n := 1) (sz := 3) (vs := [_]) (zs := [_, _, _]) (r := [.int .i64 7, .int .i64 0, .slice (some ⟨r3, 0, none⟩) 2 2]) rfl rfl rfl rfl rfl rfl rfl rfl rfl rfl rfl mn rfl fun s1 => Ji (k := 6) rfl rfl rfl rfl rfl (fun _ hS => (Js (r := [_, _, _]) rfl rfl)) (KI (k := 0) rfl rfl rfl rfl rfl Jw0 (Jp1 mI mI) oN fun x2 => KI (k := 3) rfl rfl rfl rfl rfl Jw0 (Jp1 mI mI) oN fun x3 => Vh (k := 7) (dv := [_, _, _, _, _]) (n := 5) (sz := 3) (vs := [_, _, _, _, _]) (zs := [_, _, _, _, _, _, _, _, _, _, _, _, _, _, _]) (r := [.int .i64 3, .int .i64 20, .slice (some ⟨x2, 0, none⟩) 1 1, .int .i64 1, .int .i64 8, .slice none 0 0, .int .i64 1, .int .i64 32, .slice none 0 0, .int .i64 4, .int .i64 512, .slice (some ⟨x3, 0, none⟩) 1 1, .int .i64 4, .int .i64 16, .slice (some ⟨s1, 0, none⟩) 1 1]) rfl rfl rfl rfl rfl rfl rfl rfl rfl rfl rfl rfl rfl mn rfl fun s2 => Ji (k := 8) rfl rfl rfl rfl rfl (fun _ hS => (Js (r := [_, _, _]) rfl rfl)) (Wt (k := 9) (cs := #[_, _, _]) rfl rfl rfl rfl rfl rfl fun r5 => Kk ?_))
 refine Nm ?_; refine GV ?_; refine N2 ?_; refine J7 (vs := [_]) (zs := [_, _, _]) (r := [_, _, _]) rfl rfl rfl rfl rfl rfl rfl rfl rfl mn rfl fun r6 => Hl ?_
 refine LT 10 rfl rfl (HX ?_); refine Jd rfl rfl (.cons (Jl (vs := [_, _, _]) rfl (kn 10 rfl) rfl rfl) .nil) (fun w1 hs1 => ?_); exact ⟨⟨Jld x1 x1 x2 x3 r3 s1 s2 r6, _, Jbi (e := 76) mf mf mf mf mf mf mf mf, Jbj ..⟩, rfl, hs1⟩
theorem Jp2 : PureT (α := TR Qo) Tryz.prog 56 #[] (fun y => y.x.val) [] (fun y => y.L) [] := by
 refine J2 Tryz.func56 rfl rfl fun w => MX fun r1 => ?_; refine GV ?_; refine JW rfl rfl rfl Js3 (wg mI mI) oN fun x1 => JW rfl rfl rfl Js3 (wg mI mI) oN fun x4 => J7 (vs := [_, _]) (zs := [_, _, _, _, _, _]) (r := [_, _, _, _, _, _]) rfl rfl rfl rfl rfl rfl rfl rfl rfl mn rfl fun r2 => Hl ?_; refine HT fun r3 => ?_; refine GV ?_; refine N2 ?_; refine J7 (vs := [_]) (zs := [_, _, _]) (r := [_, _, _]) rfl rfl rfl rfl rfl rfl rfl rfl rfl mn rfl fun r4 => Hl ?_; refine LN rfl fun r5 => ?_
 refine Nm ?_; refine NR ?_
 refine JJ [(r5, .cells #[.int .i64 4, .int .i64 16, .slice (some ⟨r4, 0, none⟩) 1 1] 76 (0, 0))] [(0, .grow (Qh 0 (fun r => .agg #[.int .i64 3, .int .i64 20, .slice (some ⟨r, 0, none⟩) 1 1]) (fun r => [(r, .cells #[.int .i64 1, .int .i64 1, .slice none 0 0] 76 (0, 0))]))), (1, .pure), (2, .pure), (3, .grow (Qh 0 (fun r => .agg #[.int .i64 4, .int .i64 512, .slice (some ⟨r, 0, none⟩) 1 1]) (fun r => [(r, .cells #[.int .i64 1, .int .i64 1, .slice none 0 0] 76 (0, 0))]))), (4, .pure), (5, .dep [11, 12, 13, 14, 15] (zx 5 76)), (6, .pure), (7, .grow (V1 vv (.cells #[.int .i64 0, .int .i64 0, .slice none 0 0] 76 (0, 0))))] 8 [1, 2, 4, 0, 3, 5, 6, 7] m5 m5 m6 (kM ?_); refine KI (k := 0) rfl rfl rfl rfl rfl Js3 (wg mI mI) oN fun x2 => KI (k := 3) rfl rfl rfl rfl rfl Js3 (wg mI mI) oN fun x3 => Vh (k := 5) (dv := [_, _, _, _, _]) (n := 5) (sz := 3) (vs := [_, _, _, _, _]) (zs := [_, _, _, _, _, _, _, _, _, _, _, _, _, _, _]) (r := [.int .i64 3, .int .i64 20, .slice (some ⟨x2, 0, none⟩) 1 1, .int .i64 1, .int .i64 8, .slice none 0 0, .int .i64 1, .int .i64 32, .slice none 0 0, .int .i64 4, .int .i64 512, .slice (some ⟨x3, 0, none⟩) 1 1, .int .i64 4, .int .i64 16, .slice (some ⟨r4, 0, none⟩) 1 1]) rfl rfl rfl rfl rfl rfl rfl rfl rfl rfl rfl rfl rfl mn rfl fun s2 => Ji (k := 6) rfl rfl rfl rfl rfl (fun _ hS => (Js (r := [_, _, _]) rfl rfl)) (Wt (k := 7) (cs := #[_, _, _]) rfl rfl rfl rfl rfl rfl fun r6 => Kk ?_)
 refine Nm ?_; refine GV ?_; refine N2 ?_; refine J7 (vs := [_]) (zs := [_, _, _]) (r := [_, _, _]) rfl rfl rfl rfl rfl rfl rfl rfl rfl mn rfl fun r7 => Hl ?_
 refine LT 11 rfl rfl (HX ?_); refine Jd rfl rfl (.cons (Jl (vs := [_, _, _]) rfl (kn 11 rfl) rfl rfl) .nil) (fun w1 hs1 => ?_); exact ⟨⟨Jld x1 x4 x2 x3 r2 r4 s2 r7, _, Jbi (e := 76) mf mf mf mf mf mf mf mf, Jbj ..⟩, rfl, hs1⟩
def qm (b : UInt8) : Vl := .mk b.toNat 0 0 0 [] none [] none 0
def yM (s : BS) : Vl := KP (s.map qm) 0
theorem Jy6 (b : UInt8) : (qm b).cells = [uV b.toNat, uV 0, uV 0, uV 0, .slice none 0 0, .slice none 0 0, .int .i64 0] := rfl
theorem Jvu (b : UInt8) : Vl.In [] (qm b) := .mk (by have := QC b; unfold YK; omega) u0 u0 u0 m7 rfl m7 rfl i0 (fun x hx => nomatch hx)
theorem Jvv (s : BS) (p : Pl) : W0 (.mk 0 0 0 0 [] none (s.map qm) p 0) = yM s := by
 rw [KB, VK, List.map_map, show (W0 ∘ qm) = qm from funext fun b => by show W0 (qm b) = qm b; unfold qm; rw [KB, Xp]]; rfl
theorem Jt7 (h : i < s.length) : KC ((s.take i).map qm) ++ [uV (s.getD i 0).toNat, uV 0, uV 0, uV 0, .slice none 0 0, .slice none 0 0, .int .i64 0] = KC ((s.take (i + 1)).map qm) := by
 have h1 : s[i]? = some (s.getD i 0) := by rw [List.getD_eq_getElem?_getD, List.getElem?_eq_getElem h]; rfl
 rw [Ke h1, List.map_append]
 unfold KC
 rw [List.flatMap_append]; simp [Jy6]
theorem Jbl (hl : s.length ≤ 100000) : PureT (α := VR (yM s)) Tryz.prog 79 [Jw s].toArray (fun y => y.x.val) [] (fun y => y.L) [] := by
 refine J2 Tryz.func79 rfl rfl fun w => MX fun r1 => ?_; refine GV ?_; refine LN rfl fun r2 => Gc ?_; refine Nx ?_; refine kR ?_; refine Jy (σ := Nat × Vg) (fun q => q.1 ≤ s.length ∧ rowOk 7 q.1 (KC ((s.take q.1).map qm)) q.2) (fun q => [(0, Jw s), (2, QR r1), (3, QR r2), (6, .int .i64 (s.length : Int)), (7, .int .i64 (q.1 : Int))]) (fun q => (r2, .cells #[.int .u64 0, .int .u64 0, .int .u64 0, .int .u64 0, .slice none 0 0, J3 q.1 q.2, .int .i64 0] 81 (0, 0)) :: (r1, .cells #[.int .u64 0, .int .u64 0, .int .u64 0, .int .u64 0, .slice none 0 0, .slice none 0 0, .int .i64 0] 81 (0, 0)) :: JL 81 (KC ((s.take q.1).map qm)) q.2) (fun _ _ _ => True) (fun q => s.length - q.1) (0, none) ⟨Nat.zero_le _, rfl, rfl⟩ (lK rfl) (List.Sublist.refl _) (fun _ _ h => h) ?_; rintro ⟨i, row⟩ ⟨hi1, hrow⟩; simp only at hi1 hrow; change HC _ _ [(0, Jw s), (2, QR r1), (3, QR r2), (6, .int .i64 (s.length : Int)), (7, .int .i64 (i : Int))] ((r2, .cells #[.int .u64 0, .int .u64 0, .int .u64 0, .int .u64 0, .slice none 0 0, J3 i row, .int .i64 0] 81 (0, 0)) :: (r1, .cells #[.int .u64 0, .int .u64 0, .int .u64 0, .int .u64 0, .slice none 0 0, .slice none 0 0, .int .i64 0] 81 (0, 0)) :: JL 81 (KC ((s.take i).map qm)) row) _ _ _; refine Nv ?_; refine cD (fun g => ?_) fun g => ?_
 ·refine JE 10 rfl ?_
  refine JJ [(r2, .cells #[.int .u64 0, .int .u64 0, .int .u64 0, .int .u64 0, .slice none 0 0, J3 i row, .int .i64 0] 81 (0, 0))] [(0, .pure), (1, .pure), (2, .pure), (3, .pure), (4, .pure), (5, .pure), (6, .pure), (7, .pure), (8, .grow (V1 (slV 1) (.cells #[uV (s.getD i 0).toNat, uV 0, uV 0, uV 0, .slice none 0 0, .slice none 0 0, .int .i64 0] 81 (0, 0))))] 9 [0, 1, 2, 3, 4, 5, 6, 7, 8] m5 m5 m6 ?_
  refine N6 ?_; refine gW ?_; refine Ji (k := 3) rfl rfl rfl rfl rfl (fun _ hS => (Jf rfl)) (Ji (k := 4) rfl rfl rfl rfl rfl (fun _ _ => KU (j := i) rfl rfl rfl rfl m0 rfl) (Ji (k := 5) rfl rfl rfl rfl rfl (fun _ _ => (J1 rfl rfl rfl)) (VL n6 (Ws (k := 6) rfl rfl rfl rfl rfl Joc (Y0 _) (Ji (k := 7) rfl rfl rfl rfl rfl (fun _ hS => (Js (r := [_, _, _, _, _, _, _]) rfl rfl)) (Vb (k := 8) (n := 1) (sz := 7) (vs := [_]) (zs := [_, _, _, _, _, _, _]) (r := [uV (s.getD i 0).toNat, uV 0, uV 0, uV 0, .slice none 0 0, .slice none 0 0, .int .i64 0]) rfl rfl rfl rfl rfl rfl rfl rfl rfl rfl rfl mn rfl fun rb => Kk (JF (L0 := [_, _, _]) (xs := KC ((s.take i).map qm)) (row := row) (n := i) (sz := 7) (b := 88) (news := [_, _, _, _, _, _, _]) (List.perm_append_comm (l₁ := [_, _, _])) rfl rfl rfl rfl (kn 0 rfl) rfl rfl rfl rfl rfl m7 rfl rfl rfl m7 hrow m0 m0 fun ra cap sp hra => ?_)))))))
  refine LS 1 [] rfl rfl (Kt (k := 2) (cs' := #[.int .u64 0, .int .u64 0, .int .u64 0, .int .u64 0, .slice none 0 0, J3 (i + 1) (some (ra, cap, sp)), .int .i64 0]) rfl rfl rfl rfl rfl rfl rfl rfl rfl rfl (ND ?_)); refine Nf ?_; rw [Jt7 m0] at hra ⊢; refine QG [2, 3, 0] (L' := [_, _, _]) m7 rfl ?_; exact H8
 ·refine Nv ?_
  have honeV : ([.int .u64 0, .int .u64 0, .int .u64 0, .int .u64 0, .slice none 0 0, J3 i row, .int .i64 0] : List Value).all QW = true := by cases row <;> rfl
  refine Na fun w1 hs1 => ?_
  have hiM : i = s.length := by omega
  rw [hiM, List.take_length] at hrow hs1
  have hrow2 : rowOk 7 (s.map qm).length (KC (s.map qm)) row := by rw [List.length_map]; exact hrow
  have hvr : J3 i row = Ky (s.map qm).length (QD row) := by rw [hiM, List.length_map]; exact (VE _ _ (fun h => by rw [h] at hrow; exact hrow.1)).symm
  exact ⟨⟨.mk 0 0 0 0 [] none (s.map qm) (QD row) 0, JL 81 (KC (s.map qm)) row ++ [], XM (by rw [List.length_map]; omega) (KY hrow2 m7) (fun x hx => by obtain ⟨b, _, rfl⟩ := List.mem_map.1 hx; exact Jvu b) i0, Jvv s _⟩, congrArg (fun z => Ending.returned (Value.agg #[.int .u64 0, .int .u64 0, .int .u64 0, .int .u64 0, .slice none 0 0, z, .int .i64 0])) hvr, hs1.weakL (.cons _ (.cons _ (by simp only [List.append_nil]; exact List.Sublist.refl _)))⟩
section
variable {c : Cx} {l : Ko} {L : Jj} {X : XP} {Q : Exit → Act → List Frame → World → Prop} {d : List Deferred} {cs : List Frame}
variable {ops : Array Oper} {rest : List Nat} {k : Nat} {o : Oper}
theorem wi (h : HS c d l L X ops rest cs Q) : HQ c d l L X ((fun e a w => e = Exit.normal ∧ wpOpsSIn (FW none) 0 c.P ops Q rest a cs w) .normal) := fun a w hf hs => ⟨rfl, h a w hf hs⟩
theorem Jbm (ho : W1 ops.toList k = some o) (hp : ∀ (ρ : Operand → Value) w x w', (execOp ρ o).run c.P w = .ok x w' → (∃ v, x = .value v) ∨ x = .skip) (hn : Kx o.op = true) (hro : c.ro = none) (h : HL c d l L X ops [o] (fun e a w => e = Exit.normal ∧ wpOpsSIn (FW none) 0 c.P ops Q rest a cs w)) : HS c d l L X ops (k :: rest) cs Q := fun a w hf hs => by
 have hk : ops[k]? = some o := by rw [← QO ho]
 have h1 := h a w hf hs
 unfold wpListIn at h1
 simp only [wpOpsSIn, hk]; refine ⟨Qa, ?_⟩
 by_cases hw : Region.wanted o (yielded ops a.tmps) = true
 ·rw [if_pos hw] at h1 ⊢
  obtain ⟨_, h2⟩ := h1
  rw [Oper.semAt_eq _ _ _ (W6 hn)] at h2
  cases e : (execOp a.eval o).run c.P w with
  | ok x w' =>
   rw [e] at h2
   rcases hp a.eval w x w' e with ⟨v, rfl⟩ | rfl
   ·exact h2.2
   ·exact h2.2
  | halt x w' =>
   rw [e] at h2
   cases x with
   | panic v => exact absurd h2.1 mf
   | _ => exact h2.elim
 ·rw [if_neg hw] at h1 ⊢
  exact h1.2.2
theorem vq  {t : TypeId} (ρ : Operand → Value) (w : World) (x : Next) (w' : World) (h : (execOp ρ ⟨dst, .alloc t, ty, ps, af, gd⟩).run P w = .ok x w') : (∃ v, x = .value v) ∨ x = .skip := by
 simp only [execOp, Sem.run_bind] at h
 cases e : (Instr.alloc t true (.tuple #[])).run P w with
 | ok v w2 => rw [e] at h; simp [Result.andThen] at h; exact .inl ⟨v, h.1.symm⟩
 | halt v w2 => rw [e] at h; simp [Result.andThen] at h
theorem vr  {t : TypeId} {a b : Operand} (ρ : Operand → Value) (w : World) (x : Next) (w' : World) (h : (execOp ρ ⟨dst, .store t a b, ty, ps, af, gd⟩).run P w = .ok x w') : (∃ v, x = .value v) ∨ x = .skip := by
 simp only [execOp, Sem.run_bind] at h
 cases e : (Instr.storeAt t (ρ a) (ρ b)).run P w with
 | ok v w2 => rw [e] at h; simp [Result.andThen] at h; exact .inr h.1.symm
 | halt v w2 => rw [e] at h; simp [Result.andThen] at h
end
def gT (rv re : Nat) (V : Array Value) (e : Int) : Jj := [(rv, .cells V 81 (0, 0)), (re, .cells #[.int .i64 e] 27 (0, 0))]
abbrev VZ0 : Array Value := #[.int .u64 0, .int .u64 0, .int .u64 0, .int .u64 0, .slice none 0 0, .slice none 0 0, .int .i64 0]
theorem Jy7 (rv re : Nat) (hne : rv ≠ re) (V : Array Value) (hV : V.size = 7) (e0 : Int) (w : World) (hT : vI (gT rv re V e0) w) : CallsDIn (FW none) 0 Tryz.prog 92 [QR rv, QR re].toArray .returning w (fun e u' w' => (∃ x, e = .returned x) ∧ settle u' = .returning ∧ Keep [rv, re] w w' ∧ vI (gT rv re V e0) w') := by
 refine qa (cxT Tryz.prog w (gT rv re V e0) [] Tryz.f92.ntmps) Tryz.func92 rfl rfl rfl rfl (L := gT rv re V e0) (X := fun _ _ => True) (St.startT hT (fun p hp => nomatch hp) (List.pairwise_pair.2 hne) (fun p hp => nomatch hp)) fun c₀ cs hu => ?_
 obtain ⟨hrv, hrc⟩ := Jn9 (cs := cs) hu
 refine Jif fun K hK => wZ ?_; change HS _ _ _ _ _ _ [0, 1, 2, 3, 4, 5, 6, 7] _ _; refine yf rfl rfl rfl rfl (fun a w hf => rfl) hrv hrc (zh rfl rfl rfl rfl (J1 rfl rfl rfl) (zh rfl rfl rfl rfl (Jf rfl) (zh rfl rfl rfl rfl (Qp rfl rfl) (zh rfl rfl rfl rfl (Qp rfl rfl) (Jbm rfl vq rfl rfl (LN rfl fun r2 => KM (wi ?_))))))); refine Jbm rfl vr rfl rfl (Ve (k := 0) (n := 1) (cs' := #[_]) (vs := #[_]) rfl rfl rfl rfl rfl rfl rfl mm rfl rfl (KM (wi ?_))); refine zh rfl rfl rfl rfl (JP rfl) (Jn6 (hK _ _ _ _ _ (Jn5 rfl ?_))); clear hK K; refine sR fun _ hK1 => QK rfl (nK hK1 (JH rfl (fun g => ?_) (fun g => ?_)))
 try exact Bool.noConfusion g
 ·try simp only [ZZ] at g
  refine vC (zJ (u' := .returning) rfl rfl rfl .nil (fun w1 hs1 => ?_)); refine ⟨⟨_, rfl⟩, rfl, by have := hs1.keep; simpa [cxT, gT] using this, fun p hp => ?_⟩; exact (hs1.own p (List.mem_cons_of_mem _ hp)).2.2
theorem Jy8 (rv re : Nat) (hne : rv ≠ re) (V : Array Value) (hV : V.size = 7) (e0 : Int) (e1 : Int) (w : World) (hT : vI (gT rv re V e0) w) : CallsDIn (FW none) 0 Tryz.prog 92 [QR rv, QR re].toArray (.panicking (wY (xg e1))) w (fun e u' w' => (∃ x, e = .returned x) ∧ settle u' = .returning ∧ Keep [rv, re] w w' ∧ vI (gT rv re VZ0 e1) w') := by
 refine qa (cxT Tryz.prog w (gT rv re V e0) [] Tryz.f92.ntmps) Tryz.func92 rfl rfl rfl rfl (L := gT rv re V e0) (X := fun _ _ => True) (St.startT hT (fun p hp => nomatch hp) (List.pairwise_pair.2 hne) (fun p hp => nomatch hp)) fun c₀ cs hu => ?_
 obtain ⟨hrv, hrc⟩ := Jn8 (cs := cs) hu
 refine Jif fun K hK => wZ ?_; change HS _ _ _ _ _ _ [0, 1, 2, 3, 4, 5, 6, 7] _ _; refine yf rfl rfl rfl rfl (fun a w hf => rfl) hrv hrc (zh rfl rfl rfl rfl (J1 rfl rfl rfl) (zh rfl rfl rfl rfl (Jf rfl) (zh rfl rfl rfl rfl (Qp rfl rfl) (zh rfl rfl rfl rfl (Qp rfl rfl) (Jbm rfl vq rfl rfl (LN rfl fun r2 => KM (wi ?_))))))); refine Jbm rfl vr rfl rfl (Ve (k := 0) (n := 1) (cs' := #[_]) (vs := #[_]) rfl rfl rfl rfl rfl rfl rfl mm rfl rfl (KM (wi ?_))); refine zh rfl rfl rfl rfl (JP rfl) (Jn6 (hK _ _ _ _ _ (Jn5 rfl ?_))); clear hK K; refine sR fun _ hK1 => QK rfl (nK hK1 (JH rfl (fun g => ?_) (fun g => ?_)))
 try simp only [ZZ] at g
 refine JJ [(r2, .cells #[.int .i64 e1] 113 (0, 0))] [(0, .pure), (1, .pure), (2, .pure), (3, .turn), (4, .turn)] 5 [0, 1, 2, 3, 4] m5 m5 m6 (Ji (k := 0) rfl rfl rfl rfl rfl (fun _ hS => (Js (r := [_, _, _, _, _, _, _]) rfl rfl)) ?_)
 refine Ji (k := 1) rfl rfl rfl rfl rfl (fun _ hS => (J5 rfl rfl rfl)) (Ji (k := 2) rfl rfl rfl rfl rfl (fun _ hS => (Je rfl (.inl (hS _ (Kn (n := 0) rfl))) rfl rfl)) (Zn (k := 3) (q := 1) (n := 7) (ys := [.int .u64 0, .int .u64 0, .int .u64 0, .int .u64 0, .slice none 0 0, .slice none 0 0, .int .i64 0]) rfl rfl rfl rfl rfl rfl rfl rfl hV rfl rfl (by simp [SubS]) ?_))
 refine WS (k := 4) (q := 2) rfl rfl rfl rfl rfl rfl rfl rfl rfl mi mh m6 (Kk (KM (zJ (u' := .panicking [{ v := xg e1, recovered := true }]) rfl rfl rfl .nil (fun w1 hs1 => ?_)))); refine ⟨⟨_, rfl⟩, rfl, by have := hs1.keep; simpa [cxT, gT] using this, fun p hp => ?_⟩; exact (hs1.own p (List.mem_cons_of_mem _ hp)).2.2
 ·try exact Bool.noConfusion g
theorem qn (t : Ty) (s : BS) : (Ku t s).2 ≠ 0 → (Ku t s).1 = v0L := by
 obtain ⟨k, n, p, ins⟩ := t
 rw [Ku]
 unfold j3 j0
 dsimp only
 repeat' split
 all_goals first | (intro _; rfl) | (intro h; exact absurd rfl h)
def getR (t : Ty) (s : BS) : Vl × Int := if Va t 0 ≠ 0 then (v0L, Va t 0) else if 65536 < s.length then (v0L, 5) else Ku t s
theorem v0_in : Vl.In [] v0L := .mk u0 u0 u0 u0 m7 rfl m7 rfl i0 (fun x hx => nomatch hx)
section
variable {c : Cx} {l : Ko} {L L0 : Jj} {X : XP} {d : List Deferred} {fn : Func} {R : Ending → World → Prop} {rv re : Nat} {V : Array Value} {e0 e1 : Int}
theorem yN (hs : St c (gT rv re V e0 ++ L0) X w) : vI (gT rv re V e0) w ∧ rv ≠ re := ⟨fun p hp => (hs.own p (List.mem_append_left _ hp)).2.2, by
 have := (List.pairwise_append.1 hs.distinct).1
 exact (List.pairwise_cons.1 this).1 _ (List.mem_singleton_self _)⟩
theorem Jja {V' : Array Value} {w' : World} (hs : St c (gT rv re V e0 ++ L0) X w) (hk : Keep [rv, re] w w') (hT : vI (gT rv re V' e1) w') : St c (gT rv re V' e1 ++ L0) X w' := by
 obtain ⟨_, hne⟩ := yN hs
 refine hs.turnT (by simpa [gT] using hk) (fun p hp => ⟨.inl ?_, hT p hp⟩) (List.pairwise_pair.2 hne)
 rcases List.mem_cons.1 hp with rfl | hp
 ·simp [gT]
 ·rw [List.mem_singleton.1 hp]; simp [gT]
theorem Jvw (hP : c.P = Tryz.prog) (hp : L.Perm (gT rv re V e0 ++ L0)) (hV : V.size = 7) (h : HQ c d l (gT rv re V e0 ++ L0) X (bodyPostM (FW none) 0 Tryz.prog fn R .ret)) : HQ c (dF 92 [QR rv, QR re] :: d) l L X (bodyPostM (FW none) 0 Tryz.prog fn R .ret) :=
 VI hp (Jws (enters_of Tryz.func92 m5 rfl) (fun w hs => CallsDIn.mono (Jy7 rv re (yN hs).2 V hV e0 w (yN hs).1) fun _ _ _ ⟨h1, h2, h3, h4⟩ => ⟨h1, h2, Jja hs h3 h4⟩) h)
theorem Jvx (hP : c.P = Tryz.prog) (hd : d = []) (hp : L.Perm (gT rv re V e0 ++ L0)) (hV : V.size = 7) (h : HQ c d l (gT rv re VZ0 e1 ++ L0) X (bodyPostM (FW none) 0 Tryz.prog fn R .ret)) : HQ c (dF 92 [QR rv, QR re] :: d) l L X (bodyPostM (FW none) 0 Tryz.prog fn R (.panic (wY (xg e1)))) :=
 VI hp (Jsx (enters_of Tryz.func92 m5 rfl) (fun w hs => CallsDIn.mono (Jy8 rv re (yN hs).2 V hV e0 e1 w (yN hs).1) fun _ _ _ ⟨h1, h2, h3, h4⟩ => ⟨h1, h2, Jja hs h3 h4⟩) h)
end
set_option maxHeartbeats 1000000 in
theorem Jy9 (ht : t.In R) (s : BS) : PureT (α := VR (getR t s).1) Tryz.prog 60 [t.val, Jw s].toArray (fun y => .tuple #[y.x.val, .int .i64 (getR t s).2]) [] (fun y => y.L) R := by
 have hC := Jax ht
 have hG := Jy4 ht (s := s)
 have hbd := qn t s
 have hg0 : Va t 0 ≠ 0 → getR t s = (v0L, Va t 0) := fun h => by unfold getR; rw [if_pos h]
 have hg1 : Va t 0 = 0 → 65536 < s.length → getR t s = (v0L, 5) := fun h h2 => by unfold getR; rw [if_neg MT, if_pos h2]
 have hg2 : Va t 0 = 0 → ¬ 65536 < s.length → getR t s = Ku t s := fun h h2 => by unfold getR; rw [if_neg MT, if_neg h2]
 generalize hcz : Va t 0 = z at hC hG hg0 hg1 hg2
 obtain ⟨k, n, p, ins⟩ := t
 refine J2 Tryz.func60 rfl rfl fun w => Nd fun r1 r2 => ?_; refine LN rfl fun r3 => GV ?_; refine gZ ?_; refine Jn3 (caps := [QR r2, QR r3]) rfl rfl rfl ?_ rfl; refine ND ?_; refine Gp ?_; refine Jb rfl rfl rfl Jw1 hC oR (HW ?_); refine cD (fun g => ?_) fun g => ?_
 ·refine Nw ?_; refine No ?_; refine QK rfl ?_
  refine Db ?_
  refine Nm ?_; refine gJ ?_
  (refine Jvw (L0 := [_]) rfl (List.Perm.swap _ _ _) rfl ?_
   refine Jd rfl rfl (.cons (Jl (vs := [_, _, _, _, _, _, _]) rfl (kn 0 rfl) rfl rfl) (.cons (KT rfl (kn 1 rfl) rfl rfl) .nil)) (fun w1 hs1 => ?_)
   exact ⟨⟨v0L, [], v0_in, by rw [hg0 m9]; rfl⟩, congrArg (fun z => Ending.returned (Value.tuple #[v0L.val, .int .i64 z])) (congrArg Prod.snd (hg0 m9)).symm, hs1.weakL (List.nil_sublist _)⟩)
 ·refine Gw ?_
  have hz : z = 0 := by assumption
  refine Nw ?_; refine HK ?_; refine KZ rfl rfl rfl jk (VS (_) 5) oN (fun hok _ => ?_) (fun v hv => by obtain ⟨hvb, rfl⟩ := hv; refine Jvx (e1 := 5) (L0 := [_]) rfl rfl (List.Perm.swap _ _ _) rfl ?_; refine Jd rfl rfl (.cons (Jl (vs := [_, _, _, _, _, _, _]) rfl (kn 0 rfl) rfl rfl) (.cons (KT rfl (kn 1 rfl) rfl rfl) .nil)) (fun w1 hs1 => ?_); exact ⟨⟨v0L, [], v0_in, by rw [hg1 hz (by have := Z2.1 hvb; omega)]; rfl⟩, congrArg (fun z => Ending.returned (Value.tuple #[v0L.val, .int .i64 z])) (congrArg Prod.snd (hg1 hz (by have := Z2.1 hvb; omega))).symm, hs1.weakL (List.nil_sublist _)⟩)
  have hl : ¬ 65536 < s.length := by have := Z1.mp hok; omega
  refine X6 6 [2] rfl rfl (KZ rfl rfl rfl Jod (hG hz m0) oR (fun hok y => ?_) (fun v hv => by obtain ⟨hvb, rfl⟩ := hv; refine Jvx (e1 := (Ku (.mk k n p ins) s).2) (L0 := [_]) rfl rfl (List.Perm.swap _ _ _) rfl ?_; refine Jd rfl rfl (.cons (Jl (vs := [_, _, _, _, _, _, _]) rfl (kn 0 rfl) rfl rfl) (.cons (KT rfl (kn 1 rfl) rfl rfl) .nil)) (fun w1 hs1 => ?_); exact ⟨⟨v0L, [], v0_in, by rw [hg2 hz hl, hbd hvb]; rfl⟩, congrArg (fun z => Ending.returned (Value.tuple #[v0L.val, .int .i64 z])) (congrArg Prod.snd (hg2 hz hl)).symm, hs1.weakL (List.nil_sublist _)⟩))
  obtain ⟨⟨ya, yb, yc, yd, ybits, ypb, yitems, ypi, ypick⟩, yL, yok, yer⟩ := y
  refine kZ ?_
  refine Db ?_
  refine Nm ?_; refine HX ?_
  (refine Jvw (L0 := _ :: yL) rfl (List.Perm.swap _ _ _) rfl ?_
   refine Jd rfl rfl (.cons (Jl (vs := [_, _, _, _, _, _, _]) rfl (kn 0 rfl) rfl rfl) (.cons (KT rfl (kn 1 rfl) rfl rfl) .nil)) (fun w1 hs1 => ?_)
   exact ⟨⟨.mk ya yb yc yd ybits ypb yitems ypi ypick, yL, yok, by rw [hg2 hz hl]; exact yer⟩, congrArg (fun z => Ending.returned (Value.tuple #[Vl.val (.mk ya yb yc yd ybits ypb yitems ypi ypick), .int .i64 z])) ((congrArg Prod.snd (hg2 hz hl)).trans hok).symm, hs1.weakL (.cons _ (.cons _ (.cons _ (List.Sublist.refl _))))⟩)
section
variable {c : Cx} {l : Ko} {L E : Jj} {X : XP} {Q : Exit → Act → World → Prop} {d : List Deferred}
variable {ops : Array Oper} {rest : List Nat} {i k : Nat} {v : Value} {o : Oper} {tb : jS} {S : Jj} {T : Jj → Act → Prop}
theorem Jp3  {T0 L0 : Jj}
  (hp : E.Perm (T0 ++ L0)) (hk : W1 ops.toList k = some ⟨some i, .call ⟨.value f, args, at_⟩, ty, ps, af, gd⟩) (hg : Kp l ops ⟨some i, .call ⟨.value f, args, at_⟩, ty, ps, af, gd⟩ = some true) (hi : Nat.ble (i + 1) c.n = true) (hA : tb k = .turn) (hca : KD l f args = some (g, vs)) (eg : Enters c.P g)
  (hpt : PureT c.P g vs.toArray V T0 LL Rl) (hR : ∀ p ∈ Rl, known c L0 p.1 p.2) (hS : ∀ x, SubS S (LL x ++ L0)) (h : ∀ x, HB c d ((i, V x) :: l) (LL x ++ L0) X S ops tb rest T) : HB c d l E X S ops tb (k :: rest) T := fun a hf => by
 refine ⟨_, QO hk, ?_⟩; rw [hA]; refine .inl ⟨α, V, fun x => LL x ++ L0, ⟨JD hf hg, fun w hs => ?_⟩, fun x => ⟨hS x, h x _ (hf.put (Nat.le_of_ble_eq_true hi))⟩⟩
 have hs := hs.perm hp
 obtain ⟨hd1, _, hd3⟩ := List.pairwise_append.1 hs.distinct
 refine X5 hf hca eg ((hpt.run w (fun p hp => (hs.own p (List.mem_append_left _ hp)).2.2) (fun p hp => ?_) hd1 (fun p hp q hq => ?_)).mono fun _ _ ⟨x, he, hk, h1, h2⟩ => ⟨V x, he, x, rfl, hs.turnT hk h1 h2⟩)
 ·exact (hR p hp).elim (fun h => (hs.own _ (List.mem_append_right _ h)).2.2) hs.readR
 ·rcases hR p hp with h | h
  ·exact fun e => hd3 q hq _ h e.symm
  ·rintro e
   obtain ⟨h1, _, h3⟩ := hs.ext _ h
   have h3 := Jx h3
   rcases (hs.own q (List.mem_append_left _ hq)).1 with h4 | h4
   ·exact h1 (e ▸ h4)
   ·simp only at h3 e; omega
end
theorem Jza {n : Nat} {xs : List Value} (h : xs.length = n) : rowOk 1 n xs (some (0, n, [])) := ⟨by rw [h, Nat.mul_one], by simp⟩
theorem Jp4 {k n : Int} {p : Pl} {ins : List Ty} {items : List Vl} (ht : Ty.In R (.mk k n p ins)) (h8 : k ≠ 8) (hs : Seg R items.length (KC items) pi) (hl : items.length ≤ 600) (hx : ∀ i, i < items.length → VQ k 0 i < ins.length)
  (hb : ∀ (i : Nat) x, items[i]? = some x → PureR Tryz.prog 85 [(J0 k 0 ins i).val, x.val].toArray (Jw (KH x (J0 k 0 ins i))) R) :
  PureT (α := { row : Vg // rowOk 1 items.length (WL (Km items k 0 ins 0)) row }) Tryz.prog 135 [Ty.val (.mk k n p ins), Ky items.length pi].toArray (fun x => J3 items.length x.1) [] (fun x => JL 9 (WL (Km items k 0 ins 0)) x.1) R := by
 cases ht with
 | @mk k n p ins hk hn hlt hst hit =>
 have hRL := WG items k 0 ins 0
 obtain ⟨RS, hRS⟩ : ∃ x, x = Km items k 0 ins 0 := ⟨_, rfl⟩
 have htk := fun i x (h : items[i]? = some x) => yB k ins (i := 0) h
 simp only [← hRS, Nat.zero_add] at htk; rw [← hRS] at hRL ⊢; refine J2 Tryz.func135 rfl rfl fun w => MX fun r1 => ?_; refine JK 12 rfl (H0 ?_); refine Jy (σ := Nat × Vg) (fun q => q.1 ≤ items.length ∧ rowOk 1 q.1 (WL (RS.take q.1)) q.2) (fun q => [(2, QR r1), (5, J3 q.1 q.2), (9, Ky items.length pi), (10, .int .i64 (items.length : Int)), (11, .int .i64 (q.1 : Int))]) (fun q => Vs r1 (.mk k n p ins) :: JL 9 (WL (RS.take q.1)) q.2) (fun _ _ _ => True) (fun q => items.length - q.1) (0, none) ⟨Nat.zero_le _, by rw [List.take_zero]; exact ⟨rfl, rfl⟩⟩ (lK rfl) (List.Sublist.refl _) (fun _ _ h => h) ?_; rintro ⟨i, row⟩ ⟨hi1, hrow⟩; simp only at hi1 hrow; change HC _ _ [(2, _), (5, J3 i row), (9, _), (10, _), (11, .int .i64 (i : Int))] ((r1, _) :: JL _ (WL (RS.take i)) row) _ _ _; refine Nv ?_; refine cD (fun h7 => ?_) fun h7 => ?_
 ·refine kX ?_
  have hil : i < items.length := by omega
  have hix := Yc hil
  have hbi := hb i _ hix.1
  have hty := Kw (hx i hil)
  have hi0 : 0 < ins.length := Nat.lt_of_le_of_lt (Nat.zero_le _) (hx i hil)
  have hy0 : ins[0]? = some (ins.getD 0 default) := by rw [List.getD_eq_getElem?_getD, List.getElem?_eq_getElem hi0]; rfl
  have htki := htk i _ hix.1
  obtain ⟨sv, hsv⟩ : ∃ x, x = KH (Yb items i) (J0 k 0 ins i) := ⟨_, rfl⟩
  rw [← hsv] at hbi htki; refine Nw ?_
  refine GA fun rv => ?_; refine QK rfl (Ju (k := 0) (n := 7) (ys := (Yb items i).cells) rfl rfl rfl rfl rfl (Yb items i).len rfl (Yb items i).one rfl (X6 6 [1] rfl rfl ?_)); refine LR rfl (Jg (j := 0) rfl hst rfl rfl rfl rfl m0) (LR rfl (Kj oR rfl hst hy0 rfl rfl) (Ql (cs := #[.int .i64 0, .int .i64 0, .slice none 0 0]) rfl rfl rfl rfl fun rt => Ju (k := 0) (n := 3) (ys := (ins.getD 0 default).cells) rfl rfl rfl rfl rfl (ins.getD 0 default).len rfl (ins.getD 0 default).one rfl (Goc 10 [2] rfl rfl (cD (fun g => ?_) fun g => ?_))))
  ·refine QZ 4 [2] rfl rfl (LR rfl (Jg (j := VQ k 0 i) rfl hst rfl rfl rfl (by unfold VQ; rw [if_pos m9]) (hx i hil)) (LR rfl (Kj oR rfl hst hty.1 rfl rfl) (Ju (k := 0) (n := 3) (ys := (J0 k 0 ins i).cells) rfl rfl rfl rfl rfl (J0 k 0 ins i).len (by rw [List.size_toArray]; exact Ty.len _) (J0 k 0 ins i).one rfl (Gj ?_))))
   (have h7 : k = 7 := by assumption
    skip)
   refine H6 ?_; refine kN fun r2 => ?_; exact NF
  ·refine JE 2 rfl ?_
   (have h7 : ¬ k = 7 := by assumption
    have e : ins.getD 0 default = J0 k 0 ins i := by unfold J0 VQ; rw [if_neg h7, if_neg h8]
    rw [e])
   refine H6 ?_; refine Hn fun r3 => ?_; exact NF
 ·refine Nv ?_
  obtain rfl : i = items.length := by omega
  rw [List.take_of_length_le m0] at hrow ⊢; refine KK 6 rfl (NP fun w1 hs1 => ?_); exact ⟨⟨row, hrow⟩, rfl, hs1.weakL (.cons _ (List.Sublist.refl _))⟩
abbrev qo (l : List BS) : Type := { row : Vg // rowOk 1 l.length (WL l) row }
def Jjb (l : List BS) : qo l := ⟨some (0, l.length, []), Jza (by unfold WL; rw [List.length_map])⟩
abbrev rV {l : List BS} (x : qo l) : Value := Ky l.length (QD x.1)
abbrev rL {l : List BS} (x : qo l) : Jj := JL 9 (WL l) x.1
theorem Jzb {l : List BS} (x : qo l) : rV x = J3 l.length x.1 := VE _ _ fun h => by
 have h2 := x.2
 rw [h] at h2; exact h2.1
theorem Jp5 (l : List BS) : (fun x : qo l => rV x) = fun x => J3 l.length x.1 := funext fun x => Jzb x
theorem Jp6 (hl : s.length ≤ 1000000) : PureT (α := qo (YZ s)) Tryz.prog 172 [Jw s].toArray (fun x => rV x) [] (fun x => rL x) [] := by
 have h := Jy0 hl
 rw [← Z0] at h; rw [Jp5]; exact h
theorem xj {k n : Int} {p : Pl} {ins : List Ty} {items : List Vl} (ht : Ty.In R (.mk k n p ins)) (h8 : k ≠ 8) (hs : Seg R items.length (KC items) pi) (hl : items.length ≤ 600) (hx : ∀ i, i < items.length → VQ k 0 i < ins.length)
  (hb : ∀ (i : Nat) x, items[i]? = some x → PureR Tryz.prog 85 [(J0 k 0 ins i).val, x.val].toArray (Jw (KH x (J0 k 0 ins i))) R) :
  PureT (α := qo (Km items k 0 ins 0)) Tryz.prog 135 [Ty.val (.mk k n p ins), Ky items.length pi].toArray (fun x => rV x) [] (fun x => rL x) R := by
 have h := Jp4 ht h8 hs hl hx hb
 rw [Jp5]
 have e := WG items k 0 ins 0
 generalize Km items k 0 ins 0 = RS at h e ⊢
 rw [← e] at h; rw [← e]; exact h
theorem Jp7 (t : Ty) : Pure Tryz.prog 171 [t.val].toArray (.bool (XJ t)) := by
 obtain ⟨k, n, p, ins⟩ := t
 refine J8 Tryz.func171 rfl rfl fun w => MX fun r1 => ?_; refine X6 9 [0] rfl rfl ?_
 refine Jp 6 rfl (fun gb => ?_) (fun gb => ?_) <;> (try simp only [ZZ] at gb) <;> first | (refine LR rfl (J5 rfl rfl rfl) ?_) | (refine LK rfl ?_)
 all_goals (
  refine LW 4 [0] rfl rfl (Jz 1 rfl (Yh 2 rfl ?_)); refine MW fun w1 hs1 => ?_
  simp_all [JC, XJ, Ty.k]
  all_goals first | done | rfl
  skip)
theorem Jxl (n : Nat) : ((n + 7) / 8 + 31) / 32 = (n + 255) / 256 := by omega
theorem Jjc {l : List Bool} {k : Int} {n : Nat} {p : Pl} {ins : List Ty} (hl : l.length ≤ n) (hn : n ≤ 512) (hs : Seg R l.length (KL l) pb) :
  PureR Tryz.prog 131 [Ty.val (.mk k (n : Int) p ins), Ky l.length pb].toArray (Jw (Vm (YZ (VM l)) ((n + 255) / 256))) R := by
 obtain ⟨N, hN⟩ : ∃ N, N = (l.length + 7) / 8 := ⟨_, rfl⟩
 have hpB : VM l = KX l N l.length := by rw [hN]; rfl
 have hnb := qK (bits := l) (n := (n : Int)) m0
 rw [Int.toNat_natCast] at hnb
 have hc32 := ja (VM l)
 have hcut := Jp6 (s := VM l) (by rw [Xs]; omega)
 rw [hpB] at hnb hc32 hcut ⊢; refine Ja Tryz.func131 rfl rfl fun w => MX fun r1 => ?_; refine Gc ?_; refine Ni ?_
 refine V7 rfl (gK fun rm => ?_); refine Gi ?_; refine H0 ?_; refine Jy (σ := Nat) (fun i => i ≤ l.length) (fun i => [(2, QR r1), (5, .slice (some ⟨rm, 0, none⟩) N N), (14, Ky l.length pb), (15, .int .i64 (l.length : Int)), (16, .int .i64 (i : Int))]) (fun i => [(rm, .cells ((KX l N i).map bV).toArray 5 (0, 0)), Vs r1 (.mk k (n : Int) p ins)]) (fun _ _ _ => True) (fun i => l.length - i) 0 (Nat.zero_le _) (lK rfl) (List.Sublist.refl _) (fun _ _ h => h) ?_; intro i hi1; change HC _ _ _ ((rm, _) :: (r1, _) :: []) _ _ _; refine Nv ?_; refine cD (fun g => ?_) fun g => ?_
 ·refine kX ?_
  have hil : i < l.length := by omega
  have hi8 : i / 8 < N := by omega
  have hyb : l[i]? = some (l.getD i false) := by rw [List.getD_eq_getElem?_getD, List.getElem?_eq_getElem hil]; rfl
  refine Nw ?_
  refine gi ?_; refine LR rfl (Yu oR rfl hs hyb rfl) (HW ?_); refine cD (fun g => ?_) fun g => ?_
  ·have hbt : l.getD i false = true := by assumption
   have hst1 : KX l N (i + 1) = (KX l N i).set (i / 8) (UInt8.ofNat (((KX l N i).getD (i / 8) 0).toNat ||| 2 ^ (i % 8))) := by rw [KX, if_pos hbt]
   obtain ⟨Y, hY⟩ : ∃ Y, Y = KX l N i := ⟨_, rfl⟩
   have hYl : Y.length = N := by rw [hY]; exact Vy l N i
   rw [← hY] at hst1 ⊢
   refine kG ?_; refine VL (show _ = Value.int .i64 ((i / 8 : Nat) : Int) from congrArg (Value.int .i64) ms) (ku ?_); refine VL (show _ = Value.int .i64 ((i % 8 : Nat) : Int) from congrArg (Value.int .i64) ms) (Nu ?_); refine ND ?_; refine Nf ?_; exact Nt
  ·refine kS ?_; refine Nf ?_
   (have hst0 : KX l N (i + 1) = KX l N i := by rw [KX, if_neg mz]
    exact Jr (i + 1) m0 m0 (lK rfl) (by rw [hst0]; exact List.Sublist.refl _) (fun _ _ h => h))
 ·refine Nv ?_
  obtain rfl : i = l.length := by omega
  refine JJ [] [(0, .pure), (2, .grow (Qh (Jjb (YZ (KX l N l.length))) (fun x => rV x) (fun x => rL x))), (3, .pure), (5, .pure), (6, .pure), (7, .pure), (8, .pure), (10, .pure)] 11 [0, 1, 3, 4, 5, 6, 7, 2, 8, 9, 10] m5 m5 m6 (Nn ?_); refine KG (k := 1) rfl rfl rfl rfl rfl (Qq (b := KX l N l.length) (row := some (rm, N, [])) (e := 5) Mf ⟨by rw [List.length_map]; omega, by rw [Vy]; simp⟩ (fun p hp => .inl mE) rfl rfl rfl) ?_
  refine Ji (k := 3) rfl rfl rfl rfl rfl (fun _ hS => (J5 rfl rfl rfl)) (KG (k := 4) rfl rfl rfl rfl rfl (Je rfl (kn 1 rfl) rfl rfl) ?_)
  refine Ji (k := 5) rfl rfl rfl rfl rfl (fun _ _ => (J1 rfl rfl rfl)) (VL (show _ = Value.int .i64 ((n + 8 : Nat) : Int) from congrArg (Value.int .i64) ms) ?_)
  refine Ji (k := 6) rfl rfl rfl rfl rfl (fun _ _ => (J1 rfl rfl rfl)) (VL (show _ = Value.int .i64 ((n + 7 : Nat) : Int) from congrArg (Value.int .i64) ms) ?_)
  refine Ji (k := 7) rfl rfl rfl rfl rfl (fun _ _ => (J1 rfl rfl rfl)) (VL (show _ = Value.int .i64 (((n + 7) / 8 : Nat) : Int) from congrArg (Value.int .i64) ms) (KI (k := 2) rfl rfl rfl rfl rfl (enters_of Tryz.func172 m5 rfl) hcut oN fun x => Ws (k := 8) rfl rfl rfl rfl rfl (enters_of Tryz.func173 m5 rfl) (Jpn (n := (n + 7) / 8) m0) ?_)); rw [Jxl]; refine KR (k := 9) rfl rfl rfl rfl rfl Jij (vX hnb m0 (KY x.2 m7) hc32) (fun q hq => .inl (List.mem_append_left _ hq)) (Ji (k := 10) rfl rfl rfl rfl rfl (fun _ hS => (JP rfl)) (Kk (HX ?_))); exact Nc
section
variable {c : Cx} {l : Ko} {L E : Jj} {X : XP} {Q : Exit → Act → World → Prop} {d : List Deferred}
variable {ops : Array Oper} {rest : List Nat} {i k : Nat} {v : Value} {o : Oper} {tb : jS} {S : Jj} {T : Jj → Act → Prop}
theorem Jle
  (hk : W1 ops.toList k = some ⟨some i, .call ⟨.value f, args, at_⟩, ty, ps, af, gd⟩) (hg : Kp l ops ⟨some i, .call ⟨.value f, args, at_⟩, ty, ps, af, gd⟩ = some true) (hi : Nat.ble (i + 1) c.n = true) (hA : tb k = .pure) (hca : KD l f args = some (g, vs)) (eg : Enters c.P g)
  (hp : PureR c.P g vs.toArray v Rl) (hR : ∀ p ∈ Rl, p ∈ S ∨ p ∈ c.R) (h : HB c d ((i, v) :: l) E X S ops tb rest T) : HB c d l E X S ops tb (k :: rest) T := fun a hf => by
 refine ⟨_, QO hk, ?_⟩; rw [hA]; exact ⟨v, .inl ⟨JD hf hg, fun E' hE' w hs => X5 hf hca eg ((hp.run w fun p hp => (hR p hp).elim (fun h => (hs.own _ (hE' p h)).2.2) hs.readR).mono fun _ _ ⟨he, hk⟩ => ⟨v, he, rfl, hk⟩)⟩, h _ (hf.put (Nat.le_of_ble_eq_true hi))⟩
end
theorem ZH {k : Int} (h7 : k ≠ 7) (h8 : k ≠ 8) (x : Ty) (i : Nat) : J0 k 0 [x] i = x := by unfold J0 VQ; rw [if_neg h7, if_neg h8]; rfl
theorem Jlf {l : List Vl} (h : l[i]? = some v) : Xo (l.take (i + 1)) x = Xo (l.take i) x ++ Vz v x := by
 unfold Xo
 rw [List.take_add_one, h]
 simp
theorem Jjd {x : Ty} : ∀ {l : List Vl}, (∀ v ∈ l, (Vz v x).length ≤ 32) → (Xo l x).length ≤ 32 * l.length
 | [], _ => by unfold Xo; simp
 | v :: l, h => by
  have ih := Jjd (l := l) fun y hy => h y (List.mem_cons_of_mem _ hy)
  have h1 := h v List.mem_cons_self
  unfold Xo at ih ⊢
  rw [List.map_cons, List.flatten_cons, List.length_append, List.length_cons]; omega
theorem yO (hc : Va x 0 = 0) (hp : XJ x = true) (hf : Kz v x = 0) : qf x v = (Vz v x, 0) ∧ (Vz v x).length ≤ 32 := by
 obtain ⟨f1, f2, f3, f4⟩ := jb hc hp
 have h1 := f4 v hf
 have h2 : (Vz v x).length ≤ 32 := by omega
 have h3 : V3 x v = 0 := by unfold V3; rw [if_pos hc]; exact hf
 unfold qf
 rw [if_neg (by rw [h3]; simp), if_neg m0]; exact ⟨rfl, h2⟩
set_option maxHeartbeats 1000000 in
theorem Jxm {k : Int} {n : Nat} {p : Pl} {x0 : Ty} {items : List Vl} (ht : Ty.In R (.mk k (n : Int) p [x0])) (h7 : k ≠ 7) (h8 : k ≠ 8) (hc : Va x0 0 = 0) (hs : Seg R items.length (KC items) pi) (hl : items.length ≤ n) (hn : n ≤ 512)
  (hfit : ∀ v ∈ items, Kz v x0 = 0) (hw : ∀ v ∈ items, wV v ≤ 20000) (hIn : ∀ v ∈ items, v.In R)
  (hb : ∀ (i : Nat) x, items[i]? = some x → PureR Tryz.prog 85 [x0.val, x.val].toArray (Jw (KH x x0)) R) :
  PureR Tryz.prog 127 [Ty.val (.mk k (n : Int) p [x0]), Ky items.length pi].toArray (Jw (Xi k (n : Int) [x0] items (Km items k 0 [x0] 0))) R := by
 have hro := xj ht h8 hs m0 (fun i _ => by unfold VQ; rw [if_neg h7, if_neg h8]; exact Nat.lt_succ_self 0) (fun i x hx => by rw [ZH h7 h8]; exact hb i x hx)
 have hrl := WG items k 0 [x0] 0
 have hr32 : ∀ s ∈ Km items k 0 [x0] 0, s.length = 32 := fun s hs => by
  obtain ⟨j, x, h1, rfl⟩ := Y3 hs
  rw [ZH h7 h8]; exact Y4 x x0 0 hc (hfit x (List.mem_of_getElem? h1))
 have hrt := fun (x : qo (Km items k 0 [x0] 0)) => vX (m := n) m0 m0 (KY (e := 9) x.2 m7) hr32
 have hM : Xi k (n : Int) [x0] items (Km items k 0 [x0] 0) = if XJ x0 = true then Vm (YZ (Xo items x0)) ((n * (JO x0).toNat + 31) / 32) else Vm (Km items k 0 [x0] 0) n := by
  unfold Xi
  rw [if_neg h7]; rfl
 rw [hM]
 have hx0 := ht.sub x0 List.mem_cons_self
 have ht2 := ht
 cases ht with
 | @mk k n p ins hk hn2 hlt hst hit =>
 have hpl := Jp7 x0
 refine Ja Tryz.func127 rfl rfl fun w => MX fun r1 => ?_; refine X6 8 [0] rfl rfl ?_
 refine LR rfl (Jg (j := 0) rfl hst rfl rfl rfl mg (Nat.lt_succ_self 0)) (LR rfl (Kj oR rfl hst MF rfl rfl) (J6 rfl rfl rfl (enters_of Tryz.func171 m5 rfl) hpl (NR ?_))); refine cD (fun g => ?_) fun g => ?_
 refine GL ?_
 refine JJ [] [(1, .pure), (2, .grow (Qh (Jjb (Km items k 0 [x0] 0)) (fun x => rV x) (fun x => rL x))), (3, .pure), (6, .pure)] 7 [0, 1, 3, 4, 2, 5, 6] m5 m5 m6 (KG (k := 0) rfl rfl rfl rfl rfl (Jm (xs := (Ty.mk k (n : Int) p [x0]).cells) (n := 3) rfl (kn 0 rfl) rfl rfl (Ty.mk k (n : Int) p [x0]).len) (Dq ?_))
 refine Ji (k := 3) rfl rfl rfl rfl rfl (fun _ hS => (J5 rfl rfl rfl)) (KG (k := 4) rfl rfl rfl rfl rfl (Je rfl (kn 0 rfl) rfl rfl) (KI (k := 2) rfl rfl rfl rfl rfl (enters_of Tryz.func135 m5 rfl) hro (fun q hq => .inr hq) fun x => KR (k := 5) rfl rfl rfl rfl rfl Jij (hrt x) (fun q hq => .inl (List.mem_append_left _ hq)) (Ji (k := 6) rfl rfl rfl rfl rfl (fun _ hS => (JP rfl)) (Kk (DG fun w1 hs1 => ?_))))); rw [if_neg Mz]; rfl
 ·refine Gw ?_
  have hp : XJ x0 = true := by assumption
  obtain ⟨f1, f2, f3, f4⟩ := jb hc hp
  obtain ⟨z, hz⟩ : ∃ z, z = (JO x0).toNat := ⟨_, rfl⟩
  have hSz := Jgf hx0
  have hsz : WR x0 = (z : Int) := by unfold WR; rw [if_pos f1]; omega
  rw [hsz] at hSz
  have hnz : n * z ≤ 16384 := by
   have := Nat.mul_le_mul hn (show z ≤ 32 by omega)
   omega
  obtain ⟨C, hC⟩ : ∃ C, C = Xo items x0 := ⟨_, rfl⟩
  have hCl : C.length = items.length * z := by rw [hC]; exact qj fun v hv => by have := f4 v (hfit v hv); omega
  have hCn : C.length ≤ n * z := by rw [hCl]; exact Nat.mul_le_mul_right _ hl
  have hcn : (YZ C).length ≤ (n * z + 31) / 32 := by rw [Z0]; unfold Ja8; omega
  refine H4 ?_; refine LN rfl fun r2 => Gc ?_; refine H0 ?_; refine Jy (σ := Nat × Vg × Bool) (fun q => q.1 ≤ items.length ∧ bOk (Xo (items.take q.1) x0) q.2.1) (fun q => [(2, QR r1), (5, QR r2), (22, Ky items.length pi), (23, .int .i64 (items.length : Int)), (24, .int .i64 (q.1 : Int))]) (fun q => Xh r2 (Xo (items.take q.1) x0) q.2.1 q.2.2 ++ [Vs r1 (Ty.mk k (n : Int) p [x0])]) (fun _ _ _ => True) (fun q => items.length - q.1) (0, none, false) ⟨Nat.zero_le _, Ja7⟩ (lK rfl) (List.Sublist.refl _) (fun _ _ h => h) ?_; rintro ⟨i, row, own⟩ ⟨hi1, hb1⟩; simp only at hi1 hb1; change HC _ _ [(2, _), (5, _), (22, _), (23, _), (24, .int .i64 (i : Int))] (Xh r2 (Xo (items.take i) x0) row own ++ [Vs r1 (Ty.mk k (n : Int) p [x0])]) _ _ _; refine Nv ?_; refine cD (fun g => ?_) fun g => ?_
  ·refine kX ?_
   have hil : i < items.length := by omega
   have hix := Yc hil
   have hpr := yO hc hp (hfit _ hix.2)
   have hput := Jph hx0 (hIn _ hix.2) (hw _ hix.2)
   rw [hpr.1] at hput
   have hsn := Jlf (x := x0) hix.1
   have hcl := Jjd (x := x0) (l := items.take i) fun v hv => (yO hc hp (hfit v (List.mem_of_mem_take hv))).2
   rw [List.length_take] at hcl
   have hp2 := hpr.2
   refine H4 ?_
   refine GA fun rv => ?_; refine gE ?_; refine NR ?_; refine JX 11 m5 m5 ?_
   refine Jc rfl rfl rfl (J5 rfl rfl rfl) (Jc rfl rfl rfl (Je (v := Ky 1 p) rfl (.inl (List.mem_cons_of_mem _ (List.mem_append_right _ List.mem_cons_self))) rfl rfl) ?_)
   refine Jc rfl rfl rfl (Jg (j := 0) rfl hst rfl rfl rfl mg (Nat.lt_succ_self 0)) (Jc rfl rfl rfl (Kj oR rfl hst MF rfl rfl) (Jc rfl rfl rfl (Jm (xs := (Yb items i).cells) (n := 7) rfl (kn 0 rfl) rfl rfl (Yb items i).len) (WQ rfl rfl rfl (enters_of Tryz.func52 m5 rfl) hput oR (HH ?_)))); refine GV ?_; refine Vv (T := Xh r2 (Xo (items.take i) x0) row own) (L0 := _ :: [Vs r1 (Ty.mk k (n : Int) p [x0])]) (Rl := []) List.perm_middle.symm rfl rfl rfl Jih (vY hb1 (s2 := Vz (Yb items i) x0) m0) oN fun x => ?_
   obtain ⟨rowx, hbx⟩ := x
   refine ND ?_; refine Nf ?_; refine ZU (L' := Xh r2 (Xo (items.take (i + 1)) x0) rowx true ++ [Vs r1 (Ty.mk k (n : Int) p [x0])]) (by rw [hsn]; exact (List.Sublist.refl _).append (.cons _ (List.Sublist.refl _))) ?_; exact Jr (i + 1, rowx, true) ⟨by simp only; omega, by simp only; rw [hsn]; exact hbx⟩ ml (lK rfl) (List.Sublist.refl _) (fun _ _ h => h)
  ·refine Nv ?_
   obtain rfl : i = items.length := by omega
   rw [List.take_length, ← hC] at hb1; rw [List.take_length, ← hC]; refine JJ [Vs r1 (Ty.mk k (n : Int) p [x0])] [(0, .turn), (1, .grow (Qh (Jjb (YZ C)) (fun x => rV x) (fun x => rL x))), (2, .pure), (3, .pure), (4, .pure), (5, .pure), (6, .pure), (7, .pure), (8, .pure), (9, .pure), (10, .pure)] 11 [2, 3, 4, 5, 6, 7, 0, 1, 8, 9, 10] m5 m5 (fun p hp => List.mem_append_right _ hp) ?_
   refine NX ?_; refine Ji (k := 3) rfl rfl rfl rfl rfl (fun E' hS => Je (v := .int .i64 (n : Int)) rfl (.inl (hS _ List.mem_cons_self)) rfl rfl) ?_
   refine Ji (k := 4) rfl rfl rfl rfl rfl (fun _ hS => (J5 rfl rfl rfl)) (Ji (k := 5) rfl rfl rfl rfl rfl (fun E' hS => Je (v := Ky 1 p) rfl (.inl (hS _ List.mem_cons_self)) rfl rfl) ?_)
   refine Ji (k := 6) rfl rfl rfl rfl rfl (fun E' hS => Jg (j := 0) rfl hst rfl rfl rfl mg (Nat.lt_succ_self 0)) (Ji (k := 7) rfl rfl rfl rfl rfl (fun E' hS => Kj oR rfl hst MF rfl rfl) (Jp3 (k := 0) (T0 := Xh r2 C row own) (L0 := [Vs r1 (Ty.mk k (n : Int) p [x0])]) (Rl := []) (List.Perm.refl _) rfl rfl rfl rfl rfl Joe (Jgm hb1 m0) oN (fun _ p hp => hp) fun u => KI (k := 1) rfl rfl rfl rfl rfl (enters_of Tryz.func172 m5 rfl) (Jp6 (s := C) m0) oN fun x => Jle (k := 8) rfl rfl rfl rfl rfl Jok hSz (fun q hq => .inr hq) (Ji (k := 9) rfl rfl rfl rfl rfl (fun _ _ => (J1 rfl rfl rfl)) (VL (show _ = Value.int .i64 ((n * z : Nat) : Int) from congrArg (Value.int .i64) (by rw [← Int.natCast_mul]; exact wrap_i64 m0 m0)) (Ws (k := 10) rfl rfl rfl rfl rfl (enters_of Tryz.func173 m5 rfl) (Jpn (n := n * z) m0) (Kk (Jb rfl rfl rfl Jij (vX hcn m0 (KY x.2 m7) (ja _)) (fun q hq => .inl (List.mem_append_left _ hq)) (DG fun w1 hs1 => ?_)))))))); rw [if_pos hp]; (try rw [← hz]); (try rw [← hC]); rfl
section
variable {R : Jj} {k n : Int} {p : Pl} {ins : List Ty} {a b c d : Nat} {bits : List Bool} {pb : Pl} {items : List Vl} {pi : Pl} {pick : Int} {s : BS}
theorem J0i (h : PureR Tryz.prog 127 [Ty.val (.mk k n p ins), Ky items.length pi].toArray (Jw s) R) : PureR Tryz.prog 126 [Ty.val (.mk k n p ins), Vl.val (.mk a b c d bits pb items pi pick)].toArray (Jw s) R := by
 refine Ja Tryz.func126 rfl rfl fun w => Nd fun r1 r2 => ?_; refine Hy ?_; refine Jb rfl rfl rfl (enters_of Tryz.func127 m5 rfl) h oR ?_; exact Nz
theorem J0j (hs : Seg R items.length (KC items) pi) (h32 : s.length = 32) (hl : items.length ≤ 512) (h : PureR Tryz.prog 127 [Ty.val (.mk k n p ins), Ky items.length pi].toArray (Jw s) R) : PureR Tryz.prog 128 [Ty.val (.mk k n p ins), Vl.val (.mk a b c d bits pb items pi pick)].toArray (Jw (Yk s items.length)) R := by
 refine Ja Tryz.func128 rfl rfl fun w => Nd fun r1 r2 => ?_; refine kR ?_
 refine g6 ?_; refine KR (k := 3) rfl rfl rfl rfl rfl (enters_of Tryz.func127 m5 rfl) h oR ?_; exact DE
theorem J0k (h : PureR Tryz.prog 131 [Ty.val (.mk k n p ins), Ky bits.length pb].toArray (Jw s) R) : PureR Tryz.prog 130 [Ty.val (.mk k n p ins), Vl.val (.mk a b c d bits pb items pi pick)].toArray (Jw s) R := by
 refine Ja Tryz.func130 rfl rfl fun w => Nd fun r1 r2 => ?_; refine Hy ?_; refine Jb rfl rfl rfl (enters_of Tryz.func131 m5 rfl) h oR ?_; exact Nz
theorem J0l (hs : Seg R bits.length (KL bits) pb) (h32 : s.length = 32) (hl : bits.length ≤ 512) (h : PureR Tryz.prog 131 [Ty.val (.mk k n p ins), Ky bits.length pb].toArray (Jw s) R) : PureR Tryz.prog 132 [Ty.val (.mk k n p ins), Vl.val (.mk a b c d bits pb items pi pick)].toArray (Jw (Yk s bits.length)) R := by
 refine Ja Tryz.func132 rfl rfl fun w => Nd fun r1 r2 => ?_; refine kR ?_
 refine g6 ?_; refine KR (k := 3) rfl rfl rfl rfl rfl (enters_of Tryz.func131 m5 rfl) h oR ?_; exact DE
theorem J0m {l : List BS} (hst : Seg R ins.length (zf ins) p) (hl : l.length ≤ ins.length) (hn : ins.length ≤ 16) (h32 : ∀ s ∈ l, s.length = 32) (h : PureT (α := qo l) Tryz.prog 135 [Ty.val (.mk k n p ins), Ky items.length pi].toArray (fun x => rV x) [] (fun x => rL x) R) :
  PureR Tryz.prog 133 [Ty.val (.mk k n p ins), Vl.val (.mk a b c d bits pb items pi pick)].toArray (Jw (Vm l ins.length)) R := by
 refine Ja Tryz.func133 rfl rfl fun w => Nd fun r1 r2 => ?_; refine kR ?_
 refine JJ [] [(1, .pure), (3, .grow (Qh (Jjb l) (fun x => rV x) (fun x => rL x))), (4, .pure), (6, .pure), (8, .pure)] 9 [0, 1, 2, 4, 5, 6, 3, 7, 8] m5 m5 m6 (Nq ?_); refine KG (k := 5) rfl rfl rfl rfl rfl (Je rfl (kn 1 rfl) rfl rfl) (Ji (k := 6) rfl rfl rfl rfl rfl (fun _ hS => (Jq rfl hst rfl)) (KI (k := 3) rfl rfl rfl rfl rfl (enters_of Tryz.func135 m5 rfl) h (fun q hq => .inr hq) fun x => KR (k := 7) rfl rfl rfl rfl rfl Jij (vX hl m0 (KY x.2 m7) h32) (fun q hq => .inl (List.mem_append_left _ hq)) ?_)); exact gH
theorem J0n {y : Ty} {x : Vl} (hst : Seg R ins.length (zf ins) p) (hs : Seg R items.length (KC items) pi) (hm : m ≤ 8) (hy : ins[m]? = some y) (hx : items[0]? = some x) (h32 : s.length = 32) (h : PureR Tryz.prog 85 [y.val, x.val].toArray (Jw s) R) :
  PureR Tryz.prog 136 [Ty.val (.mk k n p ins), Vl.val (.mk a b c d bits pb items pi (m : Int))].toArray (Jw (Yk s m)) R := by
 have hm1 := (List.getElem?_eq_some_iff.1 hy).1
 have hm2 := (List.getElem?_eq_some_iff.1 hx).1
 refine Ja Tryz.func136 rfl rfl fun w => Nd fun r1 r2 => ?_; refine kR ?_
 refine JJ [] [(0, .pure), (2, .pure), (4, .pure), (6, .pure), (8, .pure), (11, .pure), (13, .pure), (14, .pure)] 15 [0, 1, 2, 3, 4, 5, 6, 7, 8, 9, 11, 12, 10, 13, 14] m5 m5 m6 ?_
 refine Hs ?_
 refine NX ?_; refine KG (k := 3) rfl rfl rfl rfl rfl (Je rfl (kn 0 rfl) rfl rfl) (Ji (k := 4) rfl rfl rfl rfl rfl (fun E' hS => Jg (j := m) rfl hst rfl rfl rfl rfl hm1) (KG (k := 5) rfl rfl rfl rfl rfl (Kj oR rfl hst hy rfl rfl) ?_))
 refine Ji (k := 6) rfl rfl rfl rfl rfl (fun _ hS => (J5 rfl rfl rfl)) (KG (k := 7) rfl rfl rfl rfl rfl (Je rfl (kn 0 rfl) rfl rfl) ?_)
 refine Ji (k := 8) rfl rfl rfl rfl rfl (fun E' hS => Jg (j := 0) rfl hs rfl rfl rfl mg hm2) (KG (k := 9) rfl rfl rfl rfl rfl (Qe oR rfl hs hx rfl rfl) ?_)
 refine HU ?_; refine KG (k := 12) rfl rfl rfl rfl rfl (Je rfl (kn 0 rfl) rfl rfl) (KR (k := 10) rfl rfl rfl rfl rfl Js4 h oR (Ws (k := 13) rfl rfl rfl rfl rfl Joi (Jpd m0 m0) (Ji (k := 14) rfl rfl rfl rfl rfl (fun _ hS => (JP rfl)) (Kk (HX ?_))))); exact Nc
theorem Yf (hlk : QY Zd (.int .i64 k) (rootM.toList.map Yg) = some (.func (.func g) #[] #[])) (eg : Enters Tryz.prog g) (hg : PureR Tryz.prog g [Ty.val (.mk k n p ins), Vl.val (.mk a b c d bits pb items pi pick)].toArray (Jw s) R) :
  PureR Tryz.prog 85 [Ty.val (.mk k n p ins), Vl.val (.mk a b c d bits pb items pi pick)].toArray (Jw s) R := by
 refine Ja Tryz.func85 rfl rfl fun w => Nd fun r1 r2 => ?_; refine ND ?_; refine wC rfl rfl fun rm => Qf (q := 0) (key := .int .i64 1) (val := .func (.func 125) #[] #[]) (XQ (t := 3) m5) rfl rfl rfl rfl rfl rfl ⟨_, rfl⟩ (by intro e he; simp at he) rfl rfl ?_
 refine Qf (q := 0) (key := .int .i64 2) (val := .func (.func 125) #[] #[]) (XQ (t := 3) m5) rfl rfl rfl rfl rfl rfl ⟨_, rfl⟩ M7 rfl rfl ?_
 refine Qf (q := 0) (key := .int .i64 3) (val := .func (.func 126) #[] #[]) (XQ (t := 3) m5) rfl rfl rfl rfl rfl rfl ⟨_, rfl⟩ M1 rfl rfl ?_
 refine Qf (q := 0) (key := .int .i64 4) (val := .func (.func 128) #[] #[]) (XQ (t := 3) m5) rfl rfl rfl rfl rfl rfl ⟨_, rfl⟩ nS rfl rfl ?_
 refine Qf (q := 0) (key := .int .i64 5) (val := .func (.func 130) #[] #[]) (XQ (t := 3) m5) rfl rfl rfl rfl rfl rfl ⟨_, rfl⟩ nL rfl rfl ?_
 refine Qf (q := 0) (key := .int .i64 6) (val := .func (.func 132) #[] #[]) (XQ (t := 3) m5) rfl rfl rfl rfl rfl rfl ⟨_, rfl⟩ nE rfl rfl ?_
 refine Qf (q := 0) (key := .int .i64 7) (val := .func (.func 133) #[] #[]) (XQ (t := 3) m5) rfl rfl rfl rfl rfl rfl ⟨_, rfl⟩ nA rfl rfl ?_
 refine Qf (q := 0) (key := .int .i64 8) (val := .func (.func 136) #[] #[]) (XQ (t := 3) m5) rfl rfl rfl rfl rfl rfl ⟨_, rfl⟩ nr rfl rfl ?_; change HL _ _ _ ((rm, .map rootM 8) :: _) _ _ _ _; refine X6 9 [2] rfl rfl (LR rfl (Ys (v := .func (.func g) #[] #[]) (XQ (t := 3) m5) rfl rfl (kn 0 rfl) rfl rfl ⟨_, rfl⟩ Jk4 (by show (QY Zd (.int .i64 k) (rootM.toList.map Yg)).getD _ = _; rw [hlk]; rfl)) (LS 2 [2, 1] rfl rfl (Jb rfl rfl rfl eg hg oR ?_))); exact Nz
end
theorem Jlg {l : List Vl} {k pick : Int} {ins : List Ty} (h : l.length = 1) : (Km l k pick ins 0).headD [] = KH (Yb l 0) (J0 k pick ins 0) := by
 match l, h with
 | [x], _ => rw [Km]; rfl
theorem Jp8 {a : Nat} {bits : List Bool} {items : List Vl} {pick k n : Int} {p : Pl} {ins : List Ty} (hcz : Va (.mk k n p ins) 0 = 0) (hfit : Kz (.mk a b c d bits pb items pi pick) (.mk k n p ins) = 0) (hk : k = 3 ∨ k = 4 ∨ k = 7) : (Xi k n ins items (Km items k 0 ins 0)).length = 32 := by
 obtain ⟨q1, q2, q3⟩ := yD hcz hfit
 have hrow := fun (j : Nat) x (h : items[j]? = some x) => Jiz hcz hfit m0 h
 have hrs : ∀ s ∈ Km items k 0 ins 0, s.length = 32 := fun s hs => by
  obtain ⟨j, x, h1, rfl⟩ := Y3 hs
  rw [Nat.zero_add]
  obtain ⟨_, r1, r2, r3⟩ := hrow j x h1
  exact Y4 x _ 0 r2 r3
 have hrl := WG items k 0 ins 0
 unfold Xi
 by_cases h7 : k = 7
 ·rw [if_pos h7]
  exact Wk (by have := q3 h7; omega) hrs
 ·rw [if_neg h7]
  obtain ⟨w1, w2, w3, w4⟩ := q1 m0
  match ins, w4 with
  | [x0], _ =>
  rw [show [x0].getD 0 default = x0 from rfl]
  by_cases hp : XJ x0 = true
  ·rw [if_pos hp]
   have hc0 := WN hcz _ List.mem_cons_self
   obtain ⟨f1, f2, f3, f4⟩ := jb hc0 hp
   refine Wk ?_ (ja _); rw [Z0]
   unfold Ja8
   have hz : ∀ v ∈ items, (Vz v x0).length = (JO x0).toNat := fun v hv => by
    obtain ⟨j, hj⟩ := List.getElem?_of_mem hv
    have hg := (hrow j v hj).2.2.2
    rw [ZH h7 m0] at hg
    have := f4 v hg
    omega
   rw [qj hz]
   have hm : items.length * (JO x0).toNat ≤ n.toNat * (JO x0).toNat := Nat.mul_le_mul_right _ m0
   omega
  ·rw [if_neg hp]
   exact Wk m0 hrs
set_option maxHeartbeats 1000000 in
theorem Jxn (hv : v.In R) : ∀ (t : Ty) (dp : Nat), t.In R → Va t (dp : Int) = 0 → Kz v t = 0 → wV v ≤ 20000 → PureR Tryz.prog 85 [t.val, v.val].toArray (Jw (KH v t)) R := by
 have hv0 := hv
 induction hv with
 | @mk a b c d bits pb items pi pick ha hb hcc hd hlb hsb hl hs hp hi ih =>
 intro t dp ht hck hfit hw
 obtain ⟨k, n, p, ins⟩ := t
 have ht0 := ht
 cases ht with
 | mk hk hn hlt hst hit =>
 obtain ⟨hk8, ho, h6, hci⟩ := Qv hck
 obtain ⟨hf1, hf2, hf3⟩ := Xt hfit
 obtain ⟨m1, m2, m3, m4⟩ := Jed hck hfit
 obtain ⟨q1, q2, q3⟩ := yD hck hfit
 have hcz := yC hck
 have hrow := fun (h8 : k ≠ 8) (j : Nat) x (h : items[j]? = some x) => Jiz hcz hfit h8 h
 have hwi : ∀ x ∈ items, wV x ≤ 20000 := fun x hx => Nat.le_trans (Jgn hx) hw
 have hrec : k ≠ 8 → ∀ (i : Nat) x, items[i]? = some x → PureR Tryz.prog 85 [(J0 k 0 ins i).val, x.val].toArray (Jw (KH x (J0 k 0 ins i))) R := fun h8 i x hx => by
  obtain ⟨_, r1, r2, r3⟩ := hrow h8 i x hx
  have hm := List.mem_of_getElem? hx
  exact ih x hm (hi x hm) _ 0 (hit _ r1) r2 r3 (hwi x hm)
 have hlen := Y4 _ _ dp hck hfit
 rw [WX] at hlen ⊢
 by_cases h1 : k = 1
 ·subst h1
  rw [if_pos (.inl rfl)]; exact Yf rfl (enters_of Tryz.func125 m5 rfl) (Jd5 _ hv0).toR
 by_cases h2 : k = 2
 ·subst h2
  rw [if_pos (.inr rfl)]; exact Yf rfl (enters_of Tryz.func125 m5 rfl) (Jd5 _ hv0).toR
 rw [if_neg m0] at hlen ⊢
 have hone : k ≠ 7 → k ≠ 8 → ∀ x0, ins = [x0] → ∀ N : Nat, n = (N : Int) → N ≤ 512 → items.length ≤ N → PureR Tryz.prog 127 [Ty.val (.mk k n p ins), Ky items.length pi].toArray (Jw (Xi k n ins items (Km items k 0 ins 0))) R := fun h7 h8 x0 e N en hN hle => by
  subst e; subst en; refine Jxm ht0 h7 h8 (WN hcz _ List.mem_cons_self) hs hle hN (fun v hv => ?_) hwi hi fun i x hx => ?_
  ·obtain ⟨j, hj⟩ := List.getElem?_of_mem hv
   have := (hrow h8 j v hj).2.2.2
   rwa [ZH h7 h8] at this
  ·have := hrec h8 i x hx
   rwa [ZH h7 h8] at this
 by_cases h4 : k = 4
 ·subst h4
  obtain ⟨w1, w2, w3, w4⟩ := q1 (.inr rfl)
  rw [if_pos rfl, yA m7] at hlen ⊢
  have hrl : (Xi 4 n ins items (Km items 4 0 ins 0)).length = 32 := Jp8 hcz hfit (.inr (.inl rfl))
  obtain ⟨x0, hx0⟩ := List.length_eq_one_iff.1 w4
  exact Yf rfl (enters_of Tryz.func128 m5 rfl) (J0j hs hrl m1 (hone m7 m7 x0 hx0 n.toNat m0 m0 m0))
 rw [if_neg h4] at hlen ⊢
 by_cases h5 : k = 5
 ·subst h5
  obtain ⟨w1, w2, w3⟩ := q2 (.inl rfl)
  rw [if_pos rfl] at hlen ⊢; refine Yf rfl (enters_of Tryz.func130 m5 rfl) (J0k ?_)
  have := Jjc (k := 5) (p := p) (ins := ins) (l := bits) (n := n.toNat) m0 m0 hsb
  rwa [show ((n.toNat : Nat) : Int) = n by omega] at this
 rw [if_neg h5] at hlen ⊢
 by_cases h6 : k = 6
 ·subst h6
  obtain ⟨w1, w2, w3⟩ := q2 (.inr rfl)
  rw [if_pos rfl] at hlen ⊢; refine Yf rfl (enters_of Tryz.func132 m5 rfl) (J0l hsb (Wk (qK w3) (ja _)) m2 ?_)
  have := Jjc (k := 6) (p := p) (ins := ins) (l := bits) (n := n.toNat) m0 m0 hsb
  rwa [show ((n.toNat : Nat) : Int) = n by omega] at this
 rw [if_neg h6] at hlen ⊢
 by_cases h8 : k = 8
 ·subst h8
  obtain ⟨w1, w2, w3, w4⟩ := m4 rfl
  obtain ⟨m, rfl⟩ : ∃ m : Nat, pick = (m : Int) := ⟨pick.toNat, by omega⟩
  have hx8 := Yc (l := items) (i := 0) m0
  have hg := Wy (j := 0) hf3 hx8.1
  have hin := qI (v := .mk a b c d bits pb items pi (m : Int)) (i := 0) hcz hf2 (show 0 < items.length by omega)
  have hty := Kw hin
  have hX := ih _ hx8.2 (hi _ hx8.2) _ 0 (hit _ hty.2) (WN hcz _ hty.2) hg (hwi _ hx8.2)
  have hXl := Y4 _ _ 0 (WN hcz _ hty.2) hg
  rw [if_pos rfl, Jlg w1, Int.toNat_natCast]; exact Yf rfl (enters_of Tryz.func136 m5 rfl) (J0n hst hs m0 (show ins[m]? = some _ from hty.1) hx8.1 hXl hX)
 rw [if_neg h8, yA h8] at hlen ⊢
 by_cases h3 : k = 3
 ·subst h3
  obtain ⟨w1, w2, w3, w4⟩ := q1 (.inl rfl)
  obtain ⟨x0, hx0⟩ := List.length_eq_one_iff.1 w4
  exact Yf rfl (enters_of Tryz.func126 m5 rfl) (J0i (hone m7 m7 x0 hx0 n.toNat m0 m0 m0))
 have h7 : k = 7 := by omega
 subst h7
 obtain ⟨w1, w2, w3⟩ := q3 rfl
 have hM : Xi 7 n ins items (Km items 7 0 ins 0) = Vm (Km items 7 0 ins 0) ins.length := by unfold Xi; rw [if_pos rfl]
 rw [hM]
 have hrl := WG items 7 0 ins 0
 refine Yf rfl (enters_of Tryz.func133 m5 rfl) (J0m hst m0 w3 (fun s hs => ?_) (xj ht0 m7 hs m0 (fun i hi => ?_) (hrec m7)))
 ·obtain ⟨j, x, h1, rfl⟩ := Y3 hs
  rw [Nat.zero_add]
  obtain ⟨_, r1, r2, r3⟩ := hrow m7 j x h1
  exact Y4 x _ 0 r2 r3
 ·show i < ins.length
  omega
def Y7 (t : Ty) (v : Vl) : BS × Int := if V3 t v ≠ 0 then ([], V3 t v) else (KH v t, 0)
theorem Jt8 (ht : t.In R) (hv : v.In R) (hw : wV v ≤ 20000) : PureR Tryz.prog 58 [t.val, v.val].toArray (jy (Y7 t v)) R := by
 have h1 := Jo2 ht hv
 have h2 := fun h => Jxn hv t 0 ht (YY (t := t) (v := v) h).1 (YY h).2 hw
 unfold Y7
 generalize V3 t v = e at h1 h2 ⊢
 generalize KH v t = s at h2 ⊢
 obtain ⟨k, n, p, ins⟩ := t
 obtain ⟨a, b, c, d, bits, pb, items, pi, pick⟩ := v
 refine Ja Tryz.func58 rfl rfl fun w => Nd fun r1 r2 => ?_; refine X6 9 [1, 0] rfl rfl (Jb rfl rfl rfl (enters_of Tryz.func76 m5 rfl) h1 oR (HW ?_)); refine cD (fun g => ?_) fun g => ?_
 exact DL
 ·refine QZ 6 [1, 0] rfl rfl (Jb rfl rfl rfl Js4 (h2 m0) oR (Ga ?_)); refine Nl fun w1 hs1 => ?_; rw [if_neg m0]; rfl
theorem Jje (l : List Vl) : (Xp l).length = l.length := by rw [VK, List.length_map]
theorem Jvy : ∀ l : List Vl, (∀ x ∈ l, wV (W0 x) = wV x) → wL (Xp l) = wL l
 | [], _ => by rw [Xp]
 | x :: xs, h => by rw [Xp, wL, wL, h x List.mem_cons_self, Jvy xs fun y hy => h y (List.mem_cons_of_mem _ hy)]
theorem Jvz (v : Vl) : wV (W0 v) = wV v := by
 induction v using Vl.ind with
 | h a b c d bits pb items pi pick ih => rw [KB, wV, wV, Jvy items ih]
theorem Jjf (k pick : Int) (ins : List Ty) : ∀ (l : List Vl), (∀ x ∈ l, ∀ t, Kz (W0 x) t = Kz x t) → ∀ i : Nat, Qx (Xp l) k pick ins i = Qx l k pick ins i
 | [], _, i => by rw [Xp]
 | x :: xs, h, i => by rw [Xp, Qx, Qx, h x List.mem_cons_self, Jjf k pick ins xs fun y hy => h y (List.mem_cons_of_mem _ hy)]
theorem Jxo (k n : Int) (m : Nat) (v : Vl) : zO k n m (W0 v) = zO k n m v := by
 obtain ⟨a, b, c, d, bits, pb, items, pi, pick⟩ := v
 rw [KB]; rw [Qw k n m a b c d bits none (Xp items) none pick _ rfl, Qw k n m a b c d bits pb items pi pick _ rfl]; simp only [Qn, Jje]
theorem Jgu (v : Vl) : ∀ t, Kz (W0 v) t = Kz v t := by
 induction v using Vl.ind with
 | h a b c d bits pb items pi pick ih =>
 intro t
 obtain ⟨k, n, p, ins⟩ := t
 have hl := Jje items
 have ho := Jxo k n ins.length (.mk a b c d bits pb items pi pick)
 rw [KB] at ho ⊢; rw [Kz, Kz, hl, Jjf k pick ins items ih, ho]
abbrev b8c (r3 : Nat) : Nat × Obj := (r3, .cells #[.int .i64 1, .int .i64 2, .slice none 0 0, .int .i64 6, .int .i64 8, .slice none 0 0, .int .i64 2, .int .i64 0, .slice none 0 0] 76 (0, 0))
abbrev d8c (r5 : Nat) : Nat × Obj := (r5, .cells #[.int .u64 258, .int .u64 0, .int .u64 0, .int .u64 0, .slice none 0 0, .slice none 0 0, .int .i64 0, .int .u64 0, .int .u64 0, .int .u64 0, .int .u64 0, .slice none 0 0, .slice none 0 0, .int .i64 0, .int .u64 1, .int .u64 0, .int .u64 0, .int .u64 0, .slice none 0 0, .slice none 0 0, .int .i64 0] 81 (0, 0))
def V6 (y : Vl) (e : Int) : Value := .agg (y.cells ++ [Value.int .i64 e]).toArray
theorem Jep (s : BS) (m r cap : Nat) (e : Int) : V6 (.mk 0 0 0 0 (J4 s m) (some (⟨r, 0, none⟩, cap)) [] none 0) e = .agg #[.int .u64 0, .int .u64 0, .int .u64 0, .int .u64 0, .slice (some ⟨r, 0, none⟩) m cap, .slice none 0 0, .int .i64 0, .int .i64 e] := by
 show Value.agg #[uV 0, uV 0, uV 0, uV 0, Value.slice (some ⟨r, 0, none⟩) (J4 s m).length cap, Value.slice none 0 0, Value.int .i64 0, Value.int .i64 e] = _
 rw [Kq]; rfl
theorem Jxp (h : s.length ≤ 32) (hm : m < 32) : (Wu s).reverse[m]? = some ((Wu s).getD (31 - m) 0) := by
 have hp := VX h
 rw [List.getElem?_reverse m0, hp, List.getD_eq_getElem?_getD, show 32 - 1 - m = 31 - m by omega, List.getElem?_eq_getElem m0]; rfl
theorem Jt9 : (Wu s).getD j 0 = s.getD j 0 := by
 unfold Wu
 rw [List.getD_eq_getElem?_getD, List.getD_eq_getElem?_getD]
 by_cases h : j < s.length
 ·rw [List.getElem?_append_left h]
 ·rw [List.getElem?_append_right m0, List.getElem?_eq_none (l := s) m0, List.getElem?_replicate]
  split <;> rfl
theorem Jeq (h : s.length ≤ 32) (hm : m < 32) {v : Value} (hv : v = bV (s.getD (31 - m) 0)) : ((Wu s).reverse.take m).map bV ++ [v] = ((Wu s).reverse.take (m + 1)).map bV := by
 rw [Ke (Jxp h hm), List.map_append, Jt9, hv]; rfl
theorem xl (h : s.length ≤ 32) : Pure Tryz.prog 149 [Jw s].toArray (Go.SL.wV (Xd s)) := by
 have hu := Ji3 h
 obtain ⟨a, b, c, d, hn⟩ := j4 s
 rw [hn] at hu ⊢
 have hP := zi (Wu s).reverse
 rw [hu] at hP
 have h32 : ((Wu s).reverse).length = 32 := by rw [List.length_reverse, VX h]
 refine J8 Tryz.func149 rfl rfl fun w => MX fun r1 => ?_; refine JQ 14 rfl (Jy (σ := Nat × Vg) (fun q => q.1 ≤ 32 ∧ rowOk 1 q.1 (((Wu s).reverse.take q.1).map bV) q.2) (fun q => [(0, Jw s), (2, QR r1), (3, J3 q.1 q.2), (4, .int .i64 (31 - (q.1 : Int)))]) (fun q => (r1, .cells (zW.map uV).toArray 31 (0, 0)) :: JL 5 (((Wu s).reverse.take q.1).map bV) q.2) (fun _ _ _ => True) (fun q => 32 - q.1) (0, none) ⟨by decide, rfl, rfl⟩ (lK rfl) (List.Sublist.refl _) (fun _ _ h => h) ?_); rintro ⟨m, row⟩ ⟨hm, hrow⟩; simp only at hm hrow; refine JE 7 rfl (cD (fun g => ?_) fun g => ?_)
 refine Jt 14 rfl (DK ?_); refine cD (fun g => ?_) fun g => ?_
 refine GW ?_; refine LR rfl (KU (j := 31 - m) rfl rfl rfl ml m0 rfl) (Gc ?_); refine kN fun r2 => ?_; refine JF (L0 := [_, _]) (xs := ((Wu s).reverse.take m).map bV) (row := row) (n := m) (sz := 1) (b := 1) (news := [_]) (List.perm_append_comm (l₁ := [_, _])) rfl rfl rfl rfl (kn 0 rfl) rfl rfl rfl rfl rfl m7 rfl rfl rfl m7 hrow m0 m0 fun ra cap sp hra => Gi ?_; refine N0 ?_; rw [Jeq (v := .int .u8 ((s.getD (31 - m) 0).toNat : Nat)) h m0 rfl] at hra ⊢; exact kV
 refine kS ?_; refine Hn fun r3 => ?_; refine JF (L0 := [_, _]) (xs := ((Wu s).reverse.take m).map bV) (row := row) (n := m) (sz := 1) (b := 1) (news := [_]) (List.perm_append_comm (l₁ := [_, _])) rfl rfl rfl rfl (kn 0 rfl) rfl rfl rfl rfl rfl m7 rfl rfl rfl m7 hrow m0 m0 fun ra cap sp hra => Gi ?_; refine N0 ?_; rw [Jeq (v := .int .u8 0) h m0 (by rw [List.getD_eq_getElem?_getD, List.getElem?_eq_none m0]; rfl)] at hra ⊢; exact kV
 ·refine Nv ?_
  have hm32 : m = 32 := by omega
  subst hm32; rw [List.take_of_length_le m0] at hrow ⊢; refine Nw ?_; refine LR rfl (Qq (b := (Wu s).reverse) (row := row) (e := 5) (by rw [h32]; exact rfl) (by rw [h32]; exact hrow) (fun p hp => .inl (List.mem_cons_of_mem _ hp)) rfl rfl rfl) (J6 rfl rfl rfl (enters_of Tryz.func188 m5 rfl) hP (gw ?_)); refine LN rfl fun r4 => ?_
  exact kQ
theorem xm {n : Nat} (hn : n ≤ 8 * s.length) (hl : s.length ≤ 100000) : PureT (α := { row : Vg // rowOk 1 n (KL (J4 s n)) row }) Tryz.prog 189 [Jw s, .int .i64 (n : Int)].toArray (fun x => J3 n x.1) [] (fun x => JL 4 (KL (J4 s n)) x.1) [] := by
 refine J2 Tryz.func189 rfl rfl fun w => JS (JE 17 rfl (Jy (σ := Nat × Vg) (fun q => q.1 ≤ n ∧ rowOk 1 q.1 (KL (J4 s q.1)) q.2) (fun q => [(0, Jw s), (1, .int .i64 (n : Int)), (5, J3 q.1 q.2), (6, .int .i64 (q.1 : Int))]) (fun q => JL 4 (KL (J4 s q.1)) q.2) (fun _ _ _ => True) (fun q => n - q.1) (0, none) ⟨Nat.zero_le _, rfl, rfl⟩ (lK rfl) (List.Sublist.refl _) (fun _ _ h => h) ?_)); rintro ⟨i, row⟩ ⟨hi1, hrow⟩; simp only at hi1 hrow; refine JE 8 rfl (cD (fun g => ?_) fun g => ?_)
 ·refine Jt 9 rfl (Jk nn (gk ?_)); refine Jk ny (Hm fun r1 => ?_); refine JF (L0 := [_]) (xs := KL (J4 s i)) (row := row) (n := i) (sz := 1) (b := 1) (news := [Value.bool (Qg s i)]) (List.perm_append_comm (l₁ := [_])) rfl rfl rfl rfl (kn 0 rfl) rfl rfl rfl rfl rfl m7 rfl rfl rfl m7 hrow m0 m0 fun ra cap sp hra => Gi ?_; refine Nf ?_; exact NV
 ·exact Hv
def b5T (n : Int) (s : BS) : Vl × Int := if ((J4 s (8 * s.length)).drop n.toNat).any id then (v0L, 8) else (Yl (J4 s n.toNat), 0)
theorem Jua {k n : Int} {p : Pl} {ins : List Ty} (hn : 1 ≤ n ∧ n ≤ 8 * s.length) (hl : s.length ≤ 100000) : PureT (α := VR (b5T n s).1) Tryz.prog 150 [Ty.val (.mk k n p ins), Jw s].toArray (fun y => V6 y.x (b5T n s).2) [] (fun y => y.L) [] := by
 have hT := xm (s := s) (n := 8 * s.length) (Nat.le_refl _) hl
 obtain ⟨N, hN⟩ : ∃ N, N = n.toNat := ⟨_, rfl⟩
 refine J2 Tryz.func150 rfl rfl fun w => Nd fun r1 r2 => ?_; refine Gc ?_; refine HK ?_; refine Jk mw (JW rfl rfl rfl (enters_of Tryz.func189 m5 rfl) hT oN fun x => ?_)
 obtain ⟨row, hrow⟩ := x
 match row, hrow with | none, hrow => ?_ | some (ra, cap, sp), hrow => ?_
 all_goals first | exact absurd hrow.1 m0 | skip
 refine X6 8 [2] rfl rfl (Jk mH (kR ?_)); refine Jy (σ := Nat) (fun i => N ≤ i ∧ i ≤ 8 * s.length ∧ ∀ j, N ≤ j → j < i → Qg s j = false) (fun i => [(1, Jw s), (2, QR r1), (4, QR r2), (5, .slice (some ⟨ra, 0, none⟩) (8 * s.length) cap), (6, .int .i64 (i : Int))]) (fun i => [(ra, .cells (KL (J4 s (8 * s.length)) ++ sp).toArray 4 (0, 0)), (r2, .cells #[.int .u64 0, .int .u64 0, .int .u64 0, .int .u64 0, .slice none 0 0, .slice none 0 0, .int .i64 0, .int .i64 0] 119 (0, 0)), Vs r1 (.mk k n p ins)]) (fun _ _ _ => True) (fun i => 8 * s.length - i) N ⟨Nat.le_refl _, by omega, fun j h1 h2 => by omega⟩ (lK rfl) (List.Sublist.refl _) (fun _ _ h => h) ?_; rintro i ⟨hi0, hi1, hbits⟩; change HC _ _ _ ((ra, _) :: (r2, _) :: (r1, _) :: []) _ _ _; refine kS ?_; refine kz ?_; refine NR ?_; refine cD (fun g => ?_) fun g => ?_
 ·refine Jt 8 rfl (Hu ?_); refine Gj ?_; refine cD (fun g => ?_) fun g => ?_
  refine Nw ?_; refine Nb ?_
  refine Db ?_; refine Jz 8 rfl (gz fun w1 hs1 => ?_)
  (have e1 : b5T n s = (v0L, 8) := by unfold b5T; rw [← hN, if_pos (Jen (j := i - N) m0 (by rw [show N + (i - N) = i by omega]; assumption))]
   exact ⟨⟨v0L, [], v0_in, by rw [e1]; rfl⟩, congrArg (fun z => Ending.returned (V6 v0L z)) (congrArg Prod.snd e1).symm, hs1.weakL (List.nil_sublist _)⟩)
  ·refine gY ?_; refine Nf ?_
   exact Jr (i + 1) ⟨by omega, by omega, fun j h1 h2 => by by_cases e : j = i; (subst e; first | assumption | exact Bool.eq_false_of_not_eq_true m9); exact hbits j h1 m0⟩ m0 (lK rfl) (List.Sublist.refl _) (fun _ _ h => h)
 ·refine Nv ?_
  have hany := Jpx (s := s) (N := N) (fun j hj => hbits (N + j) m0 m0)
  have hcap : 8 * s.length ≤ cap := by have := hrow.2; omega
  refine g7 ?_; refine Nb ?_
  refine Db ?_; refine HX ?_; refine gz fun w1 hs1 => ?_
  (have e1 : b5T n s = (Yl (J4 s N), 0) := by unfold b5T; rw [← hN, hany, if_neg m7]
   exact ⟨⟨.mk 0 0 0 0 (J4 s N) (some (⟨ra, 0, none⟩, cap)) [] none 0, [(ra, .cells (KL (J4 s (8 * s.length)) ++ sp).toArray 4 (0, 0))], ZE m0 m0 m0, by rw [e1, KB, Xp]; rfl⟩, congrArg Ending.returned ((congrArg (V6 _) (congrArg Prod.snd e1)).trans (Jep s N ra cap 0)).symm, hs1.weakL ((List.cons_sublist_cons).2 (List.nil_sublist _))⟩)
theorem Jxq {n : Int} (h : (((s.getD (s.length - 1) 0).toNat : Nat) : Int) = 0) : vp n s = (v0L, 2) := Jvr (Ji5.1 (Z6.2 h))
theorem Jgv {k n : Int} {p : Pl} {ins : List Ty} (hl : s.length ≤ 100000) (hn : Yo n) : PureT (α := VR (vp n s).1) Tryz.prog 151 [Ty.val (.mk k n p ins), Jw s].toArray (fun y => V6 y.x (vp n s).2) [] (fun y => y.L) [] := by
  refine J2 Tryz.func151 rfl rfl fun w => Nd fun r1 r2 => ?_; refine Gc ?_; refine Dx ?_; refine QK rfl ?_
  refine Jp 8 rfl (fun gb => ?_) (fun gb => ?_) <;> (try simp only [ZZ] at gb) <;> first | (refine QK rfl ?_) | (refine LK rfl ?_)
  all_goals refine LW 1 [] rfl rfl ?_
  all_goals refine NG ?_
  all_goals first | (have hpos : 0 < s.length := List.length_pos_iff.2 ‹s ≠ []›; refine V7 rfl ?_; refine Jk mY ?_) | refine LK rfl ?_
  all_goals first | (refine LR rfl (KU (j := s.length - 1) rfl rfl rfl rfl m0 rfl) ?_) | refine LK rfl ?_
  all_goals (
   refine NY ?_; refine JH rfl (fun g => ?_) (fun g => ?_)
   try simp only [ZZ] at g
   refine Gy ?_; refine gJ ?_; refine N7 fun w1 hs1 => ?_
   (have e1 : vp n s = (v0L, 2) := by first | exact Jbc ‹s = []› | exact Jxq m9
    exact ⟨⟨v0L, [], v0_in, by rw [e1]; rfl⟩, congrArg (fun z => Ending.returned (V6 v0L z)) (congrArg Prod.snd e1).symm, hs1.weakL (List.nil_sublist _)⟩)
   · try exact Bool.noConfusion g
     all_goals try simp only [ZZ] at g
     all_goals (
      refine Gw ?_
      have hne : s ≠ [] := ‹s ≠ []›
      have hpos : 0 < s.length := List.length_pos_iff.2 hne
      have hno := Jpu hne (fun e => absurd (show (((s.getD (s.length - 1) 0).toNat : Nat) : Int) = 0 from by rw [e]; rfl) m9)
      obtain ⟨q1, q2, q3⟩ := we hno
      refine Nw ?_; refine HK ?_; refine Jk mw ?_; refine V7 rfl ?_; refine Jk mR ?_; refine JQ 5 rfl ?_; refine Jy (σ := Nat) (fun i => Wc s (8 * s.length) ≤ i ∧ i < 8 * s.length) (fun i => [(1, Jw s), (2, QR r1), (4, QR r2), (5, .int .i64 (i : Int))]) (fun i => [(r2, .cells #[.int .u64 0, .int .u64 0, .int .u64 0, .int .u64 0, .slice none 0 0, .slice none 0 0, .int .i64 0, .int .i64 0] 119 (0, 0)), Vs r1 (.mk k n p ins)]) (fun _ _ _ => True) (fun i => i) (8 * s.length - 1) ⟨by omega, by omega⟩ (lK rfl) (List.Sublist.refl _) (fun _ _ h => h) ?_; rintro i ⟨hi1, hi2⟩; change HC _ _ _ ((r2, _) :: (r1, _) :: []) _ _ _; refine kS ?_; refine HK ?_; refine Jk (show _ = Value.int .i64 ((i / 8 : Nat)) from congrArg (Value.int .i64) ma) ?_; refine gk ?_; refine Jk (show _ = Value.bool (!Qg s i) from by unfold Qg; cases (s.getD (i / 8) 0).toNat.testBit (i % 8) <;> rfl) ?_; refine Gj ?_; refine cD (fun g => ?_) fun g => ?_
      refine Gw ?_
      have hlt : Wc s (8 * s.length) ≠ i := fun e => by have hbf : Qg s i = false := m9; rw [← e, q2] at hbf; cases hbf
      exact Gh
      · refine JE 7 rfl ?_
        have hL : i = Wc s (8 * s.length) := Decidable.byContradiction fun hne => by have := q3 i m0 hi2; have hbt : Qg s i = true := m9; rw [this] at hbt; cases hbt
        subst hL; refine Gcc 7 [1] rfl rfl (cD (fun g => ?_) fun g => ?_)
        refine Gy ?_; refine gJ ?_; refine N7 fun w1 hs1 => ?_
        (have e1 : vp n s = (v0L, 5) := by unfold vp; rw [if_neg hno, if_pos m9]
         exact ⟨⟨v0L, [], v0_in, by rw [e1]; rfl⟩, congrArg (fun z => Ending.returned (V6 v0L z)) (congrArg Prod.snd e1).symm, hs1.weakL (List.nil_sublist _)⟩)
        · refine gY ?_; refine JW rfl rfl rfl (enters_of Tryz.func189 m5 rfl) (xm (s := s) (n := Wc s (8 * s.length)) m0 hl) oN fun x => ?_
          obtain ⟨row, hrow⟩ := x
          match row, hrow with | none, hrow => ?_ | some (ra, cap, sp), hrow => ?_
          all_goals refine LR rfl (Js (r := [_, _, _, _, _, _, _]) rfl rfl) (LR rfl (Js (r := [_, _, _, _, _, _, _, _]) rfl rfl) ?_)
          all_goals first | refine LT 0 rfl rfl ?_ | refine LT 1 rfl rfl ?_
          all_goals (
           refine Jz 1 rfl (Yh 2 rfl ?_)
           first | refine Jd rfl rfl (.cons (Jl (vs := [_, _, _, _, _, _, _, _]) rfl (kn 0 rfl) rfl rfl) .nil) (fun w1 hs1 => ?_) | refine Jd rfl rfl (.cons (Jl (vs := [_, _, _, _, _, _, _, _]) rfl (kn 1 rfl) rfl rfl) .nil) (fun w1 hs1 => ?_)
           (have e1 := Jvs (n := n) hno (decide_eq_true m0)
            first
            | exact ⟨⟨.mk 0 0 0 0 (J4 s (Wc s (8 * s.length))) (some (⟨ra, 0, none⟩, cap)) [] none 0, [(ra, .cells (KL (J4 s (Wc s (8 * s.length))) ++ sp).toArray 4 (0, 0))], ZE (Nat.le_refl _) (by have := hrow.2; omega) m0, by rw [e1, KB, Xp]; rfl⟩, congrArg Ending.returned ((congrArg (V6 _) (congrArg Prod.snd e1)).trans (Jep s _ ra cap 0)).symm, hs1.weakL (by first | exact (List.cons_sublist_cons).2 (List.nil_sublist _) | simp [JL])⟩
            | (have h0 := hrow.1
               exact ⟨⟨.mk 0 0 0 0 [] none [] none 0, [], v0_in, by rw [e1, h0]; rfl⟩, congrArg (fun z => Ending.returned (V6 v0L z)) (congrArg Prod.snd e1).symm, hs1.weakL (List.nil_sublist _)⟩))
           skip)
      skip)
   skip)
theorem Jxr {k n : Int} {ins : List Ty} (h7 : k ≠ 7) (h3 : k ≠ 3) (hs : s ≠ []) (hF : JA (J0 k 0 ins 0) = false) (h : s.length < 4 ∨ V4 (s.take 4) % 4 ≠ 0 ∨ V4 (s.take 4) = 0) : JM k n ins s = (0, 2) := by
 unfold JM
 rw [if_neg h7, if_neg h3, if_neg hs, hF, if_neg mf, if_pos h]
theorem Jxs {k n : Int} {ins : List Ty} (h7 : k ≠ 7) (h3 : k ≠ 3) (hs : s ≠ []) (hF : JA (J0 k 0 ins 0) = false) (h : ¬ (s.length < 4 ∨ V4 (s.take 4) % 4 ≠ 0 ∨ V4 (s.take 4) = 0)) : JM k n ins s = if n < ((V4 (s.take 4) / 4 : Nat) : Int) then (0, 5) else (V4 (s.take 4) / 4, 0) := by
 unfold JM
 rw [if_neg h7, if_neg h3, if_neg hs, hF, if_neg mf, if_neg h]
theorem Jp9 {k n : Int} {p : Pl} {ins : List Ty} (ht : Ty.In R (.mk k n p ins)) (hc : Va (.mk k n p ins) 0 = 0) (hk3 : k = 3 ∨ k = 4 ∨ k = 7) (hl : s.length ≤ 100000) :
    PureR Tryz.prog 190 [Ty.val (.mk k n p ins), Jw s].toArray (.tuple #[.int .i64 ((JM k n ins s).1 : Int), .int .i64 (JM k n ins s).2]) R := by
  obtain ⟨hk8, ho, _, _⟩ := Qv hc
  have hsg : Seg R ins.length (zf ins) p := by cases ht; assumption
  have hin0 : VQ k 0 0 < ins.length := by
    unfold JG at ho
    unfold VQ
    rcases hk3 with rfl | rfl | rfl <;> simp at ho ⊢ <;> omega
  obtain ⟨hx0, hxm⟩ := Kw hin0
  have hF := Wl (ht.sub _ hxm)
  have hZ := XG (ht.sub _ hxm)
  unfold WR at hZ
  have hfx := jc (t := J0 k 0 ins 0)
  have hbl := Yd (J0 k 0 ins 0)
  have hbe := WM (J0 k 0 ins 0)
  obtain ⟨y, hy⟩ : ∃ y : Nat, Wx (J0 k 0 ins 0) = (y : Int) := ⟨_, (Int.toNat_of_nonneg m0).symm⟩
  rw [hy] at hbl hbe
  have hnk : k = 3 → 0 ≤ n := fun e => by subst e; unfold JG at ho; simp at ho; omega
  refine Ja Tryz.func190 rfl rfl fun w => MX fun r1 => ?_; refine Goc 12 [0] rfl rfl (cD (fun g => ?_) fun g => ?_)
  refine kK ?_; refine LR rfl (Jq rfl hsg rfl) (Jz 6 rfl (Nl fun w1 hs1 => ?_)); rw [Jgr ‹k = 7›]; rfl
  · refine Gcc 10 [0] rfl rfl (cD (fun g => ?_) fun g => ?_)
    refine kK ?_; refine Jk nk (Jz 6 rfl (Nl fun w1 hs1 => ?_)); rw [Jgs ‹k ≠ 7› ‹k = 3›]; rfl
    · refine gY ?_; refine Dx ?_; refine Gj ?_; refine cD (fun g => ?_) fun g => ?_
      refine GD ?_; refine Nl fun w1 hs1 => ?_; rw [Jgt ‹k ≠ 7› ‹k ≠ 3› ‹s = []›]; rfl
      · refine JE 4 rfl ?_
        have h7 : k ≠ 7 := ‹_›
        have h3 : k ≠ 3 := ‹_›
        have hne : s ≠ [] := ‹_›
        have hx00 : ins[0]? = some (J0 k 0 ins 0) := by have := hx0; unfold VQ at this; rw [if_neg h7] at this; split at this <;> exact this
        refine gu ?_; refine Jb rfl rfl rfl zM hF oR (Gj ?_); refine cD (fun g => ?_) fun g => ?_
        refine GL ?_
        have hif : JA (J0 k 0 ins 0) = true := ‹_›
        rw [if_pos hif] at hbe
        have hmq := Jgq (n := n) (ins := ins) (B := s.length) (y := y) h7 h3 hne (fun _ => ⟨rfl, by omega⟩) (fun e => by rw [hif] at e; cases e)
        refine gu ?_; refine Jb rfl rfl rfl Jdf hZ oR (Jk (show _ = Value.int .i64 (y : Int) from congrArg (Value.int .i64) (by rw [hbe, if_pos hif])) (Gi ?_)); refine Nx ?_; refine QK rfl (LR rfl (Jbb (a := s.length) (b := y) rfl rfl m0) (JQ 3 rfl ?_)); refine cD (fun g => ?_) fun g => ?_
        refine KK 9 rfl (Nl fun w1 hs1 => ?_); rw [hmq, if_pos m0]; rfl
        refine JE 4 rfl ?_
        refine Di ?_; refine Ji (k := 1) rfl rfl rfl rfl rfl (fun _ hS => (JI rfl rfl)) (gW ?_); refine Ji (k := 3) rfl rfl rfl rfl rfl (fun _ _ => ZD (a := s.length) (b := y) rfl rfl m0 m0) ?_
        refine GT ?_; refine cD (fun g => ?_) fun g => ?_
        refine KK 9 rfl (Nl fun w1 hs1 => ?_); rw [hmq, if_neg m0, if_pos m0]; rfl
        refine kS ?_; refine Nx ?_; refine QK rfl (LR rfl (ZD (a := s.length) (b := y) rfl rfl m0 m0) (Jz 6 rfl ?_)); refine Nl fun w1 hs1 => ?_; rw [hmq, if_neg m0, if_neg m0]; rfl
        · refine JE 4 rfl ?_
          have hif : JA (J0 k 0 ins 0) = false := ‹_›
          refine Nw ?_; refine De ?_
          refine Jp 49 rfl (fun gb => ?_) (fun gb => ?_) <;> (try simp only [ZZ] at gb) <;> first | (refine QK rfl ?_) | (refine LK rfl ?_)
          all_goals refine gV ?_
          all_goals first | (refine LR rfl (Jbb (a := V4 (s.take 4)) (b := 4) rfl rfl m0) ?_) | refine LK rfl ?_
          all_goals refine LW 3 [] rfl rfl ?_
          all_goals first | refine LK rfl ?_ | (refine Jp 56 rfl (fun gb => ?_) (fun gb => ?_) <;> (try simp only [ZZ] at gb) <;> first | (refine QK rfl ?_) | (refine LK rfl ?_))
          all_goals refine gV ?_
          all_goals (
           refine NY ?_; refine JH rfl (fun g => ?_) (fun g => ?_)
           try simp only [ZZ] at g
           refine GD ?_; refine Nl fun w1 hs1 => ?_; rw [Jxr h7 h3 hne hif m0]; rfl
           · try exact Bool.noConfusion g
             all_goals try simp only [ZZ] at g
             all_goals (
              refine JE 4 rfl ?_
              have hlt := (Ji2 (s := s) m0).2
              have hmw := Jxs (n := n) h7 h3 hne hif m0
              refine Di ?_; refine Ji (k := 1) rfl rfl rfl rfl rfl (fun _ _ => KV (kl := none) (kh := some (.i64, 4)) (m := 0) (n := 4) rfl rfl rfl rfl rfl rfl m0 m0 MC) (Ws (k := 2) rfl rfl rfl rfl rfl Jdi (yF (s := s.take 4) nR) (Ji (k := 3) rfl rfl rfl rfl rfl (fun _ _ => ZD (a := V4 (s.take 4)) (b := 4) rfl rfl m0 m0) ?_))
              refine GT ?_; refine cD (fun g => ?_) fun g => ?_
              refine GD ?_; refine Nl fun w1 hs1 => ?_; rw [hmw, if_pos m0]; rfl
              refine kS ?_; refine LR rfl (KV (kl := none) (kh := some (.i64, 4)) (m := 0) (n := 4) rfl rfl rfl rfl rfl rfl m0 m0 MC) (J6 rfl rfl rfl Jdi (yF (s := s.take 4) nR) (LR rfl (ZD (a := V4 (s.take 4)) (b := 4) rfl rfl m0 m0) (Ga ?_))); refine Nl fun w1 hs1 => ?_; rw [hmw, if_neg m0]; rfl
              skip)
           skip)
structure OInv (s : BS) (H : Nat) (TY : List Ty) (i A la : Nat) (pre : List Nat) : Prop where
  le : i ≤ TY.length
  at_ : (A : Int) = JV (TY.take i)
  off : Qy s H TY 0 H false = (Qy s H (TY.drop i) A la (decide (0 < pre.length))).map (pre ++ ·)
section
variable {s : BS} {H : Nat} {TY : List Ty} {i A la : Nat} {pre : List Nat} {x : Ty}
theorem OInv.start : OInv s H TY 0 0 H [] := ⟨Nat.zero_le _, rfl, by rw [List.drop_zero, show decide (0 < ([] : List Nat).length) = false from rfl]; cases Qy s H TY 0 H false <;> rfl⟩
theorem OInv.bound (h : OInv s H TY i A la pre) (hx : TY[i]? = some x) (hH : JV TY = (H : Int)) : (A : Int) + Wx x ≤ H := by
 exact kr
theorem OInv.fix (h : OInv s H TY i A la pre) (hx : TY[i]? = some x) (hf : JA x = true) (h0 : 0 ≤ JO x) : OInv s H TY (i + 1) (A + (JO x).toNat) la pre := by
 have h1 := h.off
 rw [KF hx, Qy, if_pos hf] at h1; refine ⟨(List.getElem?_eq_some_iff.1 hx).1, ?_, h1⟩; exact Hz
theorem OInv.bad (h : OInv s H TY i A la pre) (hx : TY[i]? = some x) (hf : JA x = false) {v : Nat} (hv : v = V4 ((s.drop A).take 4)) (hb : (¬ 0 < pre.length ∧ v ≠ H) ∨ v < la ∨ s.length < v) : Qy s H TY 0 H false = none := by
 subst hv
 rw [h.off, KF hx, Qy, if_neg (by rw [hf]; decide), if_pos (by
  rcases hb with ⟨h1, h2⟩ | h1
  ·exact .inl ⟨decide_eq_false h1, h2⟩
  ·exact .inr h1)]
 rfl
theorem OInv.var (h : OInv s H TY i A la pre) (hx : TY[i]? = some x) (hf : JA x = false) {v : Nat} (hv : v = V4 ((s.drop A).take 4)) (h1 : 0 < pre.length ∨ v = H) (h2 : la ≤ v) (h3 : v ≤ s.length) : OInv s H TY (i + 1) (A + 4) v (pre ++ [v]) := by
 have hn : ¬ JA x = true := by rw [hf]; decide
 have hlv : V4 ((s.drop A).take 4) = v := hv.symm
 have ho := h.off
 rw [KF hx, Qy, if_neg hn, hlv, if_neg (by
  rintro (⟨g1, g2⟩ | g | g)
  ·simp only [decide_eq_false_iff_not] at g1; omega
  ·omega
  ·omega), Option.map_map] at ho
 refine ⟨(List.getElem?_eq_some_iff.1 hx).1, ?_, ?_⟩
 ·exact Hr
 ·rw [ho, show decide (0 < (pre ++ [v]).length) = true by simp]
  congr 1
  funext r
  simp
theorem OInv.done (h : OInv s H TY TY.length A la pre) : Qy s H TY 0 H false = if ¬ 0 < pre.length ∧ H ≠ s.length then none else some (pre ++ [s.length]) := by
 rw [h.off, List.drop_length, Qy]
 by_cases hc : ¬ 0 < pre.length ∧ H ≠ s.length
 ·rw [if_pos hc, if_pos ⟨decide_eq_false hc.1, hc.2⟩]; rfl
 ·rw [if_neg hc, if_neg (by rintro ⟨g1, g2⟩; exact hc ⟨of_decide_eq_false g1, g2⟩)]; rfl
end
def qS (k : Int) (ins : List Ty) (s : BS) (M : Nat) : Option (List Nat) := if (s.length : Int) < JV (Kg k ins M) then none else Qy s (JV (Kg k ins M)).toNat (Kg k ins M) 0 (JV (Kg k ins M)).toNat false
theorem Jbn (pre : List Nat) (v : Nat) : pre.map iV ++ [Value.int .i64 (v : Int)] = (pre ++ [v]).map iV := by rw [List.map_append]; rfl
set_option maxHeartbeats 1000000 in
theorem Jub {k n : Int} {p : Pl} {ins : List Ty} (ht : Ty.In R (.mk k n p ins)) (h8 : k ≠ 8) (hM : M ≤ 600) (hX : ∀ i, i < M → VQ k 0 i < ins.length) (hl : s.length ≤ 100000) :
    PureT (α := { row : Vg // rowOk 1 ((qS k ins s M).getD []).length (((qS k ins s M).getD []).map iV) row }) Tryz.prog 191 [Ty.val (.mk k n p ins), Jw s, .int .i64 (M : Int)].toArray (fun x => .tuple #[J3 ((qS k ins s M).getD []).length x.1, .bool (qS k ins s M).isSome]) [] (fun x => JL 3 (((qS k ins s M).getD []).map iV) x.1) R := by
  obtain ⟨TY, hTY⟩ : ∃ TY, TY = Kg k ins M := ⟨_, rfl⟩
  have hTl : TY.length = M := by rw [hTY, VG]
  have hbl := Ye TY
  obtain ⟨H, hH⟩ : ∃ H, H = (JV TY).toNat := ⟨_, rfl⟩
  have hHi : JV TY = (H : Int) := by omega
  have hbg := Jpi ht (v0_in.mono (R' := R) (fun q hq => absurd hq List.not_mem_nil)) h8 hM hX
  rw [← hTY, hHi] at hbg
  have hbb := (YX TY).2
  have hin := fun i (h : i < M) => yq (v := v0L) (i := i) (y := J0 k 0 ins i) ht (v0_in.mono (R' := R) (fun q hq => absurd hq List.not_mem_nil)) (fun e => absurd e h8) (Kw (hX i h)).1
  have hti := fun i (h : i < M) => ht.sub _ (Kw (hX i h)).2
  have ho : qS k ins s M = if s.length < H then none else Qy s H TY 0 H false := by
    unfold qS
    rw [← hTY, hHi, Int.toNat_natCast]
    by_cases h : s.length < H
    rw [if_pos m0, if_pos h]
    rw [if_neg m0, if_neg h]
  generalize qS k ins s M = OR at ho ⊢
  refine J2 Tryz.func191 rfl rfl fun w => MX fun r1 => ?_; refine JK 11 rfl (N2 ?_); refine No ?_; refine QK rfl (Jb rfl rfl rfl (enters_of Tryz.func121 m5 rfl) hbg oR (JK 8 rfl ?_)); refine DK ?_; refine cD (fun g => ?_) fun g => ?_
  refine GD ?_; refine MZ fun w1 hs1 => ?_
  (rw [if_pos m0] at ho
   subst ho
   exact ⟨⟨none, rfl, rfl⟩, rfl, hs1.weakL (List.nil_sublist _)⟩)
  · refine Gw ?_
    have hHl : H ≤ s.length := by omega
    rw [if_neg m0] at ho; refine JE 17 rfl (Jy (σ := Nat × Nat × Nat × List Nat × Vg) (fun q => q.1 ≤ M ∧ OInv s H TY q.1 q.2.1 q.2.2.1 q.2.2.2.1 ∧ rowOk 1 q.2.2.2.1.length (q.2.2.2.1.map iV) q.2.2.2.2 ∧ q.2.2.2.1.length ≤ q.1 ∧ q.2.1 ≤ H ∧ q.2.2.1 ≤ 100000) (fun q => [(1, Jw s), (2, .int .i64 (M : Int)), (3, QR r1), (8, J3 q.2.2.2.1.length q.2.2.2.2), (9, .int .i64 (H : Int)), (10, .int .i64 (q.2.1 : Int)), (11, .int .i64 (q.2.2.1 : Int)), (12, .int .i64 (q.1 : Int))]) (fun q => Vs r1 (.mk k n p ins) :: JL 3 (q.2.2.2.1.map iV) q.2.2.2.2) (fun _ _ _ => True) (fun q => M - q.1) (0, 0, H, [], none) ⟨Nat.zero_le _, OInv.start, ⟨rfl, rfl⟩, Nat.le_refl _, Nat.zero_le _, by simp only; omega⟩ (lK rfl) (List.Sublist.refl _) (fun _ _ h => h) ?_); rintro ⟨i, A, la, pre, row⟩ ⟨hi1, hinv, hrow, hpl, hAH, hla⟩; simp only at hi1 hinv hrow hpl hAH hla; change HC _ _ [(1, Jw s), (2, .int .i64 (M : Int)), (3, QR r1), (8, J3 pre.length row), (9, .int .i64 (H : Int)), (10, .int .i64 (A : Int)), (11, .int .i64 (la : Int)), (12, .int .i64 (i : Int))] _ _ _ _; refine JE 8 rfl (cD (fun g => ?_) fun g => ?_)
    · refine kX ?_
      have hii : i < M := by omega
      have hti1 := hti i hii
      have hxx : TY[i]? = some (J0 k 0 ins i) := by rw [hTY]; unfold Kg; rw [List.getElem?_map, List.getElem?_range hii]; rfl
      have hbd := hinv.bound hxx hHi
      have hbt := Yd (J0 k 0 ins i)
      have hbe := WM (J0 k 0 ins i)
      obtain ⟨y, hy⟩ : ∃ y : Nat, Wx (J0 k 0 ins i) = (y : Int) := ⟨_, (Int.toNat_of_nonneg m0).symm⟩
      rw [hy] at hbd hbt hbe; refine H4 ?_; refine N2 ?_; refine No ?_; refine QK rfl (Jb rfl rfl rfl Joh (hin i m0) oR (Ql (cs := #[.int .i64 0, .int .i64 0, .slice none 0 0]) rfl rfl rfl rfl fun r9 => ?_)); refine NO ?_; refine ND ?_; refine N8 ?_; refine Jb rfl rfl rfl zM (Wl hti1) oR (Gj ?_); refine cD (fun g => ?_) fun g => ?_
      · refine GL ?_
        have hif : JA (J0 k 0 ins i) = true := ‹_›
        rw [if_pos hif] at hbe
        have hsz1 := XG hti1
        unfold WR at hsz1
        rw [if_pos hif, ← hbe] at hsz1; refine Nw ?_; refine N8 ?_; refine Jb rfl rfl rfl Jdf hsz1 oR (V7 rfl (Jk mq (JK 10 rfl (Nf ?_))))
        (have hfx := hinv.fix hxx hif m0
         rw [show (JO (J0 k 0 ins i)).toNat = y by omega] at hfx
         exact Jr (i + 1, A + y, la, pre, row) ⟨by simp only; omega, hfx, hrow, by simp only; omega, by simp only; omega, hla⟩ ml (lK rfl) (.cons _ (List.Sublist.refl _)) (fun _ _ h => h))
      · refine Gw ?_
        have hif : JA (J0 k 0 ins i) = false := ‹_›
        rw [hif, if_neg m7] at hbe; refine kS ?_; refine Jk n9 (LR rfl (KV (kl := some (.i64, (A : Int))) (kh := some (.i64, ((A + 4 : Nat) : Int))) (m := A) (n := A + 4) rfl rfl rfl rfl rfl rfl m0 m0 (show _ = (s.drop A).take 4 from by rw [List.drop_take, Nat.add_sub_cancel_left])) (J6 rfl rfl rfl Jdi (yF (s := (s.drop A).take 4) (by rw [List.length_take, List.length_drop]; omega)) ?_))
        obtain ⟨v, hv⟩ : ∃ v, v = V4 ((s.drop A).take 4) := ⟨_, rfl⟩
        rw [← hv]; refine Gi ?_; refine LR rfl (Wp rfl (fun e => by rw [e] at hrow; exact hrow.1) rfl) ?_; refine NC ?_
        refine Jp 48 rfl (fun gb => ?_) (fun gb => ?_) <;> (try simp only [ZZ] at gb) <;> first | (refine QK rfl ?_) | (refine LK rfl ?_)
        all_goals refine LW 4 [] rfl rfl ?_
        all_goals first | refine QK rfl ?_ | (refine Jp 53 rfl (fun gb => ?_) (fun gb => ?_) <;> (try simp only [ZZ] at gb) <;> first | (refine QK rfl ?_) | (refine LK rfl ?_))
        all_goals refine LW 4 [] rfl rfl ?_
        all_goals first | refine LK rfl ?_ | (refine Jp 58 rfl (fun gb => ?_) (fun gb => ?_) <;> (try simp only [ZZ] at gb) <;> first | (refine QK rfl ?_) | (refine LK rfl ?_))
        all_goals refine LW 1 [] rfl rfl ?_
        all_goals refine NG ?_
        all_goals (
         refine NY ?_; refine JH rfl (fun g => ?_) (fun g => ?_)
         try simp only [ZZ] at g
         refine KK 13 rfl (MZ fun w1 hs1 => ?_)
         (rw [hinv.bad hxx hif hv m0] at ho
          subst ho
          exact ⟨⟨none, rfl, rfl⟩, rfl, hs1.weakL (List.nil_sublist _)⟩)
         · try exact Bool.noConfusion g
           all_goals try simp only [ZZ] at g
           all_goals (
            refine gY ?_; refine kN fun r2 => ?_; refine JF (L0 := [_, _, _]) (xs := pre.map iV) (row := row) (n := pre.length) (sz := 1) (b := 8) (news := [_]) (List.perm_append_comm (l₁ := [_, _, _])) rfl rfl rfl rfl (kn 0 rfl) rfl rfl rfl rfl rfl m7 rfl rfl rfl m7 hrow m0 m0 fun ra cap sp hra => JK 12 rfl (Jk n9 (Gi ?_)); refine Nf ?_
            (have hvr := hinv.var hxx hif hv m0 m0 m0
             have hlen : pre.length + 1 = (pre ++ [v]).length := by simp
             rw [Jbn, hlen] at hra; rw [Jbn]; refine QG [3, 0] (L' := [_, _]) m7 rfl ?_
             exact Jr (i + 1, A + 4, v, pre ++ [v], some (ra, cap, sp)) ⟨by simp only; omega, hvr, hra, by simp only; rw [← hlen]; omega, by simp only; omega, by simp only; omega⟩ ml (.cons rfl (.cons rfl (.cons rfl (.cons (congrArg (fun m => some (Value.slice (some ⟨ra, 0, none⟩) m cap)) hlen) (lK rfl))))) (List.Sublist.refl _) (fun _ _ h => h))
            skip)
         skip)
    · refine JE 7 rfl ?_
      have hiM : i = TY.length := by omega
      rw [hiM] at hinv
      have hfin := hinv.done
      rw [← ho] at hfin; refine Nw ?_; refine LR rfl (Wp rfl (fun e => by rw [e] at hrow; exact hrow.1) rfl) ?_; refine NC ?_
      refine Jp 74 rfl (fun gb => ?_) (fun gb => ?_) <;> (try simp only [ZZ] at gb) <;> first | (refine QK rfl ?_) | (refine LK rfl ?_)
      all_goals refine LW 1 [] rfl rfl ?_
      all_goals refine NG ?_
      all_goals (
       refine NY ?_; refine JH rfl (fun g => ?_) (fun g => ?_)
       · try exact Bool.noConfusion g
         all_goals try simp only [ZZ] at g
         all_goals (
          refine GD ?_; refine MZ fun w1 hs1 => ?_
          (rw [if_pos m0] at hfin
           subst hfin
           exact ⟨⟨none, rfl, rfl⟩, rfl, hs1.weakL (List.nil_sublist _)⟩)
          skip)
       try simp only [ZZ] at g
       refine gY ?_; refine Nx ?_; refine Hn fun r3 => ?_; refine JF (L0 := [_, _]) (xs := pre.map iV) (row := row) (n := pre.length) (sz := 1) (b := 8) (news := [_]) (List.perm_append_comm (l₁ := [_, _])) rfl rfl rfl rfl (kn 0 rfl) rfl rfl rfl rfl rfl m7 rfl rfl rfl m7 hrow m0 m0 fun ra cap sp hra => Ga ?_; refine MZ fun w1 hs1 => ?_
       (rw [if_neg m0] at hfin
        subst hfin
        have hlen : pre.length + 1 = (pre ++ [s.length]).length := by simp
        rw [Jbn, hlen] at hra; rw [Jbn] at hs1
        exact ⟨⟨some (ra, cap, sp), hra⟩, congrArg (fun m => Ending.returned (Value.tuple #[Value.slice (some ⟨ra, 0, none⟩) m cap, .bool true])) hlen, hs1.weakL ((List.cons_sublist_cons).2 (List.nil_sublist _))⟩)
       skip)
theorem Jjg : ∀ {l : List (Gf × BS)}, (∀ q ∈ l, Nonempty (VR (q.1 q.2).1)) → ∃ (vs : List Vl) (E : Jj), (∀ x ∈ vs, x.In E) ∧ vs.map W0 = (Vt l).1 ∧ vs.length ≤ l.length
 | [], _ => ⟨[], [], fun x hx => (nomatch hx), rfl, Nat.le_refl _⟩
 | (f, s) :: l, h => by
  obtain ⟨vs, E, h1, h2, h3⟩ := Jjg (l := l) fun q hq => h q (List.mem_cons_of_mem _ hq)
  obtain ⟨y⟩ := h (f, s) List.mem_cons_self
  rw [Vt]
  split
  ·exact ⟨[], [], fun x hx => (nomatch hx), rfl, Nat.zero_le _⟩
  ·split
   ·exact ⟨[], [], fun x hx => (nomatch hx), rfl, Nat.zero_le _⟩
   ·refine ⟨y.x :: vs, y.L ++ E, fun x hx => ?_, ?_, ?_⟩
    ·rcases List.mem_cons.1 hx with rfl | hx
     ·exact y.ok.mono fun q hq => List.mem_append_left _ hq
     ·exact (h1 x hx).mono fun q hq => List.mem_append_right _ hq
    ·rw [List.map_cons, y.er, h2]
    ·simp only [List.length_cons]; omega
theorem Juc {xs : List Value} {n : Nat} (h : xs.length = n * 7) : Seg [(0, .cells xs.toArray e (0, 0))] n xs (some (⟨0, 0, none⟩, n)) := ⟨Nat.le_refl _, fun _ => ⟨rfl, _, _, _, List.mem_singleton_self _, by simp⟩⟩
theorem Jxt (ht : t.In R) : Va t 0 = 0 → ∀ s : BS, s.length ≤ 100000 → Nonempty (VR (Ku t s).1) := by
 induction ht with
 | @mk k n p ins hk hn hil hs hi ih =>
 intro hc s hl
 obtain ⟨hk8, ho, _, _⟩ := Qv hc
 have hsub := WN hc
 have z : ∀ {e : Int}, Nonempty (VR ((v0L, e) : Vl × Int).1) := ⟨⟨v0L, [], v0_in, rfl⟩⟩
 have nm : ∀ {e : Int}, Nonempty (VR ((jm (Xd s), e) : Vl × Int).1) := by
  obtain ⟨a, b, c, d, hnm⟩ := j4 s
  exact ⟨⟨.mk a b c d [] none [] none 0, [], yI hnm, by rw [KB, Xp, hnm]; rfl⟩⟩
 have bt : ∀ {m : Nat} {e : Int}, m ≤ 800000 → Nonempty (VR ((Yl (J4 s m), e) : Vl × Int).1) := fun {m e} hm => ⟨⟨.mk 0 0 0 0 (J4 s m) (some (⟨0, 0, none⟩, m)) [] none 0, _, ZE (r := 0) (e := 0) (sp := []) (Nat.le_refl m) (Nat.le_refl m) hm, by rw [KB, Xp]; rfl⟩⟩
 have it : ∀ {vs : List Vl} {E : Jj} {pick e : Int}, (∀ x ∈ vs, x.In E) → vs.length ≤ 1000000 → Yo pick → Nonempty (VR ((KP (vs.map W0) pick, e) : Vl × Int).1) := fun {vs E pick e} h1 h2 h3 => ⟨⟨.mk 0 0 0 0 [] none vs (some (⟨0, 0, none⟩, vs.length)) pick, _, XM (Lr := [(0, .cells (KC vs).toArray 0 (0, 0))]) m0 (Juc (Jt5 vs)) h1 h3, by rw [KB, VK]; rfl⟩⟩
 by_cases hnf : JA (.mk k n p ins) = true ∧ (s.length : Int) ≠ JO (.mk k n p ins)
 ·rw [g_w hnf]; exact z
 by_cases h1 : k = 1
 ·rw [g_1 hnf h1]; exact nm
 by_cases h2 : k = 2
 ·rw [g_2 hnf h1 h2]; split
  ·exact z
  ·exact nm
 by_cases h5 : k = 5
 ·rw [g_5 hnf h1 h2 h5]; split
  ·exact z
  ·exact bt (by subst h5; unfold JG at ho; simp at ho; omega)
 by_cases h6 : k = 6
 ·rw [g_6 hnf h1 h2 h5 h6]; unfold vp; split
  ·exact z
  ·rename_i hno
   split
   ·exact z
   ·exact bt (by have := (we hno).1; omega)
 by_cases h8 : k = 8
 ·by_cases hse : s = []
  ·rw [Jxh hnf h1 h2 h5 h6 h8 hse]; exact z
  by_cases hb : ins.length ≤ (s.getD 0 0).toNat
  ·rw [Jxi hnf h1 h2 h5 h6 h8 hse hb]; exact z
  obtain ⟨x, hx⟩ : ∃ x, ins[(s.getD 0 0).toNat]? = some x := ⟨_, List.getElem?_eq_getElem m0⟩
  have hxm := List.mem_of_getElem? hx
  rw [g_8 hnf h1 h2 h5 h6 h8 hse hx]
  split
  ·exact z
  ·obtain ⟨y⟩ := ih x hxm (hsub x hxm) (s.drop 1) nC
   have := it (vs := [y.x]) (E := y.L) (pick := ((s.getD 0 0).toNat : Int)) (e := 0) (fun z hz => by rw [List.mem_singleton.1 hz]; exact y.ok) mf Md
   rw [List.map_singleton, y.er] at this; exact this
 ·have hk3 : k = 3 ∨ k = 4 ∨ k = 7 := by omega
  have hmX := ZC (s := s) hk8 ho hk3
  rw [g_r hnf h1 h2 h5 h6 h8, Jbg hmX]
  split
  ·exact z
  ·rename_i hp0
   have hp0 := Decidable.not_not.1 hp0
   split
   ·exact z
   ·have hmm : (JM k n ins s).2 = 0 := Decidable.byContradiction fun hm => hm (by rw [← jf hm]; exact hp0)
    have hPl : (Ym k n ins s).length ≤ 512 := by unfold Ym; rw [Xu, VG]; exact (jd hk8 ho hk3 hmm).1
    obtain ⟨vs, E, g1, g2, g3⟩ := Jjg (l := (Ym k n ins s).map (gq s)) (fun q hq => by
     obtain ⟨⟨x, f, f2⟩, hm, rfl⟩ := List.mem_map.1 hq
     obtain ⟨i, hi⟩ := List.getElem?_of_mem hm
     have hxm := Jpz (hmX hmm) hi
     exact ih x hxm (hsub x hxm) ((s.take f2).drop f) nz)
    rw [List.length_map] at g3; rw [← g2]; exact it g1 m0 i0
theorem Jbo {s : BS} {H : Nat} : ∀ {ts : List Ty} {a la : Nat} {op : Bool} {os : List Nat}, Qy s H ts a la op = some os → 0 < os.length
 | [], _, _, _, _, h => by
  rw [Qy] at h
  split at h
  ·cases h
  ·cases h; exact Nat.one_pos
 | x :: xs, a, la, op, os, h => by
  rw [Qy] at h
  split at h
  ·exact Jbo h
  ·split at h
   ·cases h
   ·obtain ⟨r, h2, rfl⟩ := Option.map_eq_some_iff.1 h
    exact Nat.succ_pos _
structure RInv (s : BS) (H : Nat) (TY : List Ty) (ps : List (Ty × Nat × Nat)) (os : List Nat) (i A m : Nat) : Prop where
  le : i ≤ TY.length
  at_ : (A : Int) = JV (TY.take i)
  tl : ps.drop i = Kf (TY.drop i) A (os.drop m)
  off : ∃ la op, Qy s H (TY.drop i) A la op = some (os.drop m)
section
variable {s : BS} {H : Nat} {TY : List Ty} {ps : List (Ty × Nat × Nat)} {os : List Nat} {i A m : Nat} {x : Ty}
theorem RInv.start (h : Qy s H TY 0 H false = some os) : RInv s H TY (Kf TY 0 os) os 0 0 0 := ⟨Nat.zero_le _, rfl, rfl, ⟨H, false, h⟩⟩
theorem Jud {o : Option α} (h : o.isSome = false) : o = none := by
 cases o with
 | none => rfl
 | some _ => cases h
theorem Jv1 {l r : List α} {q : α} (h : l.drop i = q :: r) : l[i]? = some q ∧ l.drop (i + 1) = r := by
 have h1 : (l.drop i)[0]? = some q := by rw [h]; rfl
 rw [List.getElem?_drop, Nat.add_zero] at h1; exact ⟨h1, by rw [KF h1] at h; exact (List.cons.inj h).2⟩
theorem RInv.bound (h : RInv s H TY ps os i A m) (hx : TY[i]? = some x) (hH : JV TY = (H : Int)) : (A : Int) + Wx x ≤ H := by
 exact kr
theorem RInv.fix (h : RInv s H TY ps os i A m) (hx : TY[i]? = some x) (hf : JA x = true) (h0 : 0 ≤ JO x) : ps[i]? = some (x, A, A + (JO x).toNat) ∧ RInv s H TY ps os (i + 1) (A + (JO x).toNat) m := by
 have h1 := h.tl
 obtain ⟨la, op, h2⟩ := h.off
 rw [KF hx, Kf, if_pos hf] at h1; rw [KF hx, Qy, if_pos hf] at h2
 obtain ⟨g1, g2⟩ := Jv1 h1
 refine ⟨g1, (List.getElem?_eq_some_iff.1 hx).1, ?_, g2, ⟨la, op, h2⟩⟩; exact Hz
theorem RInv.var (h : RInv s H TY ps os i A m) (hx : TY[i]? = some x) (hf : JA x = false) : m + 1 < os.length ∧ ps[i]? = some (x, os.getD m 0, os.getD (m + 1) 0) ∧ RInv s H TY ps os (i + 1) (A + 4) (m + 1) := by
 have hn : ¬ JA x = true := by rw [hf]; decide
 have h1 := h.tl
 obtain ⟨la, op, h2⟩ := h.off
 rw [KF hx, Kf, if_neg hn] at h1; rw [KF hx, Qy, if_neg hn] at h2
 split at h2
 ·cases h2
 ·obtain ⟨r, h3, h4⟩ := Option.map_eq_some_iff.1 h2
  have hp := Jbo h3
  have hlen : (os.drop m).length = r.length + 1 := by rw [← h4]; rfl
  rw [List.length_drop] at hlen
  have ht : (os.drop m).tail = os.drop (m + 1) := by rw [List.tail_drop]
  have e0 : (os.drop m).getD 0 0 = os.getD m 0 := by rw [List.getD_eq_getElem?_getD, List.getD_eq_getElem?_getD, List.getElem?_drop, Nat.add_zero]
  have e1 : (os.drop m).getD 1 0 = os.getD (m + 1) 0 := by rw [List.getD_eq_getElem?_getD, List.getD_eq_getElem?_getD, List.getElem?_drop]
  rw [ht, e0, e1] at h1
  obtain ⟨g1, g2⟩ := Jv1 h1
  refine ⟨by omega, g1, (List.getElem?_eq_some_iff.1 hx).1, ?_, g2, ⟨V4 ((s.drop A).take 4), true, ?_⟩⟩
  ·exact Hr
  ·rw [h3, ← ht, ← h4]; rfl
end
theorem Jlh {k n : Int} {ins : List Ty} (h0 : (JM k n ins s).2 = 0) : QN k n ins s = match qS k ins s (JM k n ins s).1 with | none => ([], 2) | some os => (os, 0) := by
 unfold QN qS
 rw [if_neg (by rw [h0]; decide)]
 by_cases h : (s.length : Int) < JV (Kg k ins (JM k n ins s).1)
 ·rw [if_pos h, if_pos h]
 ·rw [if_neg h, if_neg h]
  generalize Qy s (JV (Kg k ins (JM k n ins s).1)).toNat (Kg k ins (JM k n ins s).1) 0 (JV (Kg k ins (JM k n ins s).1)).toNat false = o; cases o <;> rfl
theorem Jli {k : Int} {ins : List Ty} {os : List Nat} (h : qS k ins s M = some os) : JV (Kg k ins M) ≤ (s.length : Int) ∧ Qy s (JV (Kg k ins M)).toNat (Kg k ins M) 0 (JV (Kg k ins M)).toNat false = some os := by
 unfold qS at h
 split at h
 ·cases h
 ·exact ⟨by omega, h⟩
theorem Jv2 (os : List Nat) (h : j < os.length) (sp : List Value) : W1 (os.map iV ++ sp) j = some (.int .i64 ((os.getD j 0 : Nat) : Int)) := by
 rw [Vd, List.getElem?_append_left Me, List.getElem?_map, List.getD_eq_getElem?_getD, List.getElem?_eq_getElem h]; rfl
open Classical in
theorem Jqa (a b c d e f g : α) (A E Y : List α) : (a :: b :: c :: d :: e :: f :: g :: ((A ++ E) ++ Y)).Perm (A ++ (a :: b :: c :: d :: e :: f :: g :: (E ++ Y))) := by
 exact Nr
open Classical in
theorem Jqb (a b c d e f g h : α) (F : List α) : (a :: b :: c :: d :: e :: f :: g :: h :: F).Perm (b :: c :: d :: e :: f :: g :: h :: a :: F) := by
 rw [List.perm_iff_count]; intro x; simp only [List.count_cons]; omega
set_option maxHeartbeats 2000000 in
theorem Jxu {k n : Int} {p : Pl} {ins : List Ty} (ht : Ty.In R (.mk k n p ins)) (hc : Va (.mk k n p ins) 0 = 0) (hk3 : k = 3 ∨ k = 4 ∨ k = 7) (hl : s.length ≤ 100000)
  (hrec : ∀ x ∈ ins, ∀ s : BS, s.length ≤ 100000 → PureT (α := VR (Ku x s).1) Tryz.prog 97 [x.val, Jw s].toArray (fun y => V6 y.x (Ku x s).2) [] (fun y => y.L) R) :
  PureT (α := VR (j0 k n ins (XK ins) s).1) Tryz.prog 152 [Ty.val (.mk k n p ins), Jw s].toArray (fun y => V6 y.x (j0 k n ins (XK ins) s).2) [] (fun y => y.L) R := by
 obtain ⟨hk8, ho, _, _⟩ := Qv hc
 have h8 : k ≠ 8 := by omega
 have hmX := ZC (s := s) hk8 ho hk3
 have hmk := jd (s := s) hk8 ho hk3
 have hgr := Jbg hmX
 have hit := Jp9 ht hc hk3 hl
 obtain ⟨M, hM⟩ : ∃ M, M = (JM k n ins s).1 := ⟨_, rfl⟩
 obtain ⟨eM, heM⟩ : ∃ e, e = (JM k n ins s).2 := ⟨_, rfl⟩
 rw [← hM, ← heM] at hit
 obtain ⟨TY, hTY⟩ : ∃ TY, TY = Kg k ins M := ⟨_, rfl⟩
 have hTl : TY.length = M := by rw [hTY, VG]
 have hbl := Ye TY
 obtain ⟨H, hH⟩ : ∃ H, H = (JV TY).toNat := ⟨_, rfl⟩
 have hHi : JV TY = (H : Int) := by omega
 obtain ⟨OR, hOR⟩ : ∃ OR, qS k ins s M = OR := ⟨_, rfl⟩
 refine J2 Tryz.func152 rfl rfl fun w => Nd fun r1 r2 => ?_; refine X6 6 [1] rfl rfl (Jb rfl rfl rfl (enters_of Tryz.func190 m5 rfl) hit oR (JQ 14 rfl (cD (fun h5 => ?_) fun h5 => ?_)))
 refine GW ?_; refine Nb ?_
 refine Nm ?_; refine gJ ?_; refine N7 fun w1 hs1 => ?_
 (have e1 : j0 k n ins (XK ins) s = (v0L, eM) := by unfold j0; rw [if_pos (by rw [← heM]; assumption), ← heM]
  exact ⟨⟨v0L, [], v0_in, by rw [e1]; rfl⟩, congrArg (fun z => Ending.returned (V6 v0L z)) (congrArg Prod.snd e1).symm, hs1.weakL (List.nil_sublist _)⟩)
 ·refine Gw ?_
  have hm0 : (JM k n ins s).2 = 0 := by omega
  have hM5 := (hmk hm0).1
  rw [← hM] at hM5
  have hX := hmX hm0
  rw [← hM] at hX
  have hoff := Jub (M := M) ht h8 m0 hX hl
  rw [hOR] at hoff
  have hpo := Jlh hm0
  rw [← hM, hOR] at hpo; refine QZ 4 [1] rfl rfl (JW (Rl := R) rfl rfl rfl (enters_of Tryz.func191 m5 rfl) hoff oR fun x => ?_)
  obtain ⟨orow, horow⟩ := x
  refine kZ ?_; refine JQ 14 rfl (cD (fun h10 => ?_) fun h10 => ?_)
  refine Gy ?_; refine gJ ?_; refine N7 fun w1 hs1 => ?_
  (obtain rfl := Jud ‹OR.isSome = false›
   simp only at hpo; rw [hpo, if_pos m7] at hgr
   have e1 : j0 k n ins (XK ins) s = (v0L, 2) := hgr
   exact ⟨⟨v0L, [], v0_in, by rw [e1]; rfl⟩, congrArg (fun z => Ending.returned (V6 v0L z)) (congrArg Prod.snd e1).symm, hs1.weakL (List.nil_sublist _)⟩)
  ·refine Gw ?_
   obtain ⟨os, rfl⟩ := Option.isSome_iff_exists.1 (show OR.isSome = true by assumption)
   obtain ⟨hHs, hofs⟩ := Jli hOR
   rw [← hTY] at hHs; rw [← hTY, ← hH] at hofs; simp only at hpo
   have hos := Jbo hofs
   obtain ⟨ro, co, so, rfl⟩ := row_some horow hos
   change rowOk 1 os.length (os.map iV) (some (ro, co, so)) at horow
   have hpse : Ym k n ins s = Kf TY 0 os := by unfold Ym; rw [hpo, ← hM, ← hTY]
   have hp0 : (QN k n ins s).2 = 0 := by rw [hpo]
   rw [if_neg (by rw [hp0]; decide)] at hgr
   have hpsl : (Ym k n ins s).length = M := by rw [hpse, Xu, hTl]
   refine H4 ?_; refine No ?_; refine HT fun r3 => ?_; refine JQ 19 rfl ?_; rw [hpse] at hgr; refine Jy (σ := Nat × Nat × Nat × List Vl × Vg × Jj) (fun q => q.1 ≤ M ∧ RInv s H TY (Kf TY 0 os) os q.1 q.2.1 q.2.2.1 ∧ q.2.1 ≤ H ∧ q.2.2.1 ≤ q.1 ∧ q.1 = q.2.2.2.1.length ∧ rowOk 7 q.1 (KC q.2.2.2.1) q.2.2.2.2.1 ∧ (∀ x ∈ q.2.2.2.1, Vl.In q.2.2.2.2.2 x) ∧ Vt (((Kf TY 0 os).take q.1).map (gq s)) = (q.2.2.2.1.map W0, 0)) (fun q => [(1, Jw s), (2, QR r1), (4, QR r2), (5, .int .i64 (M : Int)), (7, J3 os.length (some (ro, co, so))), (9, QR r3), (10, .int .i64 (q.2.1 : Int)), (11, .int .i64 (q.2.2.1 : Int)), (12, .int .i64 (q.1 : Int))]) (fun q => (r3, .cells #[.int .u64 0, .int .u64 0, .int .u64 0, .int .u64 0, .slice none 0 0, J3 q.1 q.2.2.2.2.1, .int .i64 0] 81 (0, 0)) :: (r2, .cells #[.int .u64 0, .int .u64 0, .int .u64 0, .int .u64 0, .slice none 0 0, .slice none 0 0, .int .i64 0, .int .i64 0] 119 (0, 0)) :: Vs r1 (.mk k n p ins) :: (ro, .cells (os.map iV ++ so).toArray 3 (0, 0)) :: (JL 81 (KC q.2.2.2.1) q.2.2.2.2.1 ++ q.2.2.2.2.2)) (fun _ _ _ => True) (fun q => M - q.1) (0, 0, 0, [], none, []) ⟨Nat.zero_le _, RInv.start hofs, Nat.zero_le _, Nat.le_refl _, rfl, ⟨rfl, rfl⟩, fun x hx => (nomatch hx), rfl⟩ (lK rfl) (List.Sublist.refl _) (fun _ _ h => h) ?_; rintro ⟨i, A, m, vs, row, E⟩ ⟨hi1, hinv, hAH, hmi, hvl, hrow, hin, hrun⟩; simp only at hi1 hinv hAH hmi hvl hrow hin hrun; change HC _ _ [(1, Jw s), (2, QR r1), (4, QR r2), (5, .int .i64 (M : Int)), (7, .slice (some ⟨ro, 0, none⟩) os.length co), (9, QR r3), (10, .int .i64 (A : Int)), (11, .int .i64 (m : Int)), (12, .int .i64 (i : Int))] ((r3, .cells #[.int .u64 0, .int .u64 0, .int .u64 0, .int .u64 0, .slice none 0 0, J3 i row, .int .i64 0] 81 (0, 0)) :: (r2, .cells #[.int .u64 0, .int .u64 0, .int .u64 0, .int .u64 0, .slice none 0 0, .slice none 0 0, .int .i64 0, .int .i64 0] 119 (0, 0)) :: Vs r1 (.mk k n p ins) :: (ro, .cells (os.map iV ++ so).toArray 3 (0, 0)) :: (JL 81 (KC vs) row ++ E)) _ _ _; refine JE 8 rfl (cD (fun h19 => ?_) fun h19 => ?_)
   ·refine kX ?_
    have hii : i < M := by omega
    have hti1 := ht.sub _ (Kw (hX i hii)).2
    have hin1 := yq (v := v0L) (i := i) (y := J0 k 0 ins i) ht (v0_in.mono (R' := R) (fun q hq => absurd hq List.not_mem_nil)) (fun e => absurd e h8) (Kw (hX i hii)).1
    have hxx : TY[i]? = some (J0 k 0 ins i) := by rw [hTY]; unfold Kg; rw [List.getElem?_map, List.getElem?_range hii]; rfl
    have hbd := hinv.bound hxx hHi
    have hbt := Yd (J0 k 0 ins i)
    have hbe := WM (J0 k 0 ins i)
    obtain ⟨y, hy⟩ : ∃ y : Nat, Wx (J0 k 0 ins i) = (y : Int) := ⟨_, (Int.toNat_of_nonneg m0).symm⟩
    rw [hy] at hbd hbt hbe; refine H4 ?_; refine Gp ?_; refine No ?_; refine QK rfl (Jb rfl rfl rfl Joh hin1 oR (Ql (cs := #[.int .i64 0, .int .i64 0, .slice none 0 0]) rfl rfl rfl rfl fun r9 => ?_)); refine NO ?_; refine JK 10 rfl (N8 ?_); refine Jb rfl rfl rfl zM (Wl hti1) oR (Gj ?_); refine cD (fun h25 => ?_) fun h25 => ?_
    ·refine GL ?_
     have hif : JA (J0 k 0 ins i) = true := ‹_›
     rw [if_pos hif] at hbe
     have hsz1 := XG hti1
     unfold WR at hsz1
     rw [if_pos hif, ← hbe] at hsz1
     obtain ⟨hq, hrv⟩ := hinv.fix hxx hif m0
     rw [show (JO (J0 k 0 ins i)).toNat = y by omega] at hq hrv
     obtain ⟨f, hfA⟩ : ∃ f, f = A := ⟨_, rfl⟩
     obtain ⟨f2, hf2⟩ : ∃ f2, f2 = A + y := ⟨_, rfl⟩
     obtain ⟨A2, hA2⟩ : ∃ A2, A2 = A + y := ⟨_, rfl⟩
     obtain ⟨m2, hm2⟩ : ∃ m2, m2 = m := ⟨_, rfl⟩
     rw [← hf2, ← hfA] at hq; rw [← hA2, ← hm2] at hrv
     have hAH2 : A2 ≤ H := by omega
     obtain ⟨_, hft, htl⟩ := Jp0 hp0 (List.mem_of_getElem? (hpse ▸ hq))
     simp only at hft htl; refine H4 ?_; refine N8 ?_; refine Jb rfl rfl rfl Jdf hsz1 oR (JK 10 rfl (Jk (show _ = Value.int .i64 ((f2 : Nat)) from congrArg (Value.int .i64) ma) (LR rfl (KV (kl := some (.i64, (A : Int))) (kh := some (.i64, (f2 : Int))) (m := A) (n := f2) rfl rfl rfl rfl rfl rfl m0 m0 (show _ = (s.take f2).drop f from by rw [hfA])) (Gi ?_)))); refine Jk ne (kR ?_)
     have hxm := (Kw (hX i hii)).2
     have ihx := hrec _ hxm ((s.take f2).drop f) nz
     have hbd0 := qn (J0 k 0 ins i) ((s.take f2).drop f)
     obtain ⟨ge, hge⟩ : ∃ g, (Ku (J0 k 0 ins i) ((s.take f2).drop f)).2 = g := ⟨_, rfl⟩
     rw [hge] at ihx; refine H4 ?_; refine N8 ?_; refine QK rfl (JW (Rl := R) rfl rfl rfl Js5 ihx oR fun y => (JY List.perm_append_comm ?_))
     obtain ⟨⟨ya, yb, yc, yd, ybits, ypb, yitems, ypi, ypick⟩, yL, yok, yer⟩ := y
     refine Jk me (LN rfl fun r4 => ?_)
     refine Nm ?_; refine Goc 10 [0] rfl rfl (cD (fun h31 => ?_) fun h31 => ?_)
     refine HI fun w1 hs1 => ?_
     (have hg0 : ge ≠ 0 := by assumption
      have e1 : (Kf TY 0 os).map (gq s) = ((Kf TY 0 os).take i).map (gq s) ++ gq s (J0 k 0 ins i, f, f2) :: ((Kf TY 0 os).drop (i + 1)).map (gq s) := by rw [← List.map_cons, ← KF hq, ← List.map_append, List.take_append_drop]
      have e2 := qk (r := ((Kf TY 0 os).drop (i + 1)).map (gq s)) (f := Ku (J0 k 0 ins i)) (s := (s.take f2).drop f) hrun (by rw [hge]; exact hg0)
      have e3 : (Vt ((Kf TY 0 os).map (gq s))).2 = ge := by rw [e1]; exact e2.trans hge
      rw [e3, if_pos hg0] at hgr
      exact ⟨⟨v0L, [], v0_in, by rw [hgr]; rfl⟩, congrArg (fun z => Ending.returned (V6 v0L z)) (congrArg Prod.snd hgr).symm, hs1.weakL (List.nil_sublist _)⟩)
     ·refine Gx ?_; refine LR rfl (Je (v := J3 i row) rfl (kn 2 rfl) rfl rfl) ?_
      refine LS 2 [0] rfl rfl (J7 (vs := [_]) (zs := [_, _, _, _, _, _, _]) (r := [_, _, _, _, _, _, _]) rfl rfl rfl rfl rfl rfl rfl rfl rfl mn rfl fun r5 => JY (Jqa ..) (JF (L0 := _ :: _ :: _ :: _ :: _ :: _ :: _ :: (E ++ yL)) (xs := KC vs) (row := row) (n := i) (sz := 7) (b := 88) (news := [_, _, _, _, _, _, _]) (List.Perm.refl _) rfl rfl rfl rfl (kn 0 rfl) rfl rfl rfl rfl rfl m7 rfl rfl rfl m7 hrow m0 m0 fun ra cap sp hra => ?_))
      refine DX ?_; refine Gc ?_; refine Nf ?_
      have hsn : ((Kf TY 0 os).take (i + 1)).map (gq s) = ((Kf TY 0 os).take i).map (gq s) ++ [gq s (J0 k 0 ins i, f, f2)] := by rw [Ke hq, List.map_append]; rfl
      have hgy : Ku (J0 k 0 ins i) ((s.take f2).drop f) = (W0 (Vl.mk ya yb yc yd ybits ypb yitems ypi ypick), 0) := Prod.ext yer.symm (hge.trans m0)
      have hvc : KC vs ++ Vl.cells (Vl.mk ya yb yc yd ybits ypb yitems ypi ypick) = KC (vs ++ [Vl.mk ya yb yc yd ybits ypb yitems ypi ypick]) := by unfold KC; rw [List.flatMap_append]; simp
      refine VI (Jqb ..) ?_
      exact Jr (i + 1, A2, m2, vs ++ [Vl.mk ya yb yc yd ybits ypb yitems ypi ypick], some (ra, cap, sp), E ++ yL) ⟨by simp only; omega, hrv, hAH2, by simp only; omega, by simp only [List.length_append, List.length_singleton]; omega, by simp only; rw [← hvc]; exact hra, fun z hz => by rcases List.mem_append.1 hz with hz | hz; exact (hin z hz).mono (fun q hq => List.mem_append_left _ hq); rw [List.mem_singleton.1 hz]; exact yok.mono (fun q hq => List.mem_append_right _ hq), by simp only; rw [hsn, List.map_append]; exact jg hrun hgy⟩ ml (.cons rfl (.cons rfl (.cons rfl (.cons rfl (.cons rfl (.cons rfl (.cons rfl (.cons (congrArg (fun z : Nat => some (Value.int .i64 (z : Int))) hm2.symm) (.cons rfl .nil))))))))) mX (fun _ _ h => h)
    ·refine GL ?_
     have hif : JA (J0 k 0 ins i) = false := ‹_›
     rw [hif, if_neg m7] at hbe
     obtain ⟨hml, hq, hrv⟩ := hinv.var hxx hif
     obtain ⟨f, hf1⟩ : ∃ f, f = os.getD m 0 := ⟨_, rfl⟩
     obtain ⟨f2, hf2⟩ : ∃ f2, f2 = os.getD (m + 1) 0 := ⟨_, rfl⟩
     obtain ⟨A2, hA2⟩ : ∃ A2, A2 = A + 4 := ⟨_, rfl⟩
     obtain ⟨m2, hm2⟩ : ∃ m2, m2 = m + 1 := ⟨_, rfl⟩
     rw [← hf1, ← hf2] at hq; rw [← hA2, ← hm2] at hrv
     have hAH2 : A2 ≤ H := by omega
     obtain ⟨_, hft, htl⟩ := Jp0 hp0 (List.mem_of_getElem? (hpse ▸ hq))
     simp only at hft htl
     refine JJ [] [(0, .pure), (1, .pure), (2, .pure), (3, .pure), (5, .pure), (6, .pure), (7, .pure), (8, .pure), (10, .pure)] 11 [0, 1, 2, 3, 4, 5, 6, 7, 8, 9, 10] m5 m5 m6 (Nn ?_); refine Dq ?_; refine gW ?_; refine Ji (k := 3) rfl rfl rfl rfl rfl (fun _ _ => Kc (j := m) (m := 1) (off' := m) rfl rfl rfl rfl m0 m0 m0) (KG (k := 4) rfl rfl rfl rfl rfl (Je (v := .int .i64 (f : Int)) rfl (kn 4 rfl) rfl (by rw [hf1]; exact Jv2 os (j := m) m0 so)) (Dt ?_)); refine GM ?_; refine Ji (k := 7) rfl rfl rfl rfl rfl (fun _ _ => (J1 rfl rfl rfl)) (VL (show _ = Value.int .i64 ((m + 1 : Nat) : Int) from congrArg (Value.int .i64) ma) (Ji (k := 8) rfl rfl rfl rfl rfl (fun _ _ => Kc (j := m + 1) (m := 1) (off' := m + 1) rfl rfl rfl rfl m0 m0 m0) (KG (k := 9) rfl rfl rfl rfl rfl (Je (v := .int .i64 (f2 : Int)) rfl (kn 4 rfl) rfl (by rw [hf2]; exact Jv2 os (j := m + 1) m0 so)) (Ji (k := 10) rfl rfl rfl rfl rfl (fun _ _ => KV (kl := some (.i64, (f : Int))) (kh := some (.i64, (f2 : Int))) (m := f) (n := f2) rfl rfl rfl rfl rfl rfl m0 m0 rfl) (Kk (Gi ?_)))))); refine Jk (show _ = Value.int .i64 ((m2 : Nat)) from congrArg (Value.int .i64) ma) (Gc ?_); refine Jk ne (kR ?_)
     have hxm := (Kw (hX i hii)).2
     have ihx := hrec _ hxm ((s.take f2).drop f) nz
     have hbd0 := qn (J0 k 0 ins i) ((s.take f2).drop f)
     obtain ⟨ge, hge⟩ : ∃ g, (Ku (J0 k 0 ins i) ((s.take f2).drop f)).2 = g := ⟨_, rfl⟩
     rw [hge] at ihx; refine H4 ?_; refine N8 ?_; refine QK rfl (JW (Rl := R) rfl rfl rfl Js5 ihx oR fun y => (JY List.perm_append_comm ?_))
     obtain ⟨⟨ya, yb, yc, yd, ybits, ypb, yitems, ypi, ypick⟩, yL, yok, yer⟩ := y
     refine Jk me (LN rfl fun r6 => ?_)
     refine Nm ?_; refine Goc 10 [0] rfl rfl (cD (fun h38 => ?_) fun h38 => ?_)
     refine HI fun w1 hs1 => ?_
     (have hg0 : ge ≠ 0 := by assumption
      have e1 : (Kf TY 0 os).map (gq s) = ((Kf TY 0 os).take i).map (gq s) ++ gq s (J0 k 0 ins i, f, f2) :: ((Kf TY 0 os).drop (i + 1)).map (gq s) := by rw [← List.map_cons, ← KF hq, ← List.map_append, List.take_append_drop]
      have e2 := qk (r := ((Kf TY 0 os).drop (i + 1)).map (gq s)) (f := Ku (J0 k 0 ins i)) (s := (s.take f2).drop f) hrun (by rw [hge]; exact hg0)
      have e3 : (Vt ((Kf TY 0 os).map (gq s))).2 = ge := by rw [e1]; exact e2.trans hge
      rw [e3, if_pos hg0] at hgr
      exact ⟨⟨v0L, [], v0_in, by rw [hgr]; rfl⟩, congrArg (fun z => Ending.returned (V6 v0L z)) (congrArg Prod.snd hgr).symm, hs1.weakL (List.nil_sublist _)⟩)
     ·refine Gx ?_; refine LR rfl (Je (v := J3 i row) rfl (kn 2 rfl) rfl rfl) ?_
      refine LS 2 [0] rfl rfl (J7 (vs := [_]) (zs := [_, _, _, _, _, _, _]) (r := [_, _, _, _, _, _, _]) rfl rfl rfl rfl rfl rfl rfl rfl rfl mn rfl fun r7 => JY (Jqa ..) (JF (L0 := _ :: _ :: _ :: _ :: _ :: _ :: _ :: (E ++ yL)) (xs := KC vs) (row := row) (n := i) (sz := 7) (b := 88) (news := [_, _, _, _, _, _, _]) (List.Perm.refl _) rfl rfl rfl rfl (kn 0 rfl) rfl rfl rfl rfl rfl m7 rfl rfl rfl m7 hrow m0 m0 fun ra cap sp hra => ?_))
      refine DX ?_; refine Gc ?_; refine Nf ?_
      have hsn : ((Kf TY 0 os).take (i + 1)).map (gq s) = ((Kf TY 0 os).take i).map (gq s) ++ [gq s (J0 k 0 ins i, f, f2)] := by rw [Ke hq, List.map_append]; rfl
      have hgy : Ku (J0 k 0 ins i) ((s.take f2).drop f) = (W0 (Vl.mk ya yb yc yd ybits ypb yitems ypi ypick), 0) := Prod.ext yer.symm (hge.trans m0)
      have hvc : KC vs ++ Vl.cells (Vl.mk ya yb yc yd ybits ypb yitems ypi ypick) = KC (vs ++ [Vl.mk ya yb yc yd ybits ypb yitems ypi ypick]) := by unfold KC; rw [List.flatMap_append]; simp
      refine VI (Jqb ..) ?_
      exact Jr (i + 1, A2, m2, vs ++ [Vl.mk ya yb yc yd ybits ypb yitems ypi ypick], some (ra, cap, sp), E ++ yL) ⟨by simp only; omega, hrv, hAH2, by simp only; omega, by simp only [List.length_append, List.length_singleton]; omega, by simp only; rw [← hvc]; exact hra, fun z hz => by rcases List.mem_append.1 hz with hz | hz; exact (hin z hz).mono (fun q hq => List.mem_append_left _ hq); rw [List.mem_singleton.1 hz]; exact yok.mono (fun q hq => List.mem_append_right _ hq), by simp only; rw [hsn, List.map_append]; exact jg hrun hgy⟩ ml (lK rfl) mX (fun _ _ h => h)
   ·refine Nv ?_
    have honeV : ([.int .u64 0, .int .u64 0, .int .u64 0, .int .u64 0, .slice none 0 0, J3 i row, .int .i64 0, .int .i64 0] : List Value).all QW = true := by cases row <;> rfl
    refine H4 ?_; refine LR rfl (Jm (xs := [.int .u64 0, .int .u64 0, .int .u64 0, .int .u64 0, .slice none 0 0, J3 i row, .int .i64 0]) (n := 7) rfl (kn 0 rfl) rfl rfl rfl) (LR rfl (Js (r := [.int .u64 0, .int .u64 0, .int .u64 0, .int .u64 0, .slice none 0 0, J3 i row, .int .i64 0, .int .i64 0]) rfl rfl) (Ju (k := 1) (n := 8) (ys := [.int .u64 0, .int .u64 0, .int .u64 0, .int .u64 0, .slice none 0 0, J3 i row, .int .i64 0, .int .i64 0]) rfl rfl rfl rfl rfl rfl rfl honeV rfl (HX ?_))); refine gz fun w1 hs1 => ?_
    (have e1 := hgr
     have hiM : i = M := by omega
     rw [List.take_of_length_le (by rw [Xu]; omega)] at hrun; rw [hrun, if_neg mf] at e1; rw [hvl] at hrow
     have hvr : J3 i row = Ky vs.length (QD row) := by rw [hvl]; exact (VE _ _ (fun h => by rw [h] at hrow; exact hrow.1)).symm
     exact ⟨⟨.mk 0 0 0 0 [] none vs (QD row) 0, JL 81 (KC vs) row ++ E, XM m0 (KY hrow m7) hin i0, by rw [e1, KB, VK]; rfl⟩, (congrArg (fun z => Ending.returned (Value.agg #[.int .u64 0, .int .u64 0, .int .u64 0, .int .u64 0, .slice none 0 0, z, .int .i64 0, .int .i64 0])) hvr).trans (congrArg (fun z => Ending.returned (V6 (.mk 0 0 0 0 [] none vs (QD row) 0) z)) (congrArg Prod.snd e1).symm), hs1.weakL (.cons _ (.cons _ (.cons _ (.cons _ (List.Sublist.refl _)))))⟩)
end Go.Proofs.YteceenlfegnigaaGreatDoor
