import Derived.Test.YteceenlfegnigaaGreatDoorZtPutsd
set_option maxRecDepth 100000
namespace Go.Proofs.YteceenlfegnigaaGreatDoor
set_option linter.all false
open Go.SL Go.RowKit Go.Shelf
variable {a : AcL} {af : Array Edge} {args : Array Operand} {at_ : Array TypeId} {cs : Array Value} {Y s : BS} {pr : BS × BS → Bool} {own rs : Bool} {Q : Exit → Act → World → Prop} {g : FuncId} {dp : Int} {L L' Lr R Rl : Ji} {slots xs : List (BS × BS)} {pa : List (Nat × Operand)} {accts : List AcL} {caps sp vs : List Value} {us yitems : List Vl} {α : Type} {ys : List α} {B N b c cap d e i j m r rb rv sz : Nat} {gd : Option (Nat × Bool)} {dst : Option Nat} {pb pi : Pl} {P : Program} {ps : String} {T t x : Ty} {q : Ty × Nat × Nat} {ty : TypeId} {row : Vk} {v y z : Vl} {w : World} {X : XP} {kf : α → BS} {LL : α → Ji} {f : α → List Value} {V : α → Value}
theorem Jta {c : Cx} {d : List Deferred} {l : Kj} {code : Code} (js : List Nat) (hn : js.Nodup) (hL : xm L js = L') (h : HCE c d l L' X code Q) : HCE c d l L X code Q := fun a w hf hs => h a w hf (hL ▸ hs.sel js hn)
theorem qD {σ τ : Type} {c3 : Cx} {d : List Deferred} {l : Kj} {Xb : XP} {I : σ → Prop} {LI : σ → Ji} {E : Code → τ → Prop} {LE : τ → Ji} {pc : List PanicEntry → Prop} (s : σ) (h : I s) (hL : L.Sublist (LI s) ∧ (LI s).Sublist L) : HQ c3 d l L Xb (vM c3 Xb I LI E LE pc .normal) := fun a w hf hs => ⟨s, h, hs.weakL hL.2⟩
theorem row_some {n : Nat} {xs : List Value} (h : rowOk sz n xs row) (h0 : 0 < n) : ∃ r cap sp, row = some (r, cap, sp) := by
 cases row with
 | none => have := h.1; omega
 | some q => obtain ⟨r, cap, sp⟩ := q; exact ⟨r, cap, sp, rfl⟩
def vY (s : BS) (TY : List Ty) (i : Nat) (pre : List Nat) : List (Ty × Nat × Nat) := KD (TY.take i) 0 (pre ++ [s.length])
structure PInv (s : BS) (H : Nat) (TY : List Ty) (i A la : Nat) (op : Int) (pre : List Nat) : Prop where
  le : i ≤ TY.length
  cv : pre.length = cV (TY.take i)
  opv : op = Vo (TY.take i)
  at_ : (A : Int) = Ke (TY.take i)
  off : QB s H TY 0 H false = (QB s H (TY.drop i) A la (decide (0 ≤ op))).map (pre ++ ·)
section
variable {s : BS} {H : Nat} {TY : List Ty} {i A la : Nat} {op : Int} {pre : List Nat} {x : Ty}
theorem PInv.start : PInv s H TY 0 0 H (-1) [] := ⟨Nat.zero_le _, rfl, rfl, rfl, by rw [List.drop_zero, show decide ((0 : Int) ≤ -1) = false from rfl]; cases QB s H TY 0 H false <;> rfl⟩
theorem Kp {l : List α} {x : α} (h : l[i]? = some x) : l.take (i + 1) = l.take i ++ [x] := by rw [List.take_add_one, h]; rfl
theorem KK {l : List α} {x : α} (h : l[i]? = some x) : l.drop i = x :: l.drop (i + 1) := by
 exact H1
theorem ZL (l : List Ty) : 0 ≤ Ke l := (jS l).1
theorem PInv.bound (h : PInv s H TY i A la op pre) (hx : TY[i]? = some x) (hH : Ke TY = (H : Int)) : (A : Int) + WN x ≤ H := by
 exact Ny
theorem PInv.len (h : PInv s H TY i A la op pre) : (vY s TY i pre).length = i := by unfold vY; rw [q9, List.length_take, Nat.min_eq_left h.le]
theorem PInv.fix (h : PInv s H TY i A la op pre) (hx : TY[i]? = some x) (hf : JC x = true) (hz : ∀ y ∈ TY, JC y = true → 0 ≤ JV y) : PInv s H TY (i + 1) (A + (JV x).toNat) la op pre ∧ vY s TY (i + 1) pre = vY s TY i pre ++ [(x, A, A + (JV x).toNat)] := by
 have h0 := hz x (List.mem_of_getElem? hx) hf
 have hlt := (List.getElem?_eq_some_iff.1 hx).1
 have h1 := h.off
 rw [KK hx, QB, if_pos hf] at h1; refine ⟨⟨hlt, ?_, ?_, ?_, h1⟩, ?_⟩
 ·rw [Kp hx, Ja6, if_pos hf]; exact h.cv
 ·rw [Kp hx, jf, if_pos hf]; exact h.opv
 ·exact GZ
 ·unfold vY
  rw [Kp hx, qB hf _ 0 _ (fun y hy => hz y (List.mem_of_mem_take hy)) A (by rw [h.at_]; simp)]
theorem PInv.bad (h : PInv s H TY i A la op pre) (hx : TY[i]? = some x) (hf : JC x = false) {v : Nat} (hv : v = WC ((s.drop A).take 4)) (hb : (¬ 0 ≤ op ∧ v ≠ H) ∨ v < la ∨ s.length < v) : QB s H TY 0 H false = none := by
 subst hv
 rw [h.off, KK hx, QB, if_neg (by rw [hf]; decide), if_pos (by
  rcases hb with ⟨h1, h2⟩ | h1
  ·exact .inl ⟨by simp [h1], h2⟩
  ·exact .inr h1)]
 rfl
theorem PInv.var (h : PInv s H TY i A la op pre) (hx : TY[i]? = some x) (hf : JC x = false) {v : Nat} (hv : v = WC ((s.drop A).take 4)) (h1 : 0 ≤ op ∨ v = H) (h2 : la ≤ v) (h3 : v ≤ s.length) :
  PInv s H TY (i + 1) (A + 4) v i (pre ++ [v]) ∧ (op = -1 → vY s TY (i + 1) (pre ++ [v]) = vY s TY i pre ++ [(x, v, s.length)]) ∧
   (∀ j : Nat, op = (j : Int) → ∃ x0 f0, (vY s TY i pre)[j]? = some (x0, f0, s.length) ∧ vY s TY (i + 1) (pre ++ [v]) = (vY s TY i pre).set j (x0, f0, v) ++ [(x, v, s.length)]) := by
 have hlt := (List.getElem?_eq_some_iff.1 hx).1
 have hn : ¬ JC x = true := by rw [hf]; decide
 have hlv : WC ((s.drop A).take 4) = v := hv.symm
 have ho := h.off
 rw [KK hx, QB, if_neg hn, hlv, if_neg (by
  rintro (⟨g1, g2⟩ | g | g)
  ·simp only [decide_eq_false_iff_not] at g1; omega
  ·omega
  ·omega), Option.map_map] at ho
 have hps : vY s TY (i + 1) (pre ++ [v]) = KD (TY.take i) 0 (pre ++ [v]) ++ [(x, v, s.length)] := by
  unfold vY
  rw [Kp hx, List.append_assoc]; exact qC hn v s.length _ 0 pre h.cv
 refine ⟨⟨hlt, ?_, ?_, ?_, ?_⟩, fun e => ?_, fun j e => ?_⟩
 ·rw [Kp hx, Ja6, if_neg hn, List.length_append, h.cv]; rfl
 ·rw [Kp hx, jf, if_neg hn, List.length_take, Nat.min_eq_left h.le]
 ·exact GC
 ·rw [ho, show decide (0 ≤ (i : Int)) = true by simp]
  congr 1
  funext r
  simp
 ·rw [hps, jg _ 0 (pre ++ [v]) (pre ++ [s.length]) (by rw [← h.opv]; exact e)]; rfl
 ·obtain ⟨x0, f0, g1, g2⟩ := yw v s.length (TY.take i) 0 pre j h.cv (by rw [← h.opv]; exact e)
  exact ⟨x0, f0, g1, by rw [hps, g2]; rfl⟩
theorem PInv.done (h : PInv s H TY TY.length A la op pre) : vY s TY TY.length pre = KD TY 0 (pre ++ [s.length]) ∧ QB s H TY 0 H false = if ¬ 0 ≤ op ∧ H ≠ s.length then none else some (pre ++ [s.length]) := by
 refine ⟨by unfold vY; rw [List.take_length], ?_⟩; rw [h.off, List.drop_length, QB]
 by_cases hc : ¬ 0 ≤ op ∧ H ≠ s.length
 ·rw [if_pos hc, if_pos ⟨by simp [hc.1], hc.2⟩]; rfl
 ·rw [if_neg hc, if_neg (by rintro ⟨g1, g2⟩; exact hc ⟨by simpa using g1, g2⟩)]; rfl
end
abbrev YV (k n : Int) (ins : List Ty) (s : BS) : List (Ty × Nat × Nat) := KD (Kv k ins (JW k n ins s).1) 0 (QY k n ins s).1
section
variable {k n : Int} {ins : List Ty} {s : BS} {M H : Nat}
theorem jV (h : (JW k n ins s).2 ≠ 0) : (QY k n ins s).2 = (JW k n ins s).2 := by unfold QY; rw [if_pos h]
theorem Jih (h0 : (JW k n ins s).2 = 0) (hM : M = (JW k n ins s).1) (hH : Ke (Kv k ins M) = (H : Int)) (h : s.length < H) : (QY k n ins s).2 = 2 := by
 unfold QY; rw [if_neg (by rw [h0]; decide), ← hM, hH, if_pos m0]
theorem Ja7 (h0 : (JW k n ins s).2 = 0) (hM : M = (JW k n ins s).1) (hH : Ke (Kv k ins M) = (H : Int)) (h : H ≤ s.length) : QY k n ins s = match QB s H (Kv k ins M) 0 H false with | none => ([], 2) | some os => (os, 0) := by
 unfold QY; rw [if_neg (by rw [h0]; decide), ← hM, hH, if_neg m0, Int.toNat_natCast]
 all_goals (cases QB s H (Kv k ins M) 0 H false <;> rfl)
theorem Jii (h0 : (JW k n ins s).2 = 0) (hM : M = (JW k n ins s).1) (hH : Ke (Kv k ins M) = (H : Int)) (h : H ≤ s.length) (ho : QB s H (Kv k ins M) 0 H false = none) : (QY k n ins s).2 = 2 := by
 rw [Ja7 h0 hM hH h, ho]
end
set_option maxHeartbeats 2000000 in
theorem Jtb {k n : Int} {p : Pl} {ins : List Ty} (ht : Ty.In R (.mk k n p ins)) (hc : V7 (.mk k n p ins) 0 = 0) (hk3 : k = 3 ∨ k = 4 ∨ k = 7) (hl : s.length ≤ 100000) :
    PureX (α := { row : Vk // rowOk 5 (YV k n ins s).length (XC (YV k n ins s)) row }) Tryz.prog 147 [Ty.val (.mk k n p ins), Js s].toArray ((QY k n ins s).2 = 0) (fun v => (QY k n ins s).2 ≠ 0 ∧ v = zP (QY k n ins s).2) (fun x => Jx (YV k n ins s).length x.1) (fun x => JJ 162 (XC (YV k n ins s)) x.1) R := by
  obtain ⟨hk8, ho, _, _⟩ := QT hc
  have hmny := Jwm ht hc hk3 hl
  have hmok := vX (s := s) hk8 ho hk3
  have hmX := yv (s := s) hk8 ho hk3
  obtain ⟨M, hM⟩ : ∃ M, M = (JW k n ins s).1 := ⟨_, rfl⟩
  rw [← hM] at hmny hmok hmX
  obtain ⟨TY, hTY⟩ : ∃ TY, TY = Kv k ins M := ⟨_, rfl⟩
  have hTl : TY.length = M := by rw [hTY, X9]
  have hzz : ∀ z ∈ TY, JC z = true → 0 ≤ JV z := fun z _ hz => by have := jU hz; omega
  have hbl := ZL TY
  obtain ⟨H, hH⟩ : ∃ H, H = (Ke TY).toNat := ⟨_, rfl⟩
  have hHi : Ke TY = (H : Int) := by omega
  have hHi' : Ke (Kv k ins M) = (H : Int) := by rw [← hTY]; exact hHi
  refine Jaj Tryz.func147 rfl rfl fun w => Wf fun K1 hK1 => JX (LN rfl fun r1 => (LN rfl fun r2 => ?_)); refine QV rfl (KE (hK1 _ _ _ _ ?_)); refine Wf fun K2 hK2 => JX (LS 2 [1, 0] rfl rfl ?_); refine KN rfl rfl rfl (enters_of Tryz.func185 m5 rfl) hmny oR (fun hm0 _ => ?_) (fun v hv => Qk rfl rfl (by rw [jV hv.1]; exact hv))
  have hM5 := (hmok hm0).1
  have hX := hmX hm0
  have hti := fun i (h : i < M) => ht.sub _ (Qp (hX i h)).2
  have hbg := Jdv ht (m := M) m0 hX
  rw [hHi'] at hbg; refine QV rfl (KE (hK2 _ _ _ _ ?_)); refine Wf fun K3 hK3 => JX (LS 2 [1] rfl rfl (Jc rfl rfl rfl (enters_of Tryz.func163 m5 rfl) hbg oR ?_)); refine LN rfl fun r3 => ?_
  refine Ng ?_; refine KE (hK3 _ _ _ _ ?_); refine Wf fun K4 hK4 => JX (LS 2 [0, 1] rfl rfl (LR rfl (JQ rfl rfl) ?_)); refine WR rfl (KN rfl rfl rfl ZP (VE (_) 2) oN (fun hok _ => ?_) (fun v hv => Qk rfl rfl (Wz (Jih hm0 hM hHi' nM) m6 hv)))
  have hHl : H ≤ s.length := by have := Z1.mp hok; omega
  refine KE (hK4 _ _ _ _ ?_); refine Wf fun K5 hK5 => JX (LN rfl fun r4 => ?_); refine KE (hK5 _ _ _ _ ?_); refine Wf fun K6 hK6 => ?_
  refine JU [(r3, .cells #[.int .i64 (H : Int)] 3 (0, 0))] [(0, .pure), (1, .grow (Wb xy (.cells #[.int .i64 0] 3 (0, 0)))), (2, .grow (Wb xy (.cells #[.int .i64 0] 3 (0, 0)))), (3, .grow (Wb xy (.cells #[.int .i64 0] 3 (0, 0)))), (4, .turn), (5, .turn), (6, .turn)] 7 [0, 1, 2, 3, 4, 5, 6] m5 m5 m7 (Jm (k := 0) rfl rfl rfl rfl rfl (fun _ hS => (Jd rfl (.inl (hS _ (Kq (n := 0) rfl))) rfl rfl)) (Yo (k := 1) (cs := #[_]) rfl rfl rfl rfl rfl rfl fun r5 => Yo (k := 2) (cs := #[_]) rfl rfl rfl rfl rfl rfl fun r6 => Yo (k := 3) (cs := #[_]) rfl rfl rfl rfl rfl rfl fun r7 => ?_))
  refine WG (k := 4) (q := 2) rfl rfl rfl rfl rfl rfl rfl rfl rfl mf mg m7 ?_
  refine WG (k := 5) (q := 1) rfl rfl rfl rfl rfl rfl rfl rfl rfl mf mg m7 ?_
  refine WG (k := 6) (q := 0) rfl rfl rfl rfl rfl rfl rfl rfl rfl mf mg m7 (Kz (KE (hK6 _ _ _ _ ?_))); refine Jho fun K7 hK7 => Wf fun K8 hK8 => JX (LS 2 [6] rfl rfl (Vp rfl rfl rfl Jns (Jay (.mk k n p ins) (M : Int)) fun pp => ?_))
  obtain ⟨ra, rb⟩ := pp
  change HL _ _ _ (jb rb M :: VK ra (.mk k n p ins) :: _) _ _ _ _; refine KE (hK8 _ _ _ _ ?_); refine Jjx (Jta [4, 3, 2, 5, 0, 1, 6, 7, 8] (L' := [_, _, _, _, _, _, _, _, _]) m6 rfl ?_)
  refine Jjy (τ := Unit) (fun ch => ∃ v, ((QY k n ins s).2 ≠ 0 ∧ v = zP (QY k n ins s).2) ∧ ch = wP v) (fun i (q : Nat × Nat × Nat × Int × Vk × List Nat) => q.1 = i ∧ PInv s H TY q.1 q.2.1 q.2.2.1 q.2.2.2.1 q.2.2.2.2.2 ∧ rowOk 5 q.1 (XC (vY s TY q.1 q.2.2.2.2.2)) q.2.2.2.2.1) (fun q => (r5, .cells #[.int .i64 (q.2.1 : Int)] 3 (0, 0)) :: (r6, .cells #[.int .i64 (q.2.2.1 : Int)] 3 (0, 0)) :: (r7, .cells #[.int .i64 q.2.2.2.1] 3 (0, 0)) :: (r4, .cells #[Jx q.1 q.2.2.2.2.1] 159 (0, 0)) :: JJ 162 (XC (vY s TY q.1 q.2.2.2.2.2)) q.2.2.2.2.1) (fun _ _ => False) (fun _ => []) [jb rb M, VK ra (.mk k n p ins), _, _, _] (0, 0, H, -1, none, []) rfl rfl Jnx (Jo4 ht m0 hX ra rb) mw rfl (fun q hq => by rcases List.mem_cons.1 hq with rfl | hq; exact .inl me; rcases List.mem_cons.1 hq with rfl | hq; exact .inl me; exact .inr hq) rfl ⟨rfl, PInv.start, rfl, rfl⟩ ?_ ?_ ?_ ?_
  · rintro q Xr Xb w3 i _ _ ⟨i2, A, la, op, row, pre⟩ ⟨hii, rfl, rfl⟩ ⟨he, hinv, hrow⟩ Kr hKr
    simp only at he hinv hrow; subst he
    have hti1 := hti i2 hii
    have hxx : TY[i2]? = some (JE k 0 ins i2) := by rw [hTY]; unfold Kv; rw [List.getElem?_map, List.getElem?_range hii]; rfl
    have hsz := vQ hti1
    have hbd := hinv.bound hxx hHi
    have hbt := vR (JE k 0 ins i2)
    have hbe := Jax (JE k 0 ins i2)
    unfold itV
    obtain ⟨x, hx⟩ : ∃ x, x = JE k 0 ins i2 := ⟨_, rfl⟩
    rw [← hx] at hti1 hxx hsz hbd hbt hbe ⊢
    obtain ⟨y, hy⟩ : ∃ y : Nat, WN x = (y : Int) := ⟨_, (Int.toNat_of_nonneg m0).symm⟩
    rw [hy] at hsz hbd hbt hbe
    obtain ⟨xk, xn, xp, xi⟩ := x
    refine Wm fun K9 hK9 => JX (QV rfl (KE (hK9 _ _ _ _ ?_))); refine JX (LN rfl fun r8 => ?_)
    refine Qs (k := 0) (n := 3) (cs' := #[_, _, _]) (vs := #[_, _, _]) rfl rfl rfl rfl rfl rfl rfl mo rfl mg (KE (hKr _ _ ?_)); clear hKr; refine we (Wm fun K10 hK10 => JX (LR rfl (Jg (xs := Ty.cells (.mk xk xn xp xi)) (n := 3) rfl (kn 0 rfl) rfl rfl (Ty.len _)) ?_)); refine Jc rfl rfl rfl Jhu hsz (fun q hq => Or.inr (List.mem_append_right _ hq)) (LS 5 [] rfl rfl (KE (hK10 _ _ _ _ ?_))); refine Wm fun K11 hK11 => JX (LR rfl (Jg (xs := Ty.cells (.mk xk xn xp xi)) (n := 3) rfl (kn 0 rfl) rfl rfl (Ty.len _)) (LS 4 [1, 1] rfl rfl (Jn mu (LR rfl (J8 (r := [_, _, _, _, _]) rfl rfl) (LN rfl fun r9 => ?_)))))
    refine Ng ?_; refine KE (hK11 _ _ _ _ ?_); refine Wm fun K12 hK12 => Wm fun K13 hK13 => JX (ko ?_); refine KE (hK13 _ _ _ _ ?_); refine cD (fun g => ?_) fun g => ?_
    · refine Wm fun K15 hK15 => ?_
      have hff : JC (Ty.mk xk xn xp xi) = false := ‹_›
      rw [hff, if_neg m6] at hbe; refine JX (LR rfl (Jd rfl (J2 (k := 3) rfl) rfl rfl) (LR rfl (Jd rfl (kn 2 rfl) rfl rfl) ?_)); refine LR rfl (V9 (kl := some (.i64, (A : Int))) (kh := none) (m := A) (n := s.length) rfl rfl rfl rfl rfl rfl m0 m0 (show _ = s.drop A from by rw [List.take_length])) (J6 rfl rfl rfl Jnu (Jow (s := s.drop A) (by rw [List.length_drop]; omega)) ?_)
      obtain ⟨v, hv⟩ : ∃ v, v = WC ((s.drop A).take 4) := ⟨_, rfl⟩
      rw [← hv]; refine LS 1 [] rfl rfl ?_
      refine Ng ?_; refine KE (hK15 _ _ _ _ ?_); refine Wm fun K16 hK16 => JX (LS 5 [0, 3] rfl rfl ?_)
      refine J0 55 rfl (fun gb => ?_) (fun gb => ?_) <;> (try simp only [ZZ] at gb) <;> first | (refine LR rfl (J7 rfl rfl rfl) ?_) | (refine LK rfl ?_)
      all_goals refine NU ?_
      all_goals first
        | (refine LR rfl (Jd rfl (J2 (k := 3) rfl) rfl rfl) ?_)
        | (refine LK rfl ?_)
      all_goals first
        | (refine LR rfl (JQ rfl rfl) ?_)
        | (refine LK rfl ?_)
      all_goals refine LW 3 [] rfl rfl ?_
      all_goals first
        | (refine LK rfl ?_)
        | (refine J0 62 rfl (fun gb => ?_) (fun gb => ?_) <;> (try simp only [ZZ] at gb) <;> first | (refine LR rfl (Jd rfl (kn 0 rfl) rfl rfl) ?_) | (refine LR rfl (Jd rfl (kn 1 rfl) rfl rfl) ?_) | (refine LR rfl (Jd rfl (kn 2 rfl) rfl rfl) ?_) | (refine LR rfl (Jd rfl (kn 3 rfl) rfl rfl) ?_) | (refine LR rfl (Jd rfl (kn 4 rfl) rfl rfl) ?_) | (refine LR rfl (Jd rfl (kn 5 rfl) rfl rfl) ?_) | (refine LR rfl (Jd rfl (kn 6 rfl) rfl rfl) ?_) | (refine LR rfl (Jd rfl (J2 (k := 0) rfl) rfl rfl) ?_) | (refine LR rfl (Jd rfl (J2 (k := 1) rfl) rfl rfl) ?_) | (refine LR rfl (Jd rfl (J2 (k := 2) rfl) rfl rfl) ?_) | (refine LR rfl (Jd rfl (J2 (k := 3) rfl) rfl rfl) ?_) | (refine LR rfl (Jd rfl (J2 (k := 4) rfl) rfl rfl) ?_) | (refine LK rfl ?_))
      all_goals refine gr ?_
      all_goals first
        | (refine LK rfl ?_)
        | (refine J0 65 rfl (fun gb => ?_) (fun gb => ?_) <;> (try simp only [ZZ] at gb) <;> first | (refine LR rfl (J7 rfl rfl rfl) ?_) | (refine LK rfl ?_))
      all_goals refine NU ?_
      all_goals first
        | (refine LR rfl (Jd rfl (J2 (k := 2) rfl) rfl rfl) ?_)
        | (refine LK rfl ?_)
      all_goals refine LW 3 [] rfl rfl ?_
      all_goals refine KN rfl rfl rfl ZP (VE (_) 2) oN (fun hok _ => ?_) (fun v1 hv1 => by first | exact Bool.noConfusion hv1.1 | ((repeat (first | refine Jm8 ?_ | refine Jjs ?_)); exact Jjv ⟨v1, Wz (Jii hm0 hM hHi' hHl (by rw [← hTY]; exact hinv.bad hxx hff hv (by first | (refine .inr (.inl ?_); omega) | (refine .inr (.inr ?_); omega) | (refine .inl ⟨?_, fun e => ?_⟩; omega; have := Z4.1 hv1.1; omega)))) m6 hv1, rfl⟩))
      all_goals try exact Bool.noConfusion hok
      all_goals refine KE ?_
      all_goals (
       refine hK16 _ _ _ _ (Wm fun K30 hK30 => Wm fun K31 hK31 => ?_)
       obtain ⟨hvi, hvn, hvj⟩ := hinv.var hxx hff hv (by first | (left; omega) | (right; have := Z3.1 hok; omega)) m0 m0
       refine JX (LS 2 [4] rfl rfl ?_); refine KE (hK31 _ _ _ _ ?_); refine cD (fun g => ?_) fun g => ?_
       obtain ⟨j, hj0⟩ : ∃ j : Nat, op = (j : Int) := ⟨op.toNat, by omega⟩
       have hj : j < i2 := by have := hinv.opv; have := Yy (TY.take i2); rw [List.length_take, Nat.min_eq_left hinv.le] at this; omega
       obtain ⟨rr, cap, sp, rfl⟩ := row_some hrow m0
       obtain ⟨x0, f0, g1, g2⟩ := hvj j hj0
       have hjp : j * 5 + 4 < (XC (vY s TY i2 pre)).length := by rw [Jd9, hinv.len]; omega
       have hjl : j * 5 + 4 < (XC (vY s TY i2 pre) ++ sp).length := by rw [List.length_append]; omega
       have hrowJ : rowOk 5 i2 (XC ((vY s TY i2 pre).set j (x0, f0, v))) (some (rr, cap, sp)) := ⟨by rw [Jd9, List.length_set, hinv.len], hrow.2⟩
       refine JX (LR rfl (Jd (v := Jx i2 (some (rr, cap, sp))) rfl (kn 5 rfl) rfl rfl) (LR rfl (Jd rfl (kn 4 rfl) rfl rfl) ?_))
       refine LS 2 [0] rfl rfl (LR rfl (Je3 (row := some (rr, cap, sp)) (j := j) (m := 5) (off' := j * 5) rfl hrow rfl rfl rfl hj0 hj rfl) (LR rfl (JD (off' := j * 5 + 4) rfl rfl rfl) (Kh (k := 6) (cs' := (XC ((vY s TY i2 pre).set j (x0, f0, v)) ++ sp).toArray) rfl rfl rfl rfl rfl rfl (by rw [List.getElem?_toArray, List.getElem?_eq_getElem hjl]; rfl) (Jvg _) (by rw [List.setIfInBounds_toArray, List.set_append_left _ _ hjp, Jea v g1]) rfl ?_))); refine KE (hK30 _ _ _ _ ?_); refine kK ?_; refine Wm fun K33 hK33 => JX (LR rfl (Jd (v := Jx i2 (some (rr, cap, sp))) rfl (kn 5 rfl) rfl rfl) (GJ ?_)); refine JB (vs := [_]) (zs := [_, _, _, _, _]) (r := [_, _, _, _, _]) rfl rfl rfl rfl rfl rfl rfl rfl rfl mi rfl fun r10 => JF (L0 := [_, _, _, _, _, _, _]) (xs := XC ((vY s TY i2 pre).set j (x0, f0, v))) (row := some (rr, cap, sp)) (n := i2) (sz := 5) (b := 56) (news := [_, _, _, _, _]) (List.perm_append_comm (l₁ := [_, _, _, _, _, _, _])) rfl rfl rfl rfl (kn 0 rfl) rfl rfl rfl rfl rfl m6 rfl rfl rfl m6 hrowJ m0 m0 fun ra2 cap2 sp2 hra => gk ?_; refine KE (hK33 _ _ _ _ ?_); refine Gq ?_
       (obtain rfl : y = 4 := by omega
        exact qD (i2 + 1, A + 4, v, (i2 : Int), some (ra2, cap2, sp2), pre ++ [v]) ⟨rfl, hvi, by simp only; rw [g2, Xo]; exact hra⟩ (by simp only; rw [g2, Xo]; exact ⟨List.Sublist.refl _, List.Sublist.refl _⟩))
       refine vt (hK30 _ _ _ _ ?_); refine kK ?_; refine Wm fun K34 hK34 => JX (LR rfl (Jd (v := Jx i2 row) rfl (kn 5 rfl) rfl rfl) (GJ ?_)); refine JB (vs := [_]) (zs := [_, _, _, _, _]) (r := [_, _, _, _, _]) rfl rfl rfl rfl rfl rfl rfl rfl rfl mi rfl fun r11 => JF (L0 := [_, _, _, _, _, _, _]) (xs := XC (vY s TY i2 pre)) (row := row) (n := i2) (sz := 5) (b := 56) (news := [_, _, _, _, _]) (List.perm_append_comm (l₁ := [_, _, _, _, _, _, _])) rfl rfl rfl rfl (kn 0 rfl) rfl rfl rfl rfl rfl m6 rfl rfl rfl m6 hrow m0 m0 fun ra2 cap2 sp2 hra => gk ?_; refine KE (hK34 _ _ _ _ ?_); refine JX (LS 3 [4] rfl rfl ?_); refine Jn mu ?_
       refine Kh (k := 4) rfl rfl rfl rfl rfl rfl rfl rfl mf mg (KE (Yh (QE [4, 5, 6, 7, 0] (L' := [_, _, _, _, _]) m6 rfl ?_)))
       (obtain rfl : y = 4 := by omega
        have g3 := hvn (by have := hinv.opv; have := Yy (TY.take i2); omega)
        exact qD (i2 + 1, A + 4, v, (i2 : Int), some (ra2, cap2, sp2), pre ++ [v]) ⟨rfl, hvi, by simp only; rw [g3, Xo]; exact hra⟩ (by simp only; rw [g3, Xo]; exact ⟨List.Sublist.refl _, List.Sublist.refl _⟩))
       skip)
    refine vt (hK12 _ _ _ _ ?_); refine Wm fun K35 hK35 => JX (LR rfl (Jd (v := Jx i2 row) rfl (kn 5 rfl) rfl rfl) (GJ ?_)); refine JB (vs := [_]) (zs := [_, _, _, _, _]) (r := [_, _, _, _, _]) rfl rfl rfl rfl rfl rfl rfl rfl rfl mi rfl fun r12 => JF (L0 := [_, _, _, _, _, _, _]) (xs := XC (vY s TY i2 pre)) (row := row) (n := i2) (sz := 5) (b := 56) (news := [_, _, _, _, _]) (List.perm_append_comm (l₁ := [_, _, _, _, _, _, _])) rfl rfl rfl rfl (kn 0 rfl) rfl rfl rfl rfl rfl m6 rfl rfl rfl m6 hrow m0 m0 fun ra2 cap2 sp2 hra => gk ?_; refine KE (hK35 _ _ _ _ ?_); refine Gq ?_
    (have hfx : JC (Ty.mk xk xn xp xi) = true := ‹_›
     rw [hfx, if_pos rfl] at hbe
     obtain ⟨f1, f2⟩ := hinv.fix hxx hfx hzz
     rw [show (JV (Ty.mk xk xn xp xi)).toNat = y by omega] at f1 f2
     exact qD (i2 + 1, A + y, la, op, some (ra2, cap2, sp2), pre) ⟨rfl, f1, by simp only; rw [f2, Xo]; exact hra⟩ (by simp only; rw [f2, Xo]; exact ⟨List.Sublist.refl _, List.Sublist.refl _⟩))
  · rintro D i ⟨i2, A, la, op, row, pre⟩ hfi ⟨he, hinv, hrow⟩
    simp only at he hinv hrow
    have hin : i = M := hfi
    have he2 : i2 = TY.length := by omega
    subst he2
    have hfin := hinv.done
    refine Yh (hK7 _ _ _ _ ?_); refine Wf fun K36 hK36 => JX (LR rfl (Jd (v := .int .i64 op) rfl (kn 3 rfl) rfl rfl) (LS 2 [] rfl rfl ?_))
    refine J0 96 rfl (fun gb => ?_) (fun gb => ?_) <;> (try simp only [ZZ] at gb) <;> first | (refine LR rfl (Jd (v := .int .i64 (H : Int)) rfl (Or.inl (List.mem_cons_of_mem _ (List.mem_append_right _ (List.mem_cons_of_mem _ (List.mem_cons_of_mem _ List.mem_cons_self))))) rfl rfl) ?_) | (refine LK rfl ?_)
    all_goals first
      | (refine LR rfl (Jd (v := Js s) rfl (Or.inl (List.mem_cons_of_mem _ (List.mem_append_right _ (List.mem_cons_of_mem _ (List.mem_cons_of_mem _ (List.mem_cons_of_mem _ List.mem_cons_self)))))) rfl rfl) ?_)
      | (refine LK rfl ?_)
    all_goals first
      | (refine LR rfl (JQ rfl rfl) ?_)
      | (refine LK rfl ?_)
    all_goals refine gr ?_
    all_goals refine KN rfl rfl rfl ZP (VE (_) 2) oN (fun hok _ => ?_) (fun v hv => by first | exact Bool.noConfusion hv.1 | exact Jc4 (k := 0) rfl rfl (Qk rfl rfl (Wz (Jii hm0 hM hHi' hHl (by rw [← hTY]; exact (hfin.2).trans (if_pos ⟨by omega, fun e => by have := Z4.1 hv.1; omega⟩))) m6 hv)))
    all_goals refine KE ?_
    all_goals (
     refine hK36 _ _ _ _ (Wf fun K41 hK41 => JX (LR rfl (Jd (v := Jx TY.length row) rfl (kn 4 rfl) rfl rfl) (QV rfl ?_))); refine KE (hK41 _ _ _ _ ?_); refine Jna (Jk5 ?_)
     have hpo := Ja7 hm0 hM hHi' hHl
     rw [← hTY, hfin.2, if_neg (by first | (rintro ⟨g1, g2⟩; omega) | (rintro ⟨g1, g2⟩; have := Z3.1 hok; omega))] at hpo; simp only at hpo
     have hps : YV k n ins s = vY s TY TY.length pre := by unfold YV; rw [hpo, ← hM, ← hTY, hfin.1]
     rw [hps]; refine H2 ?_; refine Jj rfl rfl (.cons (Jp rfl) .nil) (fun w1 hs1 => ?_); exact .inl ⟨by rw [hpo], ⟨row, by rw [hinv.len]; exact hrow⟩, congrArg (fun m => Ending.returned (Jx m row)) hinv.len.symm, hs1.weakL (.cons _ (.cons _ (.cons _ (.cons _ (.cons _ (List.sublist_append_left _ _))))))⟩
     skip)
  exact kw
  · rintro D _ ⟨v, hv, rfl⟩
    exact Jc4 (k := 0) rfl rfl (Qk rfl rfl hv)
open Go.Proofs (Enters enters_of)
theorem zR : ∀ {l : List (Gf × BS)} {vs : List Vl} {f : Gf} {s : BS} {v : Vl}, VB l = (vs, 0) → f s = (v, 0) → VB (l ++ [(f, s)]) = (vs ++ [v], 0)
 | [], vs, f, s, v, h, hv => by
  rw [VB] at h
  obtain rfl := (Prod.mk.inj h).1
  rw [List.nil_append, VB, VB, hv, if_neg me, if_neg me]; rfl
 | (f', s') :: l, vs, f, s, v, h, hv => by
  rw [VB] at h
  by_cases h1 : (f' s').2 ≠ 0
  ·rw [if_pos h1] at h; exact absurd (Prod.mk.inj h).2 h1
  rw [if_neg h1] at h
  by_cases h2 : (VB l).2 ≠ 0
  ·rw [if_pos h2] at h; exact absurd (Prod.mk.inj h).2 h2
  rw [if_neg h2] at h
  obtain rfl := (Prod.mk.inj h).1
  have ih := zR (l := l) (vs := (VB l).1) (Prod.ext rfl (Decidable.not_not.1 h2)) hv
  rw [List.cons_append, VB, if_neg h1, ih, if_neg me]; rfl
theorem Jeb : ∀ {l r : List (Gf × BS)} {vs : List Vl} {f : Gf} {s : BS}, VB l = (vs, 0) → (f s).2 ≠ 0 → (VB (l ++ (f, s) :: r)).2 = (f s).2
 | [], r, vs, f, s, _, hv => by rw [List.nil_append, VB, if_pos hv]
 | (f', s') :: l, r, vs, f, s, h, hv => by
  rw [VB] at h
  by_cases h1 : (f' s').2 ≠ 0
  ·rw [if_pos h1] at h; exact absurd (Prod.mk.inj h).2 h1
  rw [if_neg h1] at h
  by_cases h2 : (VB l).2 ≠ 0
  ·rw [if_pos h2] at h; exact absurd (Prod.mk.inj h).2 h2
  have ih := Jeb (r := r) (l := l) (vs := (VB l).1) (Prod.ext rfl (Decidable.not_not.1 h2)) hv
  rw [List.cons_append, VB, if_neg h1, if_pos (by rw [ih]; exact hv)]; exact ih
theorem yx {s : BS} {H : Nat} (hH : H ≤ s.length) : ∀ {ts : List Ty} {a la : Nat} {op : Bool} {os : List Nat}, QB s H ts a la op = some os → la ≤ s.length → (op = false → la = H) → (∀ x ∈ ts, JC x = true → 0 ≤ JV x) → (a : Int) + Ke ts = H → ∀ q ∈ KD ts a os, q.2.1 ≤ q.2.2 ∧ q.2.2 ≤ s.length
 | [], _, _, _, _, _, _, _, _, _, q, hq => by rw [KD] at hq; cases hq
 | x :: xs, a, la, op, os, h, hla, hop, hz, hb, q, hq => by
  have hz2 : ∀ y ∈ xs, JC y = true → 0 ≤ JV y := fun y hy => hz y (List.mem_cons_of_mem _ hy)
  have hn := ZL xs
  rw [Ke, WN] at hb; rw [QB] at h; rw [KD] at hq
  by_cases hf : JC x = true
  ·rw [if_pos hf] at h hb hq
   have h0 := hz x List.mem_cons_self hf
   rcases List.mem_cons.1 hq with rfl | hq
   ·simp only; omega
   ·exact yx hH h hla hop hz2 m0 q hq
  ·rw [if_neg hf] at h hb hq
   split at h
   ·cases h
   ·rename_i h1
    obtain ⟨r, h2, rfl⟩ := Option.map_eq_some_iff.1 h
    obtain ⟨o, r2, rfl, g1, g2, _⟩ := vV h2 m0 (fun h => by cases h)
    rcases List.mem_cons.1 hq with rfl | hq
    ·exact ⟨g1, g2⟩
    ·exact yx hH h2 m0 (fun h => by cases h) hz2 m0 q hq
def gq (s : BS) (q : Ty × Nat × Nat) : Gf × BS := (KJ q.1, (s.take q.2.2).drop q.2.1)
theorem jW {α β γ : Type} (f : α → β) (g : α → γ) : ∀ l : List α, (l.map f).zip (l.map g) = l.map fun a => (f a, g a)
 | [] => rfl
 | x :: xs => by rw [List.map_cons, List.map_cons, List.zip_cons_cons, jW f g xs]; rfl
theorem Jtc {k n : Int} {ins : List Ty} (hX : (JW k n ins s).2 = 0 → ∀ i, i < (JW k n ins s).1 → VX k 0 i < ins.length) :
  Ja4 k n ins (YU ins) s = if (QY k n ins s).2 ≠ 0 then (v0L, (QY k n ins s).2) else if (VB ((YV k n ins s).map (gq s))).2 ≠ 0 then (v0L, (VB ((YV k n ins s).map (gq s))).2) else (KI (VB ((YV k n ins s).map (gq s))).1 0, 0) := by
 unfold Ja4
 by_cases hm : (JW k n ins s).2 ≠ 0
 ·rw [if_pos hm, if_pos (by rw [jV hm]; exact hm), jV hm]
 rw [if_neg hm]
 have hm0 := Decidable.not_not.1 hm
 have hX := hX hm0
 unfold YV QY
 rw [if_neg hm]
 by_cases hb : (s.length : Int) < Ke (Kv k ins (JW k n ins s).1)
 ·rw [if_pos hb, if_pos hb, if_pos me]
 rw [if_neg hb, if_neg hb]
 generalize (JW k n ins s).1 = M at *
 cases QB s (Ke (Kv k ins M)).toNat (Kv k ins M) 0 (Ke (Kv k ins M)).toNat false with
 | none => simp
 | some os =>
  simp only [ne_eq, not_true_eq_false, if_false]
  have e : ((List.range M).map fun i => (YU ins).getD (VX k 0 i) g0).zip (V6 s (Kv k ins M) 0 os) = (KD (Kv k ins M) 0 os).map (gq s) := by
   have e1 : ((List.range M).map fun i => (YU ins).getD (VX k 0 i) g0) = (KD (Kv k ins M) 0 os).map fun q => KJ q.1 := by
    have e2 : ((KD (Kv k ins M) 0 os).map Prod.fst).map KJ = (Kv k ins M).map KJ := by rw [qA]
    rw [List.map_map] at e2; rw [show (fun q : Ty × Nat × Nat => KJ q.1) = KJ ∘ Prod.fst from rfl, e2]
    unfold Kv
    rw [List.map_map]; exact List.map_congr_left fun i hi => vW (Qp (hX i (List.mem_range.1 hi))).1
   rw [e1, je, jW]; rfl
  rw [e]
section
variable {k n : Int} {p : Pl} {ins : List Ty} {s : BS}
theorem g_w (h : JC (.mk k n p ins) = true ∧ (s.length : Int) ≠ JV (.mk k n p ins)) : KJ (.mk k n p ins) s = (v0L, 2) := by rw [KJ]; unfold jd; rw [if_pos h]
variable (hnf : ¬ (JC (.mk k n p ins) = true ∧ (s.length : Int) ≠ JV (.mk k n p ins)))
include hnf
theorem g_1 (h1 : k = 1) : KJ (.mk k n p ins) s = (yu (Ye s), 0) := by rw [KJ]; unfold jd; rw [if_neg hnf, if_pos h1]
theorem g_2 (h1 : k ≠ 1) (h2 : k = 2) : KJ (.mk k n p ins) s = if 1 < (s.getD 0 0).toNat then (v0L, 2) else (yu (Ye s), 0) := by rw [KJ]; unfold jd; rw [if_neg hnf, if_neg h1, if_pos h2]
theorem g_5 (h1 : k ≠ 1) (h2 : k ≠ 2) (h5 : k = 5) : KJ (.mk k n p ins) s = if ((JG s (8 * s.length)).drop n.toNat).any id then (v0L, 8) else (jc (JG s n.toNat), 0) := by rw [KJ]; unfold jd; rw [if_neg hnf, if_neg h1, if_neg h2, if_pos h5]
theorem g_6 (h1 : k ≠ 1) (h2 : k ≠ 2) (h5 : k ≠ 5) (h6 : k = 6) : KJ (.mk k n p ins) s = blT n s := by rw [KJ]; unfold jd; rw [if_neg hnf, if_neg h1, if_neg h2, if_neg h5, if_pos h6]; rfl
theorem Jzr (h1 : k ≠ 1) (h2 : k ≠ 2) (h5 : k ≠ 5) (h6 : k ≠ 6) (h8 : k = 8) (hs : s = []) : KJ (.mk k n p ins) s = (v0L, 2) := by rw [KJ]; unfold jd; rw [if_neg hnf, if_neg h1, if_neg h2, if_neg h5, if_neg h6, if_pos h8, hs]
theorem g_r (h1 : k ≠ 1) (h2 : k ≠ 2) (h5 : k ≠ 5) (h6 : k ≠ 6) (h8 : k ≠ 8) : KJ (.mk k n p ins) s = Ja4 k n ins (YU ins) s := by rw [KJ]; unfold jd; rw [if_neg hnf, if_neg h1, if_neg h2, if_neg h5, if_neg h6, if_neg h8]
theorem Jzs (h1 : k ≠ 1) (h2 : k ≠ 2) (h5 : k ≠ 5) (h6 : k ≠ 6) (h8 : k = 8) (hs : s ≠ []) (hb : ins.length ≤ (s.getD 0 0).toNat) : KJ (.mk k n p ins) s = (v0L, 9) := by
 rw [KJ]; unfold jd; rw [if_neg hnf, if_neg h1, if_neg h2, if_neg h5, if_neg h6, if_pos h8]
 cases s with
 | nil => exact absurd rfl hs
 | cons b r => simp only; rw [if_pos nX]
theorem g_8 (h1 : k ≠ 1) (h2 : k ≠ 2) (h5 : k ≠ 5) (h6 : k ≠ 6) (h8 : k = 8) (hs : s ≠ []) (hx : ins[(s.getD 0 0).toNat]? = some x) : KJ (.mk k n p ins) s = if (KJ x (s.drop 1)).2 ≠ 0 then (v0L, (KJ x (s.drop 1)).2) else (KI [(KJ x (s.drop 1)).1] (s.getD 0 0).toNat, 0) := by
 rw [KJ]; unfold jd; rw [if_neg hnf, if_neg h1, if_neg h2, if_neg h5, if_neg h6, if_pos h8]
 cases s with
 | nil => exact absurd rfl hs
 | cons b r =>
  simp only [List.getD_cons_zero, List.drop_succ_cons, List.drop_zero] at hx ⊢
  have hlt := (List.getElem?_eq_some_iff.1 hx).1
  rw [if_neg m0, vW hx]
end
theorem Jo5  {a : Nat} (h : Ye s = [a, b, c, d]) : Vl.In [] (.mk a b c d [] none [] none 0) := by
 have h2 := (xN s).2
 rw [h] at h2
 have hU : ∀ x ∈ [a, b, c, d], XJ x := fun x hx => h2 x hx
 exact .mk (hU a me) (hU b me) (hU c me) (hU d me) m6 rfl m6 rfl i0 (fun x hx => nomatch hx)
theorem jX {vs : List Vl} {E : Ji} {p : Pl} {pick : Int} (hl : vs.length ≤ 9223372036854775807) (hs : Seg Lr vs.length (Qi vs) p) (hE : ∀ x ∈ vs, x.In E) (hp : qg pick) : Vl.In (Lr ++ E) (.mk 0 0 0 0 [] none vs p pick) :=
 .mk u0 u0 u0 u0 m6 rfl hl (hs.mono fun q hq => List.mem_append_left _ hq) hp fun x hx => (hE x hx).mono fun q hq => List.mem_append_right _ hq
theorem yy {c : Cx} {d : List Deferred} {l : Kj} {ok : Prop} {bad : Value → Prop} {f : Operand}
  (hca : Kw l f args = some (g, vs)) (eg : Enters c.P g) (hpt : PureX c.P g vs.toArray ok bad V LL Rl) (hno : ok → α → False) (hR : ∀ p ∈ Rl, known c L p.1 p.2) (hp : ∀ v, bad v → HQ c d l L X (Q (.panic (wP v)))) :
  ∀ (next : Act → World → Prop) a w, Fr c.n d l a → St c L X w → Oper.uponIn (FW c.ro) 0 c.P ⟨dst, .call ⟨.value f, args, at_⟩, ty, ps, af, gd⟩ a next Q ((execOp a.eval ⟨dst, .call ⟨.value f, args, at_⟩, ty, ps, af, gd⟩).run c.P w) := fun next a w hf hs => by
 rw [V8 hf hca c.P w _ rfl eg, Oper.uponIn_enter]; refine ⟨fun hdep => nm, ?_⟩
 have hc := callsIn_wide (n := 0) |>.2 (hpt.run w fun p hp => hs.known (hR p hp))
 refine CallsIn.mono mF ?_
 rintro e w' (⟨ho, x, rfl, hk, h1, h2⟩ | ⟨v, hv, rfl, hk⟩)
 ·exact (hno ho x).elim
 ·exact hp v hv a w' hf (hs.more hk)
section
variable {c : Cx} {X : XP} {S : Ji} {ops : Array Oper} {l : Kj} {E : Ji} {d : List Deferred} {tb : j7} {rest : List Nat} {T : Ji → Act → Prop} {i k : Nat} {v : Value}
theorem Zq {t : TypeId} {n : Nat} {vs : Kj} {r zs : List Value} {z : Value} (hk : Wl ops.toList k = some ⟨some i, .buildSlice t n pa.toArray, ty, ps, af, gd⟩) (hg : Kg l ops ⟨some i, .buildSlice t n pa.toArray, ty, ps, af, gd⟩ = some true) (hi : Nat.ble (i + 1) c.n = true)
  (hA : tb k = .turn) (hS : SubS S E)
  (hp : W0 l pa = some vs) (ht : Kl c.P t = some e) (hz : QC c.P e = some z) (hs : KF c.P e = some sz) (hzs : z.cells.size = sz) (hb : Nat.ble (n * sz) 16777216 = true) (h0 : Nat.ble 1 (n * sz) = true)
  (hmk : (madeCells z.cells (n * sz)).toList = zs) (hf : YL (fun i => some (i * sz, sz)) zs (Qy vs) = some r)
  (h : ∀ q, HB c d ((i, .slice (some ⟨q, 0, none⟩) n n) :: l) ((q, .cells r.toArray e (0, 0)) :: E) X S ops tb rest T) : HB c d l E X S ops tb (k :: rest) T := fun a hfr => by
 refine ⟨_, QJ hk, ?_⟩; rw [hA]; refine .inl ⟨Nat, slV n, fun q => (q, .cells r.toArray e (0, 0)) :: E, ⟨J3 hfr hg, fun w hst => ?_⟩, fun q => ⟨fun p hp => List.mem_cons_of_mem _ (hS p hp), h q _ (hfr.put (Nat.le_of_ble_eq_true hi))⟩⟩
 have h1 := Vg hfr hp
 have h2 : (pa.toArray.map fun (p : Nat × Operand) => (p.1, a.eval p.2)) = vs.toArray := by
  apply Array.toList_inj.1; rw [Array.toList_map]; simpa using h1
 rw [Qt] at hf; subst hmk
 have h3 := Vv ht hz hs hzs (Nat.le_of_ble_eq_true hb) (Nat.le_of_ble_eq_true h0) hf w
 rw [← h2] at h3
 have h4 : (Instr.buildSlice t n (pa.toArray.map fun (i, x) => (i, a.eval x))).run c.P w = .ok (.slice (some ⟨w.heap.size, 0, none⟩) n n) (w.alloc (.cells r.toArray e)) := h3
 refine XM (v := .slice (some ⟨w.heap.size, 0, none⟩) n n) (w' := w.alloc (.cells r.toArray e)) ?_ ⟨w.heap.size, rfl, hst.alloc _⟩; refine gu ?_; rw [h4]; rfl
end
open Classical in
theorem Jwo (a b c d e : α) (Y A P E : List α) : (a :: (Y ++ (b :: c :: d :: e :: (A ++ (P ++ E))))).Perm (A ++ (a :: b :: c :: d :: e :: (Y ++ (P ++ E)))) := by
 exact MT
open Classical in
theorem Jwp (a b c d e f : α) (Y P E : List α) : (a :: b :: c :: d :: e :: f :: (Y ++ (P ++ E))).Perm (b :: c :: d :: e :: f :: (a :: (P ++ (Y ++ E)))) := by
 exact MT
theorem XD {c : Cx} {d : List Deferred} {l : Kj} {K : Act → World → Prop} (hp : L.Perm L') (h : HQ c d l L' X K) : HQ c d l L X K := fun a w hf hs => h a w hf (hs.perm hp)
theorem Jo6 (h : N + j < 8 * s.length) (hb : QX s (N + j) = true) : ((JG s (8 * s.length)).drop N).any id = true :=
 List.any_eq_true.2 ⟨_, List.mem_iff_getElem?.2 ⟨j, by rw [List.getElem?_drop]; exact QZ s h⟩, by simpa using hb⟩
theorem Jwq (h : ∀ j, j < 8 * s.length - N → QX s (N + j) = false) : ((JG s (8 * s.length)).drop N).any id = false := by
 rw [List.any_eq_false]; intro b hb
 obtain ⟨j, hj⟩ := List.getElem?_of_mem hb
 rw [List.getElem?_drop] at hj
 have hlt := (List.getElem?_eq_some_iff.1 hj).1
 rw [Km] at hlt; rw [QZ s hlt] at hj
 cases hj
 rw [h j m0]; simp
theorem Jo7 {k n : Int} {p : Pl} {ins : List Ty} (ht : Ty.In R (.mk k n p ins)) (hc : V7 (.mk k n p ins) 0 = 0) (hk3 : k = 3 ∨ k = 4 ∨ k = 7) (hl : s.length ≤ 100000) :
  PureX (α := { row : Vk // rowOk 5 (YV k n ins s).length (XC (YV k n ins s)) row }) Tryz.prog 147 [Ty.val (.mk k n p ins), Js s].toArray ((QY k n ins s).2 = 0) (fun v => (QY k n ins s).2 ≠ 0 ∧ v = zP (QY k n ins s).2) (fun x => KB (YV k n ins s).length (QN x.1)) (fun x => JJ 162 (XC (YV k n ins s)) x.1) R :=
 (Jtb ht hc hk3 hl).map id (fun x => (V4 _ _ (fun h => by have := x.2; rw [h] at this; exact this.1)).symm) fun x => List.Sublist.refl _
theorem Jwr {k n : Int} {ins : List Ty} (hX : ∀ i, i < (JW k n ins s).1 → VX k 0 i < ins.length) (h : (YV k n ins s)[i]? = some q) : q.1 ∈ ins := by
 have h1 : ((YV k n ins s).map Prod.fst)[i]? = some q.1 := by rw [List.getElem?_map, h]; rfl
 unfold YV at h1
 rw [qA] at h1
 unfold Kv at h1
 rw [List.getElem?_map] at h1
 obtain ⟨j, hj, e⟩ := Option.map_eq_some_iff.1 h1
 have hj2 := List.mem_range.1 (List.mem_of_getElem? hj)
 rw [← e]; exact (Qp (hX j hj2)).2
theorem Jyg {k n : Int} {ins : List Ty} (h0 : (QY k n ins s).2 = 0) (hq : q ∈ YV k n ins s) : (JW k n ins s).2 = 0 ∧ q.2.1 ≤ q.2.2 ∧ q.2.2 ≤ s.length := by
 by_cases hm : (JW k n ins s).2 ≠ 0
 ·rw [jV hm] at h0; exact absurd h0 hm
 have hm0 := Decidable.not_not.1 hm
 refine ⟨hm0, ?_⟩
 have hb0 := ZL (Kv k ins (JW k n ins s).1)
 obtain ⟨H, hH⟩ : ∃ H : Nat, Ke (Kv k ins (JW k n ins s).1) = (H : Int) := ⟨_, (Int.toNat_of_nonneg hb0).symm⟩
 by_cases hl : s.length < H
 ·rw [Jih hm0 rfl hH hl] at h0; cases h0
 have ho := Ja7 hm0 rfl hH m0
 cases e : QB s H (Kv k ins (JW k n ins s).1) 0 H false with
 | none => rw [e] at ho; rw [ho] at h0; cases h0
 | some os =>
  rw [e] at ho
  unfold YV at hq
  rw [ho] at hq; exact yx m0 e m0 (fun _ => rfl) (fun x _ hx => by have := jU hx; omega) (by rw [hH]; simp) q hq
set_option maxHeartbeats 4000000 in
theorem Jyh (ht : t.In R) : V7 t 0 = 0 → ∀ s : BS, s.length ≤ 100000 → PureX (α := VR (KJ t s).1) Tryz.prog 95 [t.val, Js s].toArray ((KJ t s).2 = 0) (fun v => (KJ t s).2 ≠ 0 ∧ v = zP (KJ t s).2) (fun y => y.x.val) (fun y => y.L) R := by
  induction ht with
  | @mk k n p ins hk hn hil hs hi ih =>
  intro hc s hl
  have ht : Ty.In R (.mk k n p ins) := .mk hk hn hil hs hi
  obtain ⟨hk8, ho, _, _⟩ := QT hc
  have hsub := XY hc
  have hF := Jar ht
  have hZ := Jfz ht
  unfold ws at hZ
  have hbl := Jkh (k := k) (p := p) (ins := ins) hl hn
  have hT := Jox (s := s) (n := 8 * s.length) (Nat.le_refl _) hl
  have hpl : ¬ (JC (.mk k n p ins) = true ∧ (s.length : Int) ≠ JV (.mk k n p ins)) → k = 1 ∨ k = 2 ∨ k = 5 → (s.length : Int) = if k = 1 then n else if k = 2 then 1 else (n + 7) / 8 := fun hnf h => by
    have hi0 : ins = [] := by
      unfold Kk at ho
      rcases h with rfl | rfl | rfl <;> simp at ho <;> first | exact ho.1 | exact ho.1.1
    have hx : JC (.mk k n p ins) = true := by
      rw [Jos hc, WD, hi0, ZS]
      rcases h with rfl | rfl | rfl <;> rfl
    have e : (s.length : Int) = JV (.mk k n p ins) := Decidable.byContradiction fun h2 => hnf ⟨hx, h2⟩
    rw [e, JV]
    rcases h with rfl | rfl | rfl <;> simp
  have hn1 : k = 1 → 1 ≤ n ∧ n ≤ 32 := fun e => by subst e; unfold Kk at ho; simp at ho; omega
  have hn5 : k = 5 → 1 ≤ n ∧ n ≤ 512 := fun e => by subst e; unfold Kk at ho; simp at ho; omega
  have h16 : k = 8 → ins.length ≤ 8 := fun e => by subst e; unfold Kk at ho; simp at ho; omega
  refine XS Tryz.func95 rfl rfl fun w => ML fun r1 r2 => ?_; refine GS ?_; refine LR rfl (Jl (vs := [_, _, _]) rfl (kn 1 rfl) rfl rfl rfl rfl) (Jc rfl rfl rfl Jnq hF oR (ko ?_))
  refine J0 15 rfl (fun gb => ?_) (fun gb => ?_) <;> (try simp only [ZZ] at gb) <;> first | (refine QV rfl ?_) | (refine LK rfl ?_)
  all_goals refine MX ?_
  all_goals refine LW 1 [1] rfl rfl ?_
  all_goals first | (refine Jc rfl rfl rfl Jnr hZ oR ?_) | refine LK rfl ?_
  all_goals refine gr ?_
  all_goals refine KN rfl rfl rfl ZP (VE (_) 2) oN (fun hok _ => ?_) (fun v hv => by first | exact Bool.noConfusion hv.1 | exact Qk rfl rfl (Wz (by rw [g_w ⟨‹JC _ = true›, fun e => absurd hv.1 (by rw [if_pos ‹JC _ = true›, e, beq_self_eq_true]; decide)⟩]) m6 hv))
  all_goals (
   refine Jy 1 rfl (Za 3 rfl ?_)
   have hnf : ¬ (JC (.mk k n p ins) = true ∧ (s.length : Int) ≠ JV (.mk k n p ins)) := by
     rintro ⟨hA, hB⟩
     first
     | (have e := Z3.1 hok; rw [if_pos hA] at e; exact hB e)
     | (have e : JC (.mk k n p ins) = false := ‹_›; rw [e] at hA; cases hA)
   clear hok; refine Gcc 12 [1] rfl rfl (cD (fun g => ?_) fun g => ?_)
   refine JS 1 rfl ?_
   have hln := hpl hnf (.inl ‹k = 1›)
   rw [if_pos ‹k = 1›] at hln
   have hnn := hn1 ‹_›
   obtain ⟨a, b, c, d, hnm⟩ := Jf8 s
   have hnu := zQ (s := s) m0
   rw [hnm] at hnu; refine N6 ?_; refine J6 rfl rfl rfl (enters_of Tryz.func144 m5 rfl) hnu (kH ?_)
   refine gm fun w1 hs1 => ?_
   (have e1 := g_1 hnf (s := s) ‹k = 1›
    refine .inl ⟨by rw [e1], ⟨.mk a b c d [] none [] none 0, [], Jo5 hnm, by rw [e1, Qa, Yx, hnm]; rfl⟩, rfl, hs1.weakL (List.nil_sublist _)⟩)
   · refine Nd ?_; refine cD (fun g => ?_) fun g => ?_
     refine JS 1 rfl ?_
     have hln := hpl hnf (.inr (.inl ‹k = 2›))
     rw [if_neg ‹k ≠ 1›, if_pos ‹k = 2›] at hln
     obtain ⟨a, b, c, d, hnm⟩ := Jf8 s
     have hnu := zQ (s := s) m0
     rw [hnm] at hnu; refine N6 ?_; refine LR rfl (Ws (j := 0) rfl rfl rfl rfl m0 rfl) (WR rfl (KN rfl rfl rfl ZP (VE (_) 2) oN (fun hok _ => ?_) (fun v hv => Qk rfl rfl (Wz (by rw [g_2 hnf ‹k ≠ 1› ‹k = 2›, if_pos nM]) m6 hv)))); refine N5 ?_; refine J6 rfl rfl rfl (enters_of Tryz.func144 m5 rfl) hnu (kH ?_)
     refine gm fun w1 hs1 => ?_
     (have e1 := g_2 hnf (s := s) ‹k ≠ 1› ‹k = 2›
      rw [if_neg M8] at e1
      refine .inl ⟨by rw [e1], ⟨.mk a b c d [] none [] none 0, [], Jo5 hnm, by rw [e1, Qa, Yx, hnm]; rfl⟩, rfl, hs1.weakL (List.nil_sublist _)⟩)
     · refine Nd ?_; refine cD (fun g => ?_) fun g => ?_
       · refine JS 1 rfl ?_
         have hln := hpl hnf (.inr (.inr ‹k = 5›))
         rw [if_neg ‹k ≠ 1›, if_neg ‹k ≠ 2›] at hln
         have hnn := hn5 ‹_›
         obtain ⟨N, hN⟩ : ∃ N, N = n.toNat := ⟨_, rfl⟩
         refine G3 ?_; refine g6 ?_; refine WR rfl (Jn mN (KA rfl rfl rfl (enters_of Tryz.func145 m5 rfl) hT oN fun x => ?_))
         obtain ⟨row, hrow⟩ := x
         match row, hrow with | none, hrow => ?_ | some (ra, cap, sp), hrow => ?_
         all_goals first | exact absurd hrow.1 m0 | skip
         refine JR 5 rfl ?_
         have hcap : 8 * s.length ≤ cap := by have := hrow.2; omega
         obtain ⟨off1, hoff⟩ : ∃ o, (if cap = N then 0 else 0 + N * 1) = o := ⟨_, rfl⟩
         refine Wt 4 [2] rfl rfl (Jn nt (LR rfl (JO (kl := some N) (kh := none) (km := none) (sz := 1) (m := N) (q := 8 * s.length) (z := cap) (off' := off1) rfl rfl rfl ⟨_, rfl⟩ trivial trivial rfl rfl rfl m0 m0 (Nat.le_refl _) (fun _ => rfl) hoff) (NK ?_))); refine kA ?_; refine Jw (σ := Nat) (fun j => j ≤ 8 * s.length - N ∧ ∀ i, i < j → QX s (N + i) = false) (fun j => [(1, Js s), (2, VA r1), (4, VA r2), (5, .slice (some ⟨ra, 0, none⟩) (8 * s.length) cap), (49, .slice (some ⟨ra, off1, none⟩) (8 * s.length - N) (cap - N)), (50, .int .i64 ((8 * s.length - N : Nat) : Int)), (51, .int .i64 (j : Int))]) (fun _ => [(ra, .cells (Qx (JG s (8 * s.length)) ++ sp).toArray 4 (0, 0)), WY r2 v0L, VK r1 (.mk k n p ins)]) (fun _ _ _ => True) (fun j => 8 * s.length - N - j) 0 ⟨Nat.zero_le _, fun i h => by omega⟩ (lK rfl) (List.Sublist.refl _) (fun _ _ h => h) ?_; rintro j ⟨hj1, hbits⟩; change HC _ _ _ ((ra, _) :: (r2, _) :: (r1, _) :: []) _ _ _; refine Nd ?_; refine cD (fun g => ?_) fun g => ?_
         refine gU ?_; refine LR rfl (Ki (j := j) (m := 1) (off' := N + j) rfl rfl rfl rfl m0 m0 (by rw [← hoff, if_neg m0]; omega)) (LR rfl (Jd rfl (kn 0 rfl) rfl (Jie s (i := N + j) m0 sp)) (gB ?_)); refine KN rfl rfl rfl ZP (VE (_) 8) oN (fun hok _ => ?_) (fun v hv => Qk rfl rfl (Wz (by rw [g_5 hnf ‹k ≠ 1› ‹k ≠ 2› ‹k = 5›, ← hN, if_pos (Jo6 m0 (Z8.mp hv.1))]) m6 hv)); refine N5 ?_; refine My ?_; exact Jo (j + 1) ⟨by omega, fun i hi => by by_cases e : i = j; (subst e; exact Z7.mp hok); exact hbits i m0⟩ m0 (lK rfl) (List.Sublist.refl _) (fun _ _ h => h)
         · refine Nd ?_
           have hany := Jwq (s := s) (N := N) (fun i hi => hbits i m0)
           refine Wt 4 [2] rfl rfl (Jn nt ?_)
           refine LR rfl (JO (kl := none) (kh := some N) (km := none) (m := 0) (q := N) (z := cap) (off' := 0) (sz := 1) rfl rfl rfl trivial ⟨_, rfl⟩ trivial rfl rfl rfl m0 m0 (Nat.le_refl _) (fun e => nomatch e) nR) ?_; refine kH ?_
           refine HT ?_; refine Gz fun w1 hs1 => ?_
           (have e1 := g_5 hnf (s := s) ‹k ≠ 1› ‹k ≠ 2› ‹k = 5›
            rw [← hN, hany, if_neg m6] at e1
            refine .inl ⟨by rw [e1], ⟨.mk 0 0 0 0 (JG s N) (some (⟨ra, 0, none⟩, cap)) [] none 0, [(ra, .cells (Qx (JG s (8 * s.length)) ++ sp).toArray 4 (0, 0))], Jd8 m0 m0 m0, by rw [e1, Qa, Yx]; rfl⟩, congrArg Ending.returned (Jif s N ra cap).symm, hs1.weakL ((List.cons_sublist_cons).2 (List.nil_sublist _))⟩)
       · refine Nd ?_; refine cD (fun g => ?_) fun g => ?_
         refine Wt 4 [1] rfl rfl (KN rfl rfl rfl (enters_of Tryz.func146 m5 rfl) hbl oN (fun hok y => ?_) (fun v hv => Qk rfl rfl (by rw [g_6 hnf ‹k ≠ 1› ‹k ≠ 2› ‹k ≠ 5› ‹k = 6›]; exact hv)))
         obtain ⟨⟨ya, yb, yc, yd, ybits, ypb, yitems, ypi, ypick⟩, yL, yok, yer⟩ := y
         refine gx ?_
         refine gm fun w1 hs1 => ?_
         (have e1 := g_6 hnf (s := s) ‹k ≠ 1› ‹k ≠ 2› ‹k ≠ 5› ‹k = 6›
          refine .inl ⟨by rw [e1]; exact hok, ⟨.mk ya yb yc yd ybits ypb yitems ypi ypick, yL, yok, by rw [e1]; exact yer⟩, rfl, hs1.weakL (.cons _ (.cons _ (List.Sublist.refl _)))⟩)
         · refine Nd ?_; refine cD (fun g => ?_) fun g => ?_
           · refine G3 ?_; refine LR rfl (W3 rfl rfl) (KN rfl rfl rfl ZP (VE (_) 2) oN (fun hok _ => ?_) (fun v hv => Qk rfl rfl (Wz (by rw [Jzr hnf ‹k ≠ 1› ‹k ≠ 2› ‹k ≠ 5› ‹k ≠ 6› ‹k = 8› (of_decide_eq_true (Z8.mp hv.1))]) m6 hv))); refine Nw ?_
             have hsne : s ≠ [] := of_decide_eq_false (Z7.mp hok)
             have hpos : 0 < s.length := List.length_pos_iff.2 hsne
             refine N6 ?_; refine LR rfl (Ws (j := 0) rfl rfl rfl rfl m0 rfl) (WR rfl (Jn (show _ = Value.int .i64 (((s.getD 0 0).toNat : Nat)) from congrArg (Value.int .i64) (wrap_i64 m0 (by have := Vs (s.getD 0 0); omega))) (XN 8 [1] rfl rfl (MV ?_)))); refine WR rfl (KN rfl rfl rfl ZP (VE (_) 9) oN (fun hok _ => ?_) (fun v hv => Qk rfl rfl (Wz (by rw [Jzs hnf ‹k ≠ 1› ‹k ≠ 2› ‹k ≠ 5› ‹k ≠ 6› ‹k = 8› hsne nM]) m6 hv))); refine Nw ?_
             obtain ⟨x, hx⟩ : ∃ x, ins[(s.getD 0 0).toNat]? = some x := ⟨_, List.getElem?_eq_getElem M8⟩
             have hxm := List.mem_of_getElem? hx
             have ihx := ih x hxm (hsub x hxm) (s.drop 1) (by rw [List.length_drop]; omega)
             by_cases hgo : (KJ x (s.drop 1)).2 = 0 ∧ Nonempty (VR (KJ x (s.drop 1)).1)
             rotate_left
             have hlt : (s.getD 0 0).toNat < ins.length := (List.getElem?_eq_some_iff.1 hx).1
             have hbadx : ∀ {v : Value}, (KJ x (s.drop 1)).2 ≠ 0 ∧ v = zP (KJ x (s.drop 1)).2 → (KJ (.mk k n p ins) s).2 ≠ 0 ∧ v = zP (KJ (.mk k n p ins) s).2 := fun hv => by rw [g_8 hnf ‹k ≠ 1› ‹k ≠ 2› ‹k ≠ 5› ‹k ≠ 6› ‹k = 8› hsne hx, if_pos hv.1]; exact hv
             exact Jhq [(0, .int .i64 ((s.getD 0 0).toNat : Int)), (1, .pointer (some ⟨r1, 2, none⟩)), (2, KB ins.length p), (3, .int .i64 ((s.getD 0 0).toNat : Int)), (4, .pointer (some ⟨plB p, Xd p + (s.getD 0 0).toNat * 3, none⟩)), (5, x.val), (6, Js s), (7, Js (s.drop 1))] 8 m5 rfl m5 rfl (.cons rfl rfl (Je rfl) <| .cons rfl rfl (JD rfl rfl rfl) <| .cons rfl rfl (Jd rfl (kn 1 rfl) rfl rfl) <| .cons rfl rfl (Je rfl) <| .cons rfl rfl (Jf (j := (s.getD 0 0).toNat) rfl hs rfl rfl rfl rfl hlt) <| .cons rfl rfl (KV oR rfl hs hx rfl rfl) <| .cons rfl rfl (Je rfl) <| .cons rfl rfl (V9 (kl := some (.i64, 1)) (kh := none) (m := 1) (n := s.length) rfl rfl rfl rfl rfl rfl m0 m0 (show _ = s.drop 1 from by rw [List.take_length])) .nil) rfl rfl (yy rfl Jnl ihx (fun h y => hgo ⟨h, ⟨y⟩⟩) oR (fun v hv => Qk rfl rfl (hbadx hv)))
             obtain ⟨hg0, ⟨x0⟩⟩ := hgo
             have hlt : (s.getD 0 0).toNat < ins.length := (List.getElem?_eq_some_iff.1 hx).1
             refine JU [VK r1 (.mk k n p ins)] [(0, .pure), (1, .pure), (2, .pure), (3, .pure), (4, .pure), (5, .pure), (6, .pure), (7, .pure), (8, .grow (Qu x0 (fun y => y.x.val) (fun y => y.L))), (9, .turn)] 10 [0, 1, 2, 3, 4, 5, 6, 7, 8, 9] m5 m5 (fun q hq => List.mem_cons_of_mem _ hq) (Ho ?_)
             refine NN ?_; refine Jm (k := 2) rfl rfl rfl rfl rfl (fun _ hS => (Jd rfl (.inl (hS _ (Kq (n := 0) rfl))) rfl rfl)) (Jm (k := 3) rfl rfl rfl rfl rfl (fun _ hS => (Je rfl)) (Jm (k := 4) rfl rfl rfl rfl rfl (fun _ _ => Jf (j := (s.getD 0 0).toNat) rfl hs rfl rfl rfl rfl hlt) (Jm (k := 5) rfl rfl rfl rfl rfl (fun _ _ => KV oR rfl hs hx rfl rfl) (Jm (k := 6) rfl rfl rfl rfl rfl (fun _ hS => (Je rfl)) (Jm (k := 7) rfl rfl rfl rfl rfl (fun _ _ => V9 (kl := some (.i64, 1)) (kh := none) (m := 1) (n := s.length) rfl rfl rfl rfl rfl rfl m0 m0 (show _ = s.drop 1 from by rw [List.take_length])) (KY (k := 8) rfl rfl rfl rfl rfl Jnl (ihx.toT (fun v hv => hv.1 hg0)) oR fun y => ?_)))))); obtain ⟨⟨ya, yb, yc, yd, ybits, ypb, yitems, ypi, ypick⟩, yL, yok, yer⟩ := y; refine Zq (k := 9) (n := 1) (sz := 7) (vs := [_]) (zs := [_, _, _, _, _, _, _]) (r := [_, _, _, _, _, _, _]) rfl rfl rfl rfl (fun q hq => List.mem_append_right _ (List.mem_cons_of_mem _ hq)) rfl rfl rfl rfl rfl rfl rfl mi rfl fun rv => Kz (Ks (List.Perm.cons _ List.perm_append_comm) (kH ?_))
             refine HT ?_; refine Gz fun w1 hs1 => ?_
             (have e1 := g_8 hnf (s := s) ‹k ≠ 1› ‹k ≠ 2› ‹k ≠ 5› ‹k ≠ 6› ‹k = 8› hsne hx
              rw [if_neg (by rw [hg0]; decide)] at e1
              refine .inl ⟨by rw [e1], ⟨.mk 0 0 0 0 [] none [.mk ya yb yc yd ybits ypb yitems ypi ypick] (some (⟨rv, 0, none⟩, 1)) ((s.getD 0 0).toNat : Int), [(rv, _)] ++ yL, jX me ⟨Nat.le_refl _, fun _ => ⟨rfl, _, _, _, List.mem_singleton_self _, rfl⟩⟩ (fun z hz => by rw [List.mem_singleton.1 hz]; exact yok) (by have := Vs (s.getD 0 0); unfold qg; omega), by rw [e1, Qa, Yx, Yx, yer]; rfl⟩, rfl, hs1.weakL ((List.cons_sublist_cons).2 (.cons _ (.cons _ (List.Sublist.refl _))))⟩)
           · refine G4 ?_; refine LN rfl fun r3 => kA ?_
             have hk3 : k = 3 ∨ k = 4 ∨ k = 7 := by have h1 : k ≠ 1 := ‹_›; have h2 : k ≠ 2 := ‹_›; have h5 : k ≠ 5 := ‹_›; have h6 : k ≠ 6 := ‹_›; have h8 : k ≠ 8 := ‹_›; omega
             have hmX := yv (s := s) hk8 ho hk3
             have hgr := (g_r (s := s) hnf ‹k ≠ 1› ‹k ≠ 2› ‹k ≠ 5› ‹k ≠ 6› ‹k ≠ 8›).trans (Jtc hmX)
             have hpp := Jo7 (s := s) ht hc hk3 hl
             refine Wt 3 [2] rfl rfl (KN rfl rfl rfl (enters_of Tryz.func147 m5 rfl) hpp oR (fun hp0 x => ?_) (fun v hv => Qk rfl rfl (by rw [hgr, if_pos hv.1]; exact hv)))
             obtain ⟨prow, hprow⟩ := x
             refine gx ?_
             have hsg := KC (e := 162) hprow m6
             have hmm0 : (JW k n ins s).2 = 0 := Decidable.byContradiction fun hm => hm (by rw [← jV hm]; exact hp0)
             have hPl : (YV k n ins s).length ≤ 512 := by unfold YV; rw [q9, X9]; exact (vX hk8 ho hk3 hmm0).1
             refine LR rfl (Ju rfl hsg rfl) (kA ?_); rw [if_neg (by rw [hp0]; decide)] at hgr; refine Jw (σ := Nat × List Vl × Vk × Ji) (fun q => q.1 = q.2.1.length ∧ q.1 ≤ (YV k n ins s).length ∧ rowOk 7 q.1 (Qi q.2.1) q.2.2.1 ∧ (∀ x ∈ q.2.1, Vl.In q.2.2.2 x) ∧ VB (((YV k n ins s).take q.1).map (gq s)) = (q.2.1.map WU, 0)) (fun q => [(1, Js s), (2, VA r1), (4, VA r2), (9, VA r3), (96, KB (YV k n ins s).length (QN prow)), (97, .int .i64 ((YV k n ins s).length : Int)), (98, .int .i64 (q.1 : Int))]) (fun q => (r3, .cells #[.int .u64 0, .int .u64 0, .int .u64 0, .int .u64 0, .slice none 0 0, Jx q.1 q.2.2.1, .int .i64 0] 81 (0, 0)) :: WY r2 v0L :: VK r1 (.mk k n p ins) :: (JJ 81 (Qi q.2.1) q.2.2.1 ++ (JJ 162 (XC (YV k n ins s)) prow ++ q.2.2.2))) (fun _ _ _ => True) (fun q => (YV k n ins s).length - q.1) (0, [], none, []) ⟨rfl, Nat.zero_le _, ⟨rfl, rfl⟩, fun x hx => (nomatch hx), rfl⟩ (lK rfl) mR (fun _ _ h => h) ?_; rintro ⟨i, vs, row, E⟩ ⟨hvl, him, hrow, hin, hrun⟩; simp only at hvl him hrow hin hrun; refine Nd ?_; refine cD (fun g => ?_) fun g => ?_
             · refine kF ?_
               obtain ⟨⟨x, f, f2⟩, hq⟩ : ∃ q, (YV k n ins s)[i]? = some q := ⟨_, List.getElem?_eq_getElem m0⟩
               obtain ⟨hmm, hft, htl⟩ := Jyg hp0 (List.mem_of_getElem? hq)
               have hxm := Jwr (hmX hmm) hq
               simp only at hft htl hxm
               have ihx := ih x hxm (hsub x hxm) ((s.take f2).drop f) (by rw [List.length_drop, List.length_take]; omega)
               obtain ⟨xk, xn, xp, xi⟩ := x
               refine Hf ?_
               refine LR rfl (Jf (j := i) rfl hsg rfl rfl rfl mc m0) (LR rfl (Xk (vs := prC (.mk xk xn xp xi, f, f2)) (fun q hq => Or.inl (List.mem_cons_of_mem _ (List.mem_cons_of_mem _ (List.mem_cons_of_mem _ (List.mem_append_right _ (List.mem_append_left _ hq)))))) rfl hsg m0 rfl rfl (XQ ZK hq) (ZK _)) (LN rfl fun r4 => ?_))
               refine Ng ?_; refine gM ?_
               by_cases hgo : (KJ (.mk xk xn xp xi) ((s.take f2).drop f)).2 = 0 ∧ Nonempty (VR (KJ (.mk xk xn xp xi) ((s.take f2).drop f)).1)
               rotate_left
               have hbadx : ∀ {v : Value}, (KJ (.mk xk xn xp xi) ((s.take f2).drop f)).2 ≠ 0 ∧ v = zP (KJ (.mk xk xn xp xi) ((s.take f2).drop f)).2 → (KJ (.mk k n p ins) s).2 ≠ 0 ∧ v = zP (KJ (.mk k n p ins) s).2 := fun hv => by
                 have e1 : (YV k n ins s).map (gq s) = ((YV k n ins s).take i).map (gq s) ++ gq s (.mk xk xn xp xi, f, f2) :: ((YV k n ins s).drop (i + 1)).map (gq s) := by
                   rw [← List.map_cons, ← KK hq, ← List.map_append, List.take_append_drop]
                 have e2 := Jeb (r := ((YV k n ins s).drop (i + 1)).map (gq s)) (f := KJ (.mk xk xn xp xi)) (s := (s.take f2).drop f) hrun hv.1
                 have e3 : (VB ((YV k n ins s).map (gq s))).2 = (KJ (.mk xk xn xp xi) ((s.take f2).drop f)).2 := by rw [e1]; exact e2
                 rw [hgr, if_pos (by rw [e3]; exact hv.1)]; exact ⟨by rw [e3]; exact hv.1, by rw [e3]; exact hv.2⟩
               exact Jhq [(0, .pointer (some ⟨r3, 5, none⟩)), (1, Jx i row), (2, .pointer (some ⟨r4, 0, none⟩)), (3, Ty.val (.mk xk xn xp xi)), (4, Js s), (5, .pointer (some ⟨r4, 3, none⟩)), (6, .int .i64 (f : Int)), (7, .pointer (some ⟨r4, 4, none⟩)), (8, .int .i64 (f2 : Int)), (9, Js ((s.take f2).drop f))] 10 m5 rfl m5 rfl (.cons rfl rfl (JD rfl rfl rfl) <| .cons rfl rfl (Jd rfl (kn 1 rfl) rfl rfl) <| .cons rfl rfl (JD rfl rfl rfl) <| .cons rfl rfl (Jl (vs := [_, _, _]) rfl (kn 0 rfl) rfl rfl rfl rfl) <| .cons rfl rfl (Je rfl) <| .cons rfl rfl (JD rfl rfl rfl) <| .cons rfl rfl (Jd rfl (kn 0 rfl) rfl rfl) <| .cons rfl rfl (JD rfl rfl rfl) <| .cons rfl rfl (Jd rfl (kn 0 rfl) rfl rfl) <| .cons rfl rfl (V9 (kl := some (.i64, (f : Int))) (kh := some (.i64, (f2 : Int))) (m := f) (n := f2) rfl rfl rfl rfl rfl rfl hft htl rfl) .nil) rfl rfl (yy rfl Jnl ihx (fun h y => hgo ⟨h, ⟨y⟩⟩) oR (fun v hv => Qk rfl rfl (hbadx hv)))
               obtain ⟨hg0, ⟨x0⟩⟩ := hgo
               refine JU [(r3, .cells #[.int .u64 0, .int .u64 0, .int .u64 0, .int .u64 0, .slice none 0 0, Jx i row, .int .i64 0] 81 (0, 0)), (r4, .cells (prC (.mk xk xn xp xi, f, f2)).toArray 162 (0, 0))] [(0, .pure), (1, .pure), (2, .pure), (3, .pure), (4, .pure), (5, .pure), (6, .pure), (7, .pure), (8, .pure), (9, .pure), (10, .grow (Qu x0 (fun y => y.x.val) (fun y => y.L))), (11, .turn)] 12 [0, 1, 2, 3, 4, 5, 6, 7, 8, 9, 10, 11] m5 m5 (fun q hq => by rcases List.mem_cons.1 hq with rfl | hq; exact List.mem_cons_of_mem _ List.mem_cons_self; rw [List.mem_singleton.1 hq]; exact List.mem_cons_self) ?_
               refine MG ?_
               refine Nx ?_; refine Jm (k := 3) rfl rfl rfl rfl rfl (fun _ hS => (Jl (vs := [_, _, _]) rfl (.inl (hS _ (Kq (n := 1) rfl))) rfl rfl rfl rfl)) (Jm (k := 4) rfl rfl rfl rfl rfl (fun _ hS => (Je rfl)) ?_)
               refine NB ?_
               refine Hi ?_; refine Jm (k := 9) rfl rfl rfl rfl rfl (fun _ _ => V9 (kl := some (.i64, (f : Int))) (kh := some (.i64, (f2 : Int))) (m := f) (n := f2) rfl rfl rfl rfl rfl rfl hft htl rfl) (KY (k := 10) rfl rfl rfl rfl rfl Jnl (ihx.toT (fun v hv => hv.1 hg0)) oR fun y => ?_); obtain ⟨⟨ya, yb, yc, yd, ybits, ypb, yitems, ypi, ypick⟩, yL, yok, yer⟩ := y
               refine Zq (k := 11) (n := 1) (sz := 7) (vs := [_]) (zs := [_, _, _, _, _, _, _]) (r := [_, _, _, _, _, _, _]) rfl rfl rfl rfl (fun q hq => List.mem_append_right _ (by rcases List.mem_cons.1 hq with rfl | hq; exact List.mem_cons_of_mem _ List.mem_cons_self; rw [List.mem_singleton.1 hq]; exact List.mem_cons_self)) rfl rfl rfl rfl rfl rfl rfl mi rfl fun rv => ?_; refine Kz ?_; refine Ks (Jwo ..) ?_; refine JF (L0 := _ :: _ :: _ :: _ :: _ :: (yL ++ (JJ 162 (XC (YV k n ins s)) prow ++ E))) (xs := Qi vs) (row := row) (n := i) (sz := 7) (b := 88) (news := [_, _, _, _, _, _, _]) (List.Perm.refl _) rfl rfl rfl rfl (kn 0 rfl) rfl rfl rfl rfl rfl m6 rfl rfl rfl m6 hrow m0 m0 fun ra cap sp hra => ?_
               refine LS 1 [] rfl rfl (Kh (k := 3) (cs' := #[.int .u64 0, .int .u64 0, .int .u64 0, .int .u64 0, .slice none 0 0, Jx (i + 1) (some (ra, cap, sp)), .int .i64 0]) rfl rfl rfl rfl rfl rfl rfl rfl rfl rfl (N5 ?_)); refine NF ?_
               have hsn : ((YV k n ins s).take (i + 1)).map (gq s) = ((YV k n ins s).take i).map (gq s) ++ [gq s (.mk xk xn xp xi, f, f2)] := by rw [Kp hq, List.map_append]; rfl
               have hgy : KJ (.mk xk xn xp xi) ((s.take f2).drop f) = (WU (.mk ya yb yc yd ybits ypb yitems ypi ypick), 0) := Prod.ext yer.symm hg0
               have hvc : Qi vs ++ Vl.cells (.mk ya yb yc yd ybits ypb yitems ypi ypick) = Qi (vs ++ [.mk ya yb yc yd ybits ypb yitems ypi ypick]) := by unfold Qi; rw [List.flatMap_append]; simp
               refine XD (Jwp ..) ?_
               exact Jo (i + 1, vs ++ [.mk ya yb yc yd ybits ypb yitems ypi ypick], some (ra, cap, sp), yL ++ E) ⟨by simp only [List.length_append, List.length_singleton]; omega, by simp only; omega, by simp only; rw [← hvc]; exact hra, fun z hz => by rcases List.mem_append.1 hz with hz | hz; exact (hin z hz).mono (fun q hq => List.mem_append_right _ hq); rw [List.mem_singleton.1 hz]; exact yok.mono (fun q hq => List.mem_append_left _ hq), by simp only; rw [hsn, List.map_append]; exact zR hrun hgy⟩ ml (lK rfl) n8 (fun _ _ h => h)
             · refine Nd ?_
               have honeV : ([.int .u64 0, .int .u64 0, .int .u64 0, .int .u64 0, .slice none 0 0, Jx i row, .int .i64 0] : List Value).all QL = true := by cases row <;> rfl
               refine MF fun w1 hs1 => ?_
               (have e1 := hgr
                have hiM : i = (YV k n ins s).length := by omega
                rw [hiM, List.take_length] at hrun; rw [hrun, if_neg me] at e1; rw [hiM] at hvl hrow; rw [hvl] at hrow
                have hvr : Jx i row = KB vs.length (QN row) := by rw [hiM, hvl]; exact (V4 _ _ (fun h => by rw [h] at hrow; exact hrow.1)).symm
                refine .inl ⟨by rw [e1], ⟨.mk 0 0 0 0 [] none vs (QN row) 0, JJ 81 (Qi vs) row ++ E, jX m0 (KC hrow m6) hin i0, by rw [e1, Qa, Wi]; rfl⟩, congrArg (fun z => Ending.returned (Value.agg #[.int .u64 0, .int .u64 0, .int .u64 0, .int .u64 0, .slice none 0 0, z, .int .i64 0])) hvr, hs1.weakL (.cons _ (.cons _ (.cons _ ((List.Sublist.refl _).append (List.sublist_append_right _ _)))))⟩)
   skip)
mutual
def Xp : Ty → Ty
 | .mk k n _ ins => .mk k n none (VF ins)
def VF : List Ty → List Ty
 | [] => []
 | x :: xs => Xp x :: VF xs
end
theorem yz : ∀ l : List Ty, VF l = l.map Xp
 | [] => by rw [VF]; rfl
 | x :: xs => by rw [VF, yz xs]; rfl
theorem Zr (l : List Ty) : (VF l).length = l.length := by rw [yz, List.length_map]
structure TR (t : Ty) : Type where
  x : Ty
  L : Ji
  ok : x.In L
  er : Xp x = t
def byT : Ty := .mk 1 1 none []
def WQ (k n : Int) : Ty := .mk k n none [byT]
def qE : Ty := .mk 7 0 none [WQ 3 32, WQ 3 32]
def acT : Ty := .mk 7 0 none [WQ 3 20, .mk 1 8 none [], .mk 1 32 none [], WQ 4 512, .mk 4 16 none [qE]]
def QU : Ty := .mk 4 32 none [acT]
theorem Jo8 {k n : Int} (hk : qg k) (hn : qg n) : PureT (α := Nat) Tryz.prog 78 [.int .i64 k, .int .i64 n].toArray (fun r => .agg #[.int .i64 k, .int .i64 n, .slice (some ⟨r, 0, none⟩) 1 1]) [] (fun r => [(r, .cells #[.int .i64 1, .int .i64 1, .slice none 0 0] 76 (0, 0))]) [] := by
 refine J4 Tryz.func78 rfl rfl fun w => Mw fun r1 => ?_; refine gB ?_; refine Hs ?_; refine JB (vs := [_]) (zs := [_, _, _]) (r := [_, _, _]) rfl rfl rfl rfl rfl rfl rfl rfl rfl mi rfl fun r2 => Hs ?_
 refine GV ?_; refine Jj rfl rfl (.cons (Jt (vs := [_, _, _]) rfl (kn 1 rfl) rfl rfl) .nil) (fun w1 hs1 => ?_); exact ⟨r2, rfl, hs1.weakL ((List.cons_sublist_cons).2 (List.nil_sublist _))⟩
abbrev Jki (e : Nat) : Obj := .cells #[.int .i64 1, .int .i64 1, .slice none 0 0] e (0, 0)
def Jkj (k n : Int) (x : Nat) : Ty := .mk k n (some (⟨x, 0, none⟩, 1)) [byT]
def Jyi (x y r : Nat) : Ty := .mk 7 0 (some (⟨r, 0, none⟩, 2)) [Jkj 3 32 x, Jkj 3 32 y]
def acX (x y x2 x3 r s a : Nat) : Ty := .mk 7 0 (some (⟨a, 0, none⟩, 5)) [Jkj 3 20 x2, .mk 1 8 none [], .mk 1 32 none [], Jkj 4 512 x3, .mk 4 16 (some (⟨s, 0, none⟩, 1)) [Jyi x y r]]
def Jo9 (x y x2 x3 r s a z : Nat) : Ty := .mk 4 32 (some (⟨z, 0, none⟩, 1)) [acX x y x2 x3 r s a]
theorem Jec {k n : Int} {ins : List Ty} {all : Array Value} (hk : qg k) (hn : qg n) (hm : (r, Obj.cells all e (0, 0)) ∈ R) (ha : all.toList = xF ins) (hl : ins.length = m) (hl2 : m ≤ 100) (hi : ∀ x ∈ ins, x.In R) : Ty.In R (.mk k n (some (⟨r, 0, none⟩, m)) ins) :=
 .mk hk hn m0 ⟨Nat.le_of_eq hl, fun _ => ⟨rfl, all, e, (0, 0), hm, by rw [List.drop_zero, ha, List.take_length]⟩⟩ hi
theorem Ja8 {k n : Int} (hk : qg k) (hn : qg n) : Ty.In R (.mk k n none []) := .mk hk hn m6 rfl (fun x hx => nomatch hx)
theorem vZ {k n : Int} {x : Nat} (hk : qg k) (hn : qg n) (h : (x, Jki e) ∈ R) : (Jkj k n x).In R :=
 Jec hk hn h rfl rfl m6 fun y hy => by rw [List.mem_singleton.1 hy]; exact Ja8 ny ny
theorem Yz {n : Int} (h0 : 0 ≤ n) (h : n ≤ 1000) : qg n := by unfold qg; omega
theorem Jij  {x y x2 x3 s a z : Nat} (h1 : (x, Jki e) ∈ R) (h2 : (y, Jki e) ∈ R) (h3 : (x2, Jki e) ∈ R) (h4 : (x3, Jki e) ∈ R) (h5 : (r, Obj.cells #[.int .i64 3, .int .i64 32, .slice (some ⟨x, 0, none⟩) 1 1, .int .i64 3, .int .i64 32, .slice (some ⟨y, 0, none⟩) 1 1] e (0, 0)) ∈ R)
  (h6 : (s, Obj.cells #[.int .i64 7, .int .i64 0, .slice (some ⟨r, 0, none⟩) 2 2] e (0, 0)) ∈ R)
  (h7 : (a, Obj.cells #[.int .i64 3, .int .i64 20, .slice (some ⟨x2, 0, none⟩) 1 1, .int .i64 1, .int .i64 8, .slice none 0 0, .int .i64 1, .int .i64 32, .slice none 0 0, .int .i64 4, .int .i64 512, .slice (some ⟨x3, 0, none⟩) 1 1, .int .i64 4, .int .i64 16, .slice (some ⟨s, 0, none⟩) 1 1] e (0, 0)) ∈ R)
  (h8 : (z, Obj.cells #[.int .i64 7, .int .i64 0, .slice (some ⟨a, 0, none⟩) 5 5] e (0, 0)) ∈ R) : (Jo9 x y x2 x3 r s a z).In R := by
 refine Jec (Yz m6 m6) (Yz m6 m6) h8 rfl rfl m6 fun q hq => ?_; rw [List.mem_singleton.1 hq]; refine Jec (Yz m6 m6) (Yz m6 m6) h7 rfl rfl m6 fun q hq => ?_; simp only [List.mem_cons, List.not_mem_nil, or_false] at hq
 rcases hq with rfl | rfl | rfl | rfl | rfl
 ·exact vZ (Yz m6 m6) (Yz m6 m6) h3
 ·exact Ja8 (Yz m6 m6) (Yz m6 m6)
 ·exact Ja8 (Yz m6 m6) (Yz m6 m6)
 ·exact vZ (Yz m6 m6) (Yz m6 m6) h4
 ·refine Jec (Yz m6 m6) (Yz m6 m6) h6 rfl rfl m6 fun q hq => ?_
  rw [List.mem_singleton.1 hq]; refine Jec (Yz m6 m6) (Yz m6 m6) h5 rfl rfl m6 fun q hq => ?_; simp only [List.mem_cons, List.not_mem_nil, or_false] at hq
  rcases hq with rfl | rfl
  ·exact vZ (Yz m6 m6) (Yz m6 m6) h1
  ·exact vZ (Yz m6 m6) (Yz m6 m6) h2
theorem Jik (x y x2 x3 r s a z : Nat) : Xp (Jo9 x y x2 x3 r s a z) = QU := by
 simp only [Jo9, acX, Jyi, Jkj, byT, Xp, VF, QU, acT, qE, WQ]
theorem Ja9 : PureT (α := TR QU) Tryz.prog 53 #[] (fun y => y.x.val) [] (fun y => y.L) [] := by
 refine J4 Tryz.func53 rfl rfl fun w => Mw fun r1 => ?_; refine GS ?_; refine KA rfl rfl rfl Jv6 (Jo8 ny ny) oN fun x1 => LN rfl fun r2 => ?_
 refine Ng ?_; refine XN 6 [0, 0] rfl rfl (JB (vs := [_, _]) (zs := [_, _, _, _, _, _]) (r := [_, _, _, _, _, _]) rfl rfl rfl rfl rfl rfl rfl rfl rfl mi rfl fun r3 => Hs ?_); refine LN rfl fun r4 => ?_
 refine Ng ?_; refine Nw ?_
 refine JU [(r4, .cells #[.int .i64 7, .int .i64 0, .slice (some ⟨r3, 0, none⟩) 2 2] 76 (0, 0))] [(0, .grow (Qu 0 (fun r => .agg #[.int .i64 3, .int .i64 20, .slice (some ⟨r, 0, none⟩) 1 1]) (fun r => [(r, .cells #[.int .i64 1, .int .i64 1, .slice none 0 0] 76 (0, 0))]))), (1, .pure), (2, .pure), (3, .grow (Qu 0 (fun r => .agg #[.int .i64 4, .int .i64 512, .slice (some ⟨r, 0, none⟩) 1 1]) (fun r => [(r, .cells #[.int .i64 1, .int .i64 1, .slice none 0 0] 76 (0, 0))]))), (4, .pure), (5, .grow (Wb (slV 1) (.cells #[.int .i64 7, .int .i64 0, .slice (some ⟨r3, 0, none⟩) 2 2] 76 (0, 0)))), (6, .pure), (7, .dep [9, 10, 11, 12, 15] (Jcb 5 76)), (8, .pure), (9, .grow (Wb xy (.cells #[.int .i64 0, .int .i64 0, .slice none 0 0] 76 (0, 0))))] 10 [1, 2, 4, 5, 6, 0, 3, 7, 8, 9] m5 m5 m7 (Jm (k := 1) rfl rfl rfl rfl rfl (fun _ hS => (J8 (r := [_, _, _]) rfl rfl)) (Jm (k := 2) rfl rfl rfl rfl rfl (fun _ hS => (J8 (r := [_, _, _]) rfl rfl)) (Jm (k := 4) rfl rfl rfl rfl rfl (fun _ hS => (Jl (vs := [_, _, _]) rfl (.inl (hS _ (Kq (n := 0) rfl))) rfl rfl rfl rfl)) (VL (k := 5) (n := 1) (sz := 3) (vs := [_]) (zs := [_, _, _]) (r := [.int .i64 7, .int .i64 0, .slice (some ⟨r3, 0, none⟩) 2 2]) rfl rfl rfl rfl rfl rfl rfl rfl rfl rfl rfl mi rfl fun s1 => Jm (k := 6) rfl rfl rfl rfl rfl (fun _ hS => (J8 (r := [_, _, _]) rfl rfl)) (KY (k := 0) rfl rfl rfl rfl rfl Jv6 (Jo8 ny ny) oN fun x2 => KY (k := 3) rfl rfl rfl rfl rfl Jv6 (Jo8 ny ny) oN fun x3 => Vz (k := 7) (dv := [_, _, _, _, _]) (n := 5) (sz := 3) (vs := [_, _, _, _, _]) (zs := [_, _, _, _, _, _, _, _, _, _, _, _, _, _, _]) (r := [.int .i64 3, .int .i64 20, .slice (some ⟨x2, 0, none⟩) 1 1, .int .i64 1, .int .i64 8, .slice none 0 0, .int .i64 1, .int .i64 32, .slice none 0 0, .int .i64 4, .int .i64 512, .slice (some ⟨x3, 0, none⟩) 1 1, .int .i64 4, .int .i64 16, .slice (some ⟨s1, 0, none⟩) 1 1]) rfl rfl rfl rfl rfl rfl rfl rfl rfl rfl rfl rfl rfl mi rfl fun s2 => Jm (k := 8) rfl rfl rfl rfl rfl (fun _ hS => (J8 (r := [_, _, _]) rfl rfl)) (Yo (k := 9) (cs := #[_, _, _]) rfl rfl rfl rfl rfl rfl fun r5 => Kz ?_))))))
 refine Ng ?_; refine GS ?_; refine MD ?_; refine JB (vs := [_]) (zs := [_, _, _]) (r := [_, _, _]) rfl rfl rfl rfl rfl rfl rfl rfl rfl mi rfl fun r6 => Hs ?_
 refine LT 10 rfl rfl (Jy 3 rfl (Jj rfl rfl (.cons (Jt (vs := [_, _, _]) rfl (kn 10 rfl) rfl rfl) .nil) (fun w1 hs1 => ?_))); exact ⟨⟨Jo9 x1 x1 x2 x3 r3 s1 s2 r6, _, Jij (e := 76) me me me me me me me me, Jik ..⟩, rfl, hs1⟩
def jY (b : UInt8) : Vl := .mk b.toNat 0 0 0 [] none [] none 0
def yA (s : BS) : Vl := KI (s.map jY) 0
theorem Jyj (b : UInt8) : (jY b).cells = [uV b.toNat, uV 0, uV 0, uV 0, .slice none 0 0, .slice none 0 0, .int .i64 0] := rfl
theorem Juz (b : UInt8) : Vl.In [] (jY b) := .mk (by have := Vs b; unfold XJ; omega) u0 u0 u0 m6 rfl m6 rfl i0 (fun x hx => nomatch hx)
theorem Ju0 (s : BS) (p : Pl) : WU (.mk 0 0 0 0 [] none (s.map jY) p 0) = yA s := by
 rw [Qa, Wi, List.map_map, show (WU ∘ jY) = jY from funext fun b => by show WU (jY b) = jY b; unfold jY; rw [Qa, Yx]]; rfl
theorem Jte (h : i < s.length) : Qi ((s.take i).map jY) ++ [uV (s.getD i 0).toNat, uV 0, uV 0, uV 0, .slice none 0 0, .slice none 0 0, .int .i64 0] = Qi ((s.take (i + 1)).map jY) := by
 have h1 : s[i]? = some (s.getD i 0) := by rw [List.getD_eq_getElem?_getD, List.getElem?_eq_getElem h]; rfl
 rw [Kp h1, List.map_append]
 unfold Qi
 rw [List.flatMap_append]; simp [Jyj]
theorem Jba (hl : s.length ≤ 100000) : PureT (α := VR (yA s)) Tryz.prog 79 [Js s].toArray (fun y => y.x.val) [] (fun y => y.L) [] := by
 refine J4 Tryz.func79 rfl rfl fun w => Mw fun r1 => ?_; refine GS ?_; refine LN rfl fun r2 => gB ?_; refine g6 ?_; refine kA ?_; refine Jw (σ := Nat × Vk) (fun q => q.1 ≤ s.length ∧ rowOk 7 q.1 (Qi ((s.take q.1).map jY)) q.2) (fun q => [(0, Js s), (2, VA r1), (3, VA r2), (6, .int .i64 (s.length : Int)), (7, .int .i64 (q.1 : Int))]) (fun q => (r2, .cells #[.int .u64 0, .int .u64 0, .int .u64 0, .int .u64 0, .slice none 0 0, Jx q.1 q.2, .int .i64 0] 81 (0, 0)) :: (r1, .cells #[.int .u64 0, .int .u64 0, .int .u64 0, .int .u64 0, .slice none 0 0, .slice none 0 0, .int .i64 0] 81 (0, 0)) :: JJ 81 (Qi ((s.take q.1).map jY)) q.2) (fun _ _ _ => True) (fun q => s.length - q.1) (0, none) ⟨Nat.zero_le _, rfl, rfl⟩ (lK rfl) (List.Sublist.refl _) (fun _ _ h => h) ?_; rintro ⟨i, row⟩ ⟨hi1, hrow⟩; simp only at hi1 hrow; change HC _ _ [(0, Js s), (2, VA r1), (3, VA r2), (6, .int .i64 (s.length : Int)), (7, .int .i64 (i : Int))] ((r2, .cells #[.int .u64 0, .int .u64 0, .int .u64 0, .int .u64 0, .slice none 0 0, Jx i row, .int .i64 0] 81 (0, 0)) :: (r1, .cells #[.int .u64 0, .int .u64 0, .int .u64 0, .int .u64 0, .slice none 0 0, .slice none 0 0, .int .i64 0] 81 (0, 0)) :: JJ 81 (Qi ((s.take i).map jY)) row) _ _ _; refine Nd ?_; refine cD (fun g => ?_) fun g => ?_
 ·refine JS 10 rfl ?_
  refine JU [(r2, .cells #[.int .u64 0, .int .u64 0, .int .u64 0, .int .u64 0, .slice none 0 0, Jx i row, .int .i64 0] 81 (0, 0))] [(0, .pure), (1, .pure), (2, .pure), (3, .pure), (4, .pure), (5, .pure), (6, .pure), (7, .pure), (8, .grow (Wb (slV 1) (.cells #[uV (s.getD i 0).toNat, uV 0, uV 0, uV 0, .slice none 0 0, .slice none 0 0, .int .i64 0] 81 (0, 0))))] 9 [0, 1, 2, 3, 4, 5, 6, 7, 8] m5 m5 m7 ?_
  refine MG ?_; refine Jm (k := 2) rfl rfl rfl rfl rfl (fun _ hS => (Je rfl)) (Jm (k := 3) rfl rfl rfl rfl rfl (fun _ hS => (Je rfl)) (Jm (k := 4) rfl rfl rfl rfl rfl (fun _ _ => Ws (j := i) rfl rfl rfl rfl m0 rfl) (Jm (k := 5) rfl rfl rfl rfl rfl (fun _ _ => (J1 rfl rfl rfl)) (WE mQ (WF (k := 6) rfl rfl rfl rfl rfl Jnk (Ys _) (Jm (k := 7) rfl rfl rfl rfl rfl (fun _ hS => (J8 (r := [_, _, _, _, _, _, _]) rfl rfl)) (VL (k := 8) (n := 1) (sz := 7) (vs := [_]) (zs := [_, _, _, _, _, _, _]) (r := [uV (s.getD i 0).toNat, uV 0, uV 0, uV 0, .slice none 0 0, .slice none 0 0, .int .i64 0]) rfl rfl rfl rfl rfl rfl rfl rfl rfl rfl rfl mi rfl fun rb => Kz (JF (L0 := [_, _, _]) (xs := Qi ((s.take i).map jY)) (row := row) (n := i) (sz := 7) (b := 88) (news := [_, _, _, _, _, _, _]) (List.perm_append_comm (l₁ := [_, _, _])) rfl rfl rfl rfl (kn 0 rfl) rfl rfl rfl rfl rfl m6 rfl rfl rfl m6 hrow m0 m0 fun ra cap sp hra => ?_))))))))
  refine LS 1 [] rfl rfl (Kh (k := 2) (cs' := #[.int .u64 0, .int .u64 0, .int .u64 0, .int .u64 0, .slice none 0 0, Jx (i + 1) (some (ra, cap, sp)), .int .i64 0]) rfl rfl rfl rfl rfl rfl rfl rfl rfl rfl (N5 ?_)); refine NF ?_; rw [Jte m0] at hra ⊢; refine QE [2, 3, 0] (L' := [_, _, _]) m6 rfl ?_; exact G7
 ·refine Nd ?_
  have honeV : ([.int .u64 0, .int .u64 0, .int .u64 0, .int .u64 0, .slice none 0 0, Jx i row, .int .i64 0] : List Value).all QL = true := by cases row <;> rfl
  refine MF fun w1 hs1 => ?_
  have hiM : i = s.length := by omega
  rw [hiM, List.take_length] at hrow hs1
  have hrow2 : rowOk 7 (s.map jY).length (Qi (s.map jY)) row := by rw [List.length_map]; exact hrow
  have hvr : Jx i row = KB (s.map jY).length (QN row) := by rw [hiM, List.length_map]; exact (V4 _ _ (fun h => by rw [h] at hrow; exact hrow.1)).symm
  exact ⟨⟨.mk 0 0 0 0 [] none (s.map jY) (QN row) 0, JJ 81 (Qi (s.map jY)) row ++ [], jX (by rw [List.length_map]; omega) (KC hrow2 m6) (fun x hx => by obtain ⟨b, _, rfl⟩ := List.mem_map.1 hx; exact Juz b) i0, Ju0 s _⟩, congrArg (fun z => Ending.returned (Value.agg #[.int .u64 0, .int .u64 0, .int .u64 0, .int .u64 0, .slice none 0 0, z, .int .i64 0])) hvr, hs1.weakL (.cons _ (.cons _ (by simp only [List.append_nil]; exact List.Sublist.refl _)))⟩
section
variable {c : Cx} {l : Kj} {L : Ji} {X : XP} {Q : Exit → Act → List Frame → World → Prop} {d : List Deferred} {cs : List Frame}
variable {ops : Array Oper} {rest : List Nat} {k : Nat} {o : Oper}
theorem wa (h : HS c d l L X ops rest cs Q) : HQ c d l L X ((fun e a w => e = Exit.normal ∧ wpOpsSIn (FW none) 0 c.P ops Q rest a cs w) .normal) := fun a w hf hs => ⟨rfl, h a w hf hs⟩
theorem Jbb (ho : Wl ops.toList k = some o) (hp : ∀ (ρ : Operand → Value) w x w', (execOp ρ o).run c.P w = .ok x w' → (∃ v, x = .value v) ∨ x = .skip) (hn : Kn o.op = true) (hro : c.ro = none) (h : HL c d l L X ops [o] (fun e a w => e = Exit.normal ∧ wpOpsSIn (FW none) 0 c.P ops Q rest a cs w)) : HS c d l L X ops (k :: rest) cs Q := fun a w hf hs => by
 have hk : ops[k]? = some o := by rw [← QJ ho]
 have h1 := h a w hf hs
 unfold wpListIn at h1
 simp only [wpOpsSIn, hk]; refine ⟨KQ, ?_⟩
 by_cases hw : Region.wanted o (yielded ops a.tmps) = true
 ·rw [if_pos hw] at h1 ⊢
  obtain ⟨_, h2⟩ := h1
  rw [Oper.semAt_eq _ _ _ (Wn hn)] at h2
  cases e : (execOp a.eval o).run c.P w with
  | ok x w' =>
   rw [e] at h2
   rcases hp a.eval w x w' e with ⟨v, rfl⟩ | rfl
   ·exact h2.2
   ·exact h2.2
  | halt x w' =>
   rw [e] at h2
   cases x with
   | panic v => exact absurd h2.1 me
   | _ => exact h2.elim
 ·rw [if_neg hw] at h1 ⊢
  exact h1.2.2
theorem vh  {t : TypeId} (ρ : Operand → Value) (w : World) (x : Next) (w' : World) (h : (execOp ρ ⟨dst, .alloc t, ty, ps, af, gd⟩).run P w = .ok x w') : (∃ v, x = .value v) ∨ x = .skip := by
 simp only [execOp, Sem.run_bind] at h
 cases e : (Instr.alloc t true (.tuple #[])).run P w with
 | ok v w2 => rw [e] at h; simp [Result.andThen] at h; exact .inl ⟨v, h.1.symm⟩
 | halt v w2 => rw [e] at h; simp [Result.andThen] at h
theorem vi  {t : TypeId} {a b : Operand} (ρ : Operand → Value) (w : World) (x : Next) (w' : World) (h : (execOp ρ ⟨dst, .store t a b, ty, ps, af, gd⟩).run P w = .ok x w') : (∃ v, x = .value v) ∨ x = .skip := by
 simp only [execOp, Sem.run_bind] at h
 cases e : (Instr.storeAt t (ρ a) (ρ b)).run P w with
 | ok v w2 => rw [e] at h; simp [Result.andThen] at h; exact .inr h.1.symm
 | halt v w2 => rw [e] at h; simp [Result.andThen] at h
end
def gT (rv re : Nat) (V : Array Value) (e : Int) : Ji := [(rv, .cells V 81 (0, 0)), (re, .cells #[.int .i64 e] 27 (0, 0))]
abbrev VZ0 : Array Value := #[.int .u64 0, .int .u64 0, .int .u64 0, .int .u64 0, .slice none 0 0, .slice none 0 0, .int .i64 0]
theorem Jyk (rv re : Nat) (hne : rv ≠ re) (V : Array Value) (hV : V.size = 7) (e0 : Int) (w : World) (hT : vk (gT rv re V e0) w) : CallsDIn (FW none) 0 Tryz.prog 92 [VA rv, VA re].toArray .returning w (fun e u' w' => (∃ x, e = .returned x) ∧ settle u' = .returning ∧ Keep [rv, re] w w' ∧ vk (gT rv re V e0) w') := by
 refine jJ (cxT Tryz.prog w (gT rv re V e0) [] Tryz.f92.ntmps) Tryz.func92 rfl rfl rfl rfl (L := gT rv re V e0) (X := fun _ _ => True) (St.startT hT (fun p hp => nomatch hp) (List.pairwise_pair.2 hne) (fun p hp => nomatch hp)) fun c₀ cs hu => ?_
 obtain ⟨hrv, hrc⟩ := Jnh (cs := cs) hu
 refine Jhp fun K hK => wQ ?_; change HS _ _ _ _ _ _ [0, 1, 2, 3, 4, 5, 6, 7] _ _; refine wR rfl rfl rfl rfl (fun a w hf => rfl) hrv hrc (yS rfl rfl rfl rfl (J1 rfl rfl rfl) (yS rfl rfl rfl rfl (Je rfl) (yS rfl rfl rfl rfl (Qh rfl rfl) (yS rfl rfl rfl rfl (Qh rfl rfl) (Jbb rfl vh rfl rfl (LN rfl fun r2 => KE (wa ?_))))))); refine Jbb rfl vi rfl rfl (Qs (k := 0) (n := 1) (cs' := #[_]) (vs := #[_]) rfl rfl rfl rfl rfl rfl rfl mo rfl rfl (KE (wa ?_))); refine yS rfl rfl rfl rfl (JH rfl) (Jne (hK _ _ _ _ _ (Jnd rfl ?_))); clear hK K; refine sR fun _ hK1 => QV rfl (nK hK1 (JA rfl (fun g => ?_) (fun g => ?_)))
 try exact Bool.noConfusion g
 ·try simp only [ZZ] at g
  refine vt (zA (u' := .returning) rfl rfl rfl .nil (fun w1 hs1 => ?_)); refine ⟨⟨_, rfl⟩, rfl, by have := hs1.keep; simpa [cxT, gT] using this, fun p hp => ?_⟩; exact (hs1.own p (List.mem_cons_of_mem _ hp)).2.2
theorem Jyl (rv re : Nat) (hne : rv ≠ re) (V : Array Value) (hV : V.size = 7) (e0 : Int) (e1 : Int) (w : World) (hT : vk (gT rv re V e0) w) : CallsDIn (FW none) 0 Tryz.prog 92 [VA rv, VA re].toArray (.panicking (wP (zP e1))) w (fun e u' w' => (∃ x, e = .returned x) ∧ settle u' = .returning ∧ Keep [rv, re] w w' ∧ vk (gT rv re VZ0 e1) w') := by
 refine jJ (cxT Tryz.prog w (gT rv re V e0) [] Tryz.f92.ntmps) Tryz.func92 rfl rfl rfl rfl (L := gT rv re V e0) (X := fun _ _ => True) (St.startT hT (fun p hp => nomatch hp) (List.pairwise_pair.2 hne) (fun p hp => nomatch hp)) fun c₀ cs hu => ?_
 obtain ⟨hrv, hrc⟩ := Jng (cs := cs) hu
 refine Jhp fun K hK => wQ ?_; change HS _ _ _ _ _ _ [0, 1, 2, 3, 4, 5, 6, 7] _ _; refine wR rfl rfl rfl rfl (fun a w hf => rfl) hrv hrc (yS rfl rfl rfl rfl (J1 rfl rfl rfl) (yS rfl rfl rfl rfl (Je rfl) (yS rfl rfl rfl rfl (Qh rfl rfl) (yS rfl rfl rfl rfl (Qh rfl rfl) (Jbb rfl vh rfl rfl (LN rfl fun r2 => KE (wa ?_))))))); refine Jbb rfl vi rfl rfl (Qs (k := 0) (n := 1) (cs' := #[_]) (vs := #[_]) rfl rfl rfl rfl rfl rfl rfl mo rfl rfl (KE (wa ?_))); refine yS rfl rfl rfl rfl (JH rfl) (Jne (hK _ _ _ _ _ (Jnd rfl ?_))); clear hK K; refine sR fun _ hK1 => QV rfl (nK hK1 (JA rfl (fun g => ?_) (fun g => ?_)))
 try simp only [ZZ] at g
 refine JU [(r2, .cells #[.int .i64 e1] 113 (0, 0))] [(0, .pure), (1, .pure), (2, .pure), (3, .turn), (4, .turn)] 5 [0, 1, 2, 3, 4] m5 m5 m7 (Jm (k := 0) rfl rfl rfl rfl rfl (fun _ hS => (J8 (r := [_, _, _, _, _, _, _]) rfl rfl)) ?_)
 refine Jm (k := 1) rfl rfl rfl rfl rfl (fun _ hS => (J7 rfl rfl rfl)) (Jm (k := 2) rfl rfl rfl rfl rfl (fun _ hS => (Jd rfl (.inl (hS _ (Kq (n := 0) rfl))) rfl rfl)) (qP (k := 3) (q := 1) (n := 7) (ys := [.int .u64 0, .int .u64 0, .int .u64 0, .int .u64 0, .slice none 0 0, .slice none 0 0, .int .i64 0]) rfl rfl rfl rfl rfl rfl rfl rfl hV rfl rfl (by simp [SubS]) ?_))
 refine WG (k := 4) (q := 2) rfl rfl rfl rfl rfl rfl rfl rfl rfl mf mg m7 (Kz (KE (zA (u' := .panicking [{ v := zP e1, recovered := true }]) rfl rfl rfl .nil (fun w1 hs1 => ?_)))); refine ⟨⟨_, rfl⟩, rfl, by have := hs1.keep; simpa [cxT, gT] using this, fun p hp => ?_⟩; exact (hs1.own p (List.mem_cons_of_mem _ hp)).2.2
 ·try exact Bool.noConfusion g
theorem Jpa (t : Ty) (s : BS) : (KJ t s).2 ≠ 0 → (KJ t s).1 = v0L := by
 obtain ⟨k, n, p, ins⟩ := t
 rw [KJ]
 unfold jd Ja4
 dsimp only
 repeat' split
 all_goals first | (intro _; rfl) | (intro h; exact absurd rfl h)
def getR (t : Ty) (s : BS) : Vl × Int := if V7 t 0 ≠ 0 then (v0L, V7 t 0) else if 65536 < s.length then (v0L, 5) else KJ t s
theorem Jpb : Vl.In [] v0L := .mk u0 u0 u0 u0 m6 rfl m6 rfl i0 (fun x hx => nomatch hx)
section
variable {c : Cx} {l : Kj} {L L0 : Ji} {X : XP} {d : List Deferred} {fn : Func} {R : Ending → World → Prop} {rv re : Nat} {V : Array Value} {e0 e1 : Int}
theorem yB (hs : St c (gT rv re V e0 ++ L0) X w) : vk (gT rv re V e0) w ∧ rv ≠ re := ⟨fun p hp => (hs.own p (List.mem_append_left _ hp)).2.2, by
 have := (List.pairwise_append.1 hs.distinct).1
 exact (List.pairwise_cons.1 this).1 _ (List.mem_singleton_self _)⟩
theorem Jil {V' : Array Value} {w' : World} (hs : St c (gT rv re V e0 ++ L0) X w) (hk : Keep [rv, re] w w') (hT : vk (gT rv re V' e1) w') : St c (gT rv re V' e1 ++ L0) X w' := by
 obtain ⟨_, hne⟩ := yB hs
 refine hs.turnT (by simpa [gT] using hk) (fun p hp => ⟨.inl ?_, hT p hp⟩) (List.pairwise_pair.2 hne)
 rcases List.mem_cons.1 hp with rfl | hp
 ·simp [gT]
 ·rw [List.mem_singleton.1 hp]; simp [gT]
theorem Ju1 (hP : c.P = Tryz.prog) (hp : L.Perm (gT rv re V e0 ++ L0)) (hV : V.size = 7) (h : HQ c d l (gT rv re V e0 ++ L0) X (bodyPostM (FW none) 0 Tryz.prog fn R .ret)) : HQ c (dF 92 [VA rv, VA re] :: d) l L X (bodyPostM (FW none) 0 Tryz.prog fn R .ret) :=
 XD hp (Jvx (enters_of Tryz.func92 m5 rfl) (fun w hs => CallsDIn.mono (Jyk rv re (yB hs).2 V hV e0 w (yB hs).1) fun _ _ _ ⟨h1, h2, h3, h4⟩ => ⟨h1, h2, Jil hs h3 h4⟩) h)
theorem Ju2 (hP : c.P = Tryz.prog) (hd : d = []) (hp : L.Perm (gT rv re V e0 ++ L0)) (hV : V.size = 7) (h : HQ c d l (gT rv re VZ0 e1 ++ L0) X (bodyPostM (FW none) 0 Tryz.prog fn R .ret)) : HQ c (dF 92 [VA rv, VA re] :: d) l L X (bodyPostM (FW none) 0 Tryz.prog fn R (.panic (wP (zP e1)))) :=
 XD hp (Jr4 (enters_of Tryz.func92 m5 rfl) (fun w hs => CallsDIn.mono (Jyl rv re (yB hs).2 V hV e0 e1 w (yB hs).1) fun _ _ _ ⟨h1, h2, h3, h4⟩ => ⟨h1, h2, Jil hs h3 h4⟩) h)
end
set_option maxHeartbeats 1000000 in
theorem Jym (ht : t.In R) (s : BS) : PureT (α := VR (getR t s).1) Tryz.prog 60 [t.val, Js s].toArray (fun y => .tuple #[y.x.val, .int .i64 (getR t s).2]) [] (fun y => y.L) R := by
 have hC := Jap ht
 have hG := Jyh ht (s := s)
 have hbd := Jpa t s
 have hg0 : V7 t 0 ≠ 0 → getR t s = (v0L, V7 t 0) := fun h => by unfold getR; rw [if_pos h]
 have hg1 : V7 t 0 = 0 → 65536 < s.length → getR t s = (v0L, 5) := fun h h2 => by unfold getR; rw [if_neg (by rw [h]; decide), if_pos h2]
 have hg2 : V7 t 0 = 0 → ¬ 65536 < s.length → getR t s = KJ t s := fun h h2 => by unfold getR; rw [if_neg (by rw [h]; decide), if_neg h2]
 generalize hcz : V7 t 0 = z at hC hG hg0 hg1 hg2
 obtain ⟨k, n, p, ins⟩ := t
 refine J4 Tryz.func60 rfl rfl fun w => ML fun r1 r2 => ?_; refine LN rfl fun r3 => GS ?_; refine g7 ?_; refine Jnb (caps := [VA r2, VA r3]) rfl rfl rfl ?_ rfl; refine N5 ?_; refine H5 ?_; refine Jc rfl rfl rfl Jv7 hC oR (He ?_); refine cD (fun g => ?_) fun g => ?_
 ·refine N6 ?_; refine kH ?_; refine QV rfl ?_
  refine LT 1 rfl rfl ?_
  refine Ng ?_; refine gA ?_
  (refine Ju1 (L0 := [_]) rfl (List.Perm.swap _ _ _) rfl ?_
   refine Jj rfl rfl (.cons (Jt (vs := [_, _, _, _, _, _, _]) rfl (kn 0 rfl) rfl rfl) (.cons (KL rfl (kn 1 rfl) rfl rfl) .nil)) (fun w1 hs1 => ?_)
   exact ⟨⟨v0L, [], Jpb, by rw [hg0 m8]; rfl⟩, congrArg (fun z => Ending.returned (Value.tuple #[v0L.val, .int .i64 z])) (congrArg Prod.snd (hg0 m8)).symm, hs1.weakL (List.nil_sublist _)⟩)
 ·refine Gt ?_
  have hz : z = 0 := by assumption
  refine N6 ?_; refine g6 ?_; refine WR rfl (KN rfl rfl rfl ZP (VE (_) 5) oN (fun hok _ => ?_) (fun v hv => by obtain ⟨hvb, rfl⟩ := hv; refine Ju2 (e1 := 5) (L0 := [_]) rfl rfl (List.Perm.swap _ _ _) rfl ?_; refine Jj rfl rfl (.cons (Jt (vs := [_, _, _, _, _, _, _]) rfl (kn 0 rfl) rfl rfl) (.cons (KL rfl (kn 1 rfl) rfl rfl) .nil)) (fun w1 hs1 => ?_); exact ⟨⟨v0L, [], Jpb, by rw [hg1 hz (by have := Z2.1 hvb; omega)]; rfl⟩, congrArg (fun z => Ending.returned (Value.tuple #[v0L.val, .int .i64 z])) (congrArg Prod.snd (hg1 hz (by have := Z2.1 hvb; omega))).symm, hs1.weakL (List.nil_sublist _)⟩))
  have hl : ¬ 65536 < s.length := by have := Z1.mp hok; omega
  refine XN 6 [2] rfl rfl (KN rfl rfl rfl Jnl (hG hz m0) oR (fun hok y => ?_) (fun v hv => by obtain ⟨hvb, rfl⟩ := hv; refine Ju2 (e1 := (KJ (.mk k n p ins) s).2) (L0 := [_]) rfl rfl (List.Perm.swap _ _ _) rfl ?_; refine Jj rfl rfl (.cons (Jt (vs := [_, _, _, _, _, _, _]) rfl (kn 0 rfl) rfl rfl) (.cons (KL rfl (kn 1 rfl) rfl rfl) .nil)) (fun w1 hs1 => ?_); exact ⟨⟨v0L, [], Jpb, by rw [hg2 hz hl, hbd hvb]; rfl⟩, congrArg (fun z => Ending.returned (Value.tuple #[v0L.val, .int .i64 z])) (congrArg Prod.snd (hg2 hz hl)).symm, hs1.weakL (List.nil_sublist _)⟩))
  obtain ⟨⟨ya, yb, yc, yd, ybits, ypb, yitems, ypi, ypick⟩, yL, yok, yer⟩ := y
  refine gx ?_
  refine LT 1 rfl rfl ?_
  refine Ng ?_; refine Jy 3 rfl ?_
  (refine Ju1 (L0 := _ :: yL) rfl (List.Perm.swap _ _ _) rfl ?_
   refine Jj rfl rfl (.cons (Jt (vs := [_, _, _, _, _, _, _]) rfl (kn 0 rfl) rfl rfl) (.cons (KL rfl (kn 1 rfl) rfl rfl) .nil)) (fun w1 hs1 => ?_)
   exact ⟨⟨.mk ya yb yc yd ybits ypb yitems ypi ypick, yL, yok, by rw [hg2 hz hl]; exact yer⟩, congrArg (fun z => Ending.returned (Value.tuple #[Vl.val (.mk ya yb yc yd ybits ypb yitems ypi ypick), .int .i64 z])) ((congrArg Prod.snd (hg2 hz hl)).trans hok).symm, hs1.weakL (.cons _ (.cons _ (.cons _ (List.Sublist.refl _))))⟩)
section
variable {c : Cx} {l : Kj} {L E : Ji} {X : XP} {Q : Exit → Act → World → Prop} {d : List Deferred}
variable {ops : Array Oper} {rest : List Nat} {i k : Nat} {v : Value} {o : Oper} {tb : j7} {S : Ji} {T : Ji → Act → Prop}
theorem Jpc  {T0 L0 : Ji} {f : Operand}
  (hp : E.Perm (T0 ++ L0)) (hk : Wl ops.toList k = some ⟨some i, .call ⟨.value f, args, at_⟩, ty, ps, af, gd⟩) (hg : Kg l ops ⟨some i, .call ⟨.value f, args, at_⟩, ty, ps, af, gd⟩ = some true) (hi : Nat.ble (i + 1) c.n = true) (hA : tb k = .turn) (hca : Kw l f args = some (g, vs)) (eg : Enters c.P g)
  (hpt : PureT c.P g vs.toArray V T0 LL Rl) (hR : ∀ p ∈ Rl, known c L0 p.1 p.2) (hS : ∀ x, SubS S (LL x ++ L0)) (h : ∀ x, HB c d ((i, V x) :: l) (LL x ++ L0) X S ops tb rest T) : HB c d l E X S ops tb (k :: rest) T := fun a hf => by
 refine ⟨_, QJ hk, ?_⟩; rw [hA]; refine .inl ⟨α, V, fun x => LL x ++ L0, ⟨J3 hf hg, fun w hs => ?_⟩, fun x => ⟨hS x, h x _ (hf.put (Nat.le_of_ble_eq_true hi))⟩⟩
 have hs := hs.perm hp
 obtain ⟨hd1, _, hd3⟩ := List.pairwise_append.1 hs.distinct
 refine Xw hf hca eg ((hpt.run w (fun p hp => (hs.own p (List.mem_append_left _ hp)).2.2) (fun p hp => ?_) hd1 (fun p hp q hq => ?_)).mono fun _ _ ⟨x, he, hk, h1, h2⟩ => ⟨V x, he, x, rfl, hs.turnT hk h1 h2⟩)
 ·exact (hR p hp).elim (fun h => (hs.own _ (List.mem_append_right _ h)).2.2) hs.readR
 ·rcases hR p hp with h | h
  ·exact fun e => hd3 q hq _ h e.symm
  ·rintro e
   obtain ⟨h1, _, h3⟩ := hs.ext _ h
   have h3 := Jq h3
   rcases (hs.own q (List.mem_append_left _ hq)).1 with h4 | h4
   ·exact h1 (e ▸ h4)
   ·simp only at h3 e; omega
end
theorem Jyn {n : Nat} {xs : List Value} (h : xs.length = n) : rowOk 1 n xs (some (0, n, [])) := ⟨by rw [h, Nat.mul_one], by simp⟩
theorem Jpd {k n : Int} {p : Pl} {ins : List Ty} {items : List Vl} (ht : Ty.In R (.mk k n p ins)) (h8 : k ≠ 8) (hs : Seg R items.length (Qi items) pi) (hl : items.length ≤ 600) (hx : ∀ i, i < items.length → VX k 0 i < ins.length)
  (hb : ∀ (i : Nat) x, items[i]? = some x → PureR Tryz.prog 85 [(JE k 0 ins i).val, x.val].toArray (Js (Ky x (JE k 0 ins i))) R) :
  PureT (α := { row : Vk // rowOk 1 items.length (W8 (Kf items k 0 ins 0)) row }) Tryz.prog 135 [Ty.val (.mk k n p ins), KB items.length pi].toArray (fun x => Jx items.length x.1) [] (fun x => JJ 9 (W8 (Kf items k 0 ins 0)) x.1) R := by
 cases ht with
 | @mk k n p ins hk hn hlt hst hit =>
 have hRL := Wy items k 0 ins 0
 obtain ⟨RS, hRS⟩ : ∃ x, x = Kf items k 0 ins 0 := ⟨_, rfl⟩
 have htk := fun i x (h : items[i]? = some x) => yp k ins (i := 0) h
 simp only [← hRS, Nat.zero_add] at htk; rw [← hRS] at hRL ⊢; refine J4 Tryz.func135 rfl rfl fun w => Mw fun r1 => ?_; refine JM 12 rfl (gY ?_); refine Jw (σ := Nat × Vk) (fun q => q.1 ≤ items.length ∧ rowOk 1 q.1 (W8 (RS.take q.1)) q.2) (fun q => [(2, VA r1), (5, Jx q.1 q.2), (9, KB items.length pi), (10, .int .i64 (items.length : Int)), (11, .int .i64 (q.1 : Int))]) (fun q => VK r1 (.mk k n p ins) :: JJ 9 (W8 (RS.take q.1)) q.2) (fun _ _ _ => True) (fun q => items.length - q.1) (0, none) ⟨Nat.zero_le _, by rw [List.take_zero]; exact ⟨rfl, rfl⟩⟩ (lK rfl) (List.Sublist.refl _) (fun _ _ h => h) ?_; rintro ⟨i, row⟩ ⟨hi1, hrow⟩; simp only at hi1 hrow; change HC _ _ [(2, _), (5, Jx i row), (9, _), (10, _), (11, .int .i64 (i : Int))] ((r1, _) :: JJ _ (W8 (RS.take i)) row) _ _ _; refine Nd ?_; refine cD (fun h7 => ?_) fun h7 => ?_
 ·refine kF ?_
  have hil : i < items.length := by omega
  have hix := XX hil
  have hbi := hb i _ hix.1
  have hty := Qp (hx i hil)
  have hi0 : 0 < ins.length := Nat.lt_of_le_of_lt (Nat.zero_le _) (hx i hil)
  have hy0 : ins[0]? = some (ins.getD 0 default) := by rw [List.getD_eq_getElem?_getD, List.getElem?_eq_getElem hi0]; rfl
  have htki := htk i _ hix.1
  obtain ⟨sv, hsv⟩ : ∃ x, x = Ky (XW items i) (JE k 0 ins i) := ⟨_, rfl⟩
  rw [← hsv] at hbi htki; refine N6 ?_
  refine gK fun rv => ?_; refine QV rfl (Jk (k := 0) (n := 7) (ys := (XW items i).cells) rfl rfl rfl rfl rfl (XW items i).len rfl (XW items i).one rfl (XN 6 [1] rfl rfl ?_)); refine LR rfl (Jf (j := 0) rfl hst rfl rfl rfl rfl m0) (LR rfl (KV oR rfl hst hy0 rfl rfl) (QD (cs := #[.int .i64 0, .int .i64 0, .slice none 0 0]) rfl rfl rfl rfl fun rt => Jk (k := 0) (n := 3) (ys := (ins.getD 0 default).cells) rfl rfl rfl rfl rfl (ins.getD 0 default).len rfl (ins.getD 0 default).one rfl (Goc 10 [2] rfl rfl (cD (fun g => ?_) fun g => ?_))))
  ·refine Wt 4 [2] rfl rfl (LR rfl (Jf (j := VX k 0 i) rfl hst rfl rfl rfl (by unfold VX; rw [if_pos m8]) (hx i hil)) (LR rfl (KV oR rfl hst hty.1 rfl rfl) (Jk (k := 0) (n := 3) (ys := (JE k 0 ins i).cells) rfl rfl rfl rfl rfl (JE k 0 ins i).len (by rw [List.size_toArray]; exact Ty.len _) (JE k 0 ins i).one rfl (gM ?_))))
   (have h7 : k = 7 := by assumption
    skip)
   refine Gj ?_; refine JB (vs := [_]) (zs := [_]) (r := [_]) rfl rfl rfl rfl rfl rfl rfl rfl rfl mq rfl fun r2 => ?_; exact Nj
  ·refine JS 2 rfl ?_
   (have h7 : ¬ k = 7 := by assumption
    have e : ins.getD 0 default = JE k 0 ins i := by unfold JE VX; rw [if_neg h7, if_neg h8]
    rw [e])
   refine Gj ?_; refine JB (vs := [_]) (zs := [_]) (r := [_]) rfl rfl rfl rfl rfl rfl rfl rfl rfl mq rfl fun r3 => ?_; exact Nj
 ·refine Nd ?_
  obtain rfl : i = items.length := by omega
  rw [List.take_of_length_le m0] at hrow ⊢; refine KS 6 rfl (N2 fun w1 hs1 => ?_); exact ⟨⟨row, hrow⟩, rfl, hs1.weakL (.cons _ (List.Sublist.refl _))⟩
abbrev jZ (l : List BS) : Type := { row : Vk // rowOk 1 l.length (W8 l) row }
def Jim (l : List BS) : jZ l := ⟨some (0, l.length, []), Jyn (by unfold W8; rw [List.length_map])⟩
abbrev rV {l : List BS} (x : jZ l) : Value := KB l.length (QN x.1)
abbrev rL {l : List BS} (x : jZ l) : Ji := JJ 9 (W8 l) x.1
theorem Jyo {l : List BS} (x : jZ l) : rV x = Jx l.length x.1 := V4 _ _ fun h => by
 have h2 := x.2
 rw [h] at h2; exact h2.1
theorem Jpe (l : List BS) : (fun x : jZ l => rV x) = fun x => Jx l.length x.1 := funext fun x => Jyo x
theorem Jpf (hl : s.length ≤ 1000000) : PureT (α := jZ (YF s)) Tryz.prog 172 [Js s].toArray (fun x => rV x) [] (fun x => rL x) [] := by
 have h := Jyb hl
 rw [← Zn] at h; rw [Jpe]; exact h
theorem zS {k n : Int} {p : Pl} {ins : List Ty} {items : List Vl} (ht : Ty.In R (.mk k n p ins)) (h8 : k ≠ 8) (hs : Seg R items.length (Qi items) pi) (hl : items.length ≤ 600) (hx : ∀ i, i < items.length → VX k 0 i < ins.length)
  (hb : ∀ (i : Nat) x, items[i]? = some x → PureR Tryz.prog 85 [(JE k 0 ins i).val, x.val].toArray (Js (Ky x (JE k 0 ins i))) R) :
  PureT (α := jZ (Kf items k 0 ins 0)) Tryz.prog 135 [Ty.val (.mk k n p ins), KB items.length pi].toArray (fun x => rV x) [] (fun x => rL x) R := by
 have h := Jpd ht h8 hs hl hx hb
 rw [Jpe]
 have e := Wy items k 0 ins 0
 generalize Kf items k 0 ins 0 = RS at h e ⊢
 rw [← e] at h; rw [← e]; exact h
theorem Jpg (t : Ty) : Pure Tryz.prog 171 [t.val].toArray (.bool (XB t)) := by
 obtain ⟨k, n, p, ins⟩ := t
 refine J5 Tryz.func171 rfl rfl fun w => Mw fun r1 => ?_; refine XN 9 [0] rfl rfl ?_
 refine J0 6 rfl (fun gb => ?_) (fun gb => ?_) <;> (try simp only [ZZ] at gb) <;> first | (refine LR rfl (J7 rfl rfl rfl) ?_) | (refine LK rfl ?_)
 all_goals (
  refine LW 4 [0] rfl rfl (Jy 1 rfl (qN 2 rfl ?_)); refine Mv fun w1 hs1 => ?_
  simp_all [JK, XB, Ty.k]
  all_goals first | done | rfl
  skip)
theorem Jws (n : Nat) : ((n + 7) / 8 + 31) / 32 = (n + 255) / 256 := by omega
theorem Jin {l : List Bool} {k : Int} {n : Nat} {p : Pl} {ins : List Ty} (hl : l.length ≤ n) (hn : n ≤ 512) (hs : Seg R l.length (Qx l) pb) :
  PureR Tryz.prog 131 [Ty.val (.mk k (n : Int) p ins), KB l.length pb].toArray (Js (Vc (YF (VC l)) ((n + 255) / 256))) R := by
 obtain ⟨N, hN⟩ : ∃ N, N = (l.length + 7) / 8 := ⟨_, rfl⟩
 have hpB : VC l = KM l N l.length := by rw [hN]; rfl
 have hnb := q6 (bits := l) (n := (n : Int)) m0
 rw [Int.toNat_natCast] at hnb
 have hc32 := ZI (VC l)
 have hcut := Jpf (s := VC l) (by rw [Xl]; omega)
 rw [hpB] at hnb hc32 hcut ⊢; refine Ja Tryz.func131 rfl rfl fun w => Mw fun r1 => ?_; refine gB ?_; refine MV ?_
 refine WR rfl (kG fun rm => ?_); refine GT ?_; refine gY ?_; refine Jw (σ := Nat) (fun i => i ≤ l.length) (fun i => [(2, VA r1), (5, .slice (some ⟨rm, 0, none⟩) N N), (14, KB l.length pb), (15, .int .i64 (l.length : Int)), (16, .int .i64 (i : Int))]) (fun i => [(rm, .cells ((KM l N i).map bV).toArray 5 (0, 0)), VK r1 (.mk k (n : Int) p ins)]) (fun _ _ _ => True) (fun i => l.length - i) 0 (Nat.zero_le _) (lK rfl) (List.Sublist.refl _) (fun _ _ h => h) ?_; intro i hi1; change HC _ _ _ ((rm, _) :: (r1, _) :: []) _ _ _; refine Nd ?_; refine cD (fun g => ?_) fun g => ?_
 ·refine kF ?_
  have hil : i < l.length := by omega
  have hi8 : i / 8 < N := by omega
  have hyb : l[i]? = some (l.getD i false) := by rw [List.getD_eq_getElem?_getD, List.getElem?_eq_getElem hil]; rfl
  refine N6 ?_
  refine NM ?_; refine LR rfl (Ym oR rfl hs hyb rfl) (He ?_); refine cD (fun g => ?_) fun g => ?_
  ·have hbt : l.getD i false = true := by assumption
   have hst1 : KM l N (i + 1) = (KM l N i).set (i / 8) (UInt8.ofNat (((KM l N i).getD (i / 8) 0).toNat ||| 2 ^ (i % 8))) := by rw [KM, if_pos hbt]
   obtain ⟨Y, hY⟩ : ∃ Y, Y = KM l N i := ⟨_, rfl⟩
   have hYl : Y.length = N := by rw [hY]; exact Vq l N i
   rw [← hY] at hst1 ⊢
   refine Ns ?_; refine WE (show _ = Value.int .i64 ((i / 8 : Nat) : Int) from congrArg (Value.int .i64) mm) (NA ?_); refine WE (show _ = Value.int .i64 ((i % 8 : Nat) : Int) from congrArg (Value.int .i64) mm) (Jm (k := 7) rfl rfl rfl rfl rfl (fun _ _ => zf (n := i % 8) (b := ((2 ^ (i % 8) : Nat) : Int)) rfl rfl rfl (show _ ≤ 8 from by omega) (Joj m0)) (MW ?_)); refine GU ?_; exact MU
  ·refine G4 ?_; refine NF ?_
   (have hst0 : KM l N (i + 1) = KM l N i := by rw [KM, if_neg my]
    exact Jo (i + 1) m0 m0 (lK rfl) (by rw [hst0]; exact List.Sublist.refl _) (fun _ _ h => h))
 ·refine Nd ?_
  obtain rfl : i = l.length := by omega
  refine JU [] [(0, .pure), (2, .grow (Qu (Jim (YF (KM l N l.length))) (fun x => rV x) (fun x => rL x))), (3, .pure), (5, .pure), (6, .pure), (7, .pure), (8, .pure), (10, .pure)] 11 [0, 1, 3, 4, 5, 6, 7, 2, 8, 9, 10] m5 m5 m7 (Ho ?_); refine KW (k := 1) rfl rfl rfl rfl rfl (QG (b := KM l N l.length) (row := some (rm, N, [])) (e := 5) nU ⟨by rw [List.length_map]; omega, by rw [Vq]; simp⟩ (fun p hp => .inl mA) rfl rfl rfl) ?_
  refine Jm (k := 3) rfl rfl rfl rfl rfl (fun _ hS => (J7 rfl rfl rfl)) (KW (k := 4) rfl rfl rfl rfl rfl (Jd rfl (kn 1 rfl) rfl rfl) ?_)
  refine Jm (k := 5) rfl rfl rfl rfl rfl (fun _ _ => (J1 rfl rfl rfl)) (WE (show _ = Value.int .i64 ((n + 8 : Nat) : Int) from congrArg (Value.int .i64) mm) ?_)
  refine Jm (k := 6) rfl rfl rfl rfl rfl (fun _ _ => (J1 rfl rfl rfl)) (WE (show _ = Value.int .i64 ((n + 7 : Nat) : Int) from congrArg (Value.int .i64) mm) ?_)
  refine Jm (k := 7) rfl rfl rfl rfl rfl (fun _ _ => (J1 rfl rfl rfl)) (WE (show _ = Value.int .i64 (((n + 7) / 8 : Nat) : Int) from congrArg (Value.int .i64) mm) (KY (k := 2) rfl rfl rfl rfl rfl (enters_of Tryz.func172 m5 rfl) hcut oN fun x => WF (k := 8) rfl rfl rfl rfl rfl (enters_of Tryz.func173 m5 rfl) (Jor (n := (n + 7) / 8) m0) ?_)); rw [Jws]; refine Ql (k := 9) rfl rfl rfl rfl rfl Jht (vO hnb m0 (KC x.2 m6) hc32) (fun q hq => .inl (List.mem_append_left _ hq)) (Jm (k := 10) rfl rfl rfl rfl rfl (fun _ hS => (JH rfl)) (Kz ?_)); exact H3
section
variable {c : Cx} {l : Kj} {L E : Ji} {X : XP} {Q : Exit → Act → World → Prop} {d : List Deferred}
variable {ops : Array Oper} {rest : List Nat} {i k : Nat} {v : Value} {o : Oper} {tb : j7} {S : Ji} {T : Ji → Act → Prop}
theorem Jkk {f : Operand}
  (hk : Wl ops.toList k = some ⟨some i, .call ⟨.value f, args, at_⟩, ty, ps, af, gd⟩) (hg : Kg l ops ⟨some i, .call ⟨.value f, args, at_⟩, ty, ps, af, gd⟩ = some true) (hi : Nat.ble (i + 1) c.n = true) (hA : tb k = .pure) (hca : Kw l f args = some (g, vs)) (eg : Enters c.P g)
  (hp : PureR c.P g vs.toArray v Rl) (hR : ∀ p ∈ Rl, p ∈ S ∨ p ∈ c.R) (h : HB c d ((i, v) :: l) E X S ops tb rest T) : HB c d l E X S ops tb (k :: rest) T := fun a hf => by
 refine ⟨_, QJ hk, ?_⟩; rw [hA]; exact ⟨v, .inl ⟨J3 hf hg, fun E' hE' w hs => Xw hf hca eg ((hp.run w fun p hp => (hR p hp).elim (fun h => (hs.own _ (hE' p h)).2.2) hs.readR).mono fun _ _ ⟨he, hk⟩ => ⟨v, he, rfl, hk⟩)⟩, h _ (hf.put (Nat.le_of_ble_eq_true hi))⟩
end
theorem Zs {k : Int} (h7 : k ≠ 7) (h8 : k ≠ 8) (x : Ty) (i : Nat) : JE k 0 [x] i = x := by unfold JE VX; rw [if_neg h7, if_neg h8]; rfl
theorem Jkl {l : List Vl} (h : l[i]? = some v) : Xi (l.take (i + 1)) x = Xi (l.take i) x ++ Vr v x := by
 unfold Xi
 rw [List.take_add_one, h]
 simp
theorem Jio {x : Ty} : ∀ {l : List Vl}, (∀ v ∈ l, (Vr v x).length ≤ 32) → (Xi l x).length ≤ 32 * l.length
 | [], _ => by unfold Xi; simp
 | v :: l, h => by
  have ih := Jio (l := l) fun y hy => h y (List.mem_cons_of_mem _ hy)
  have h1 := h v List.mem_cons_self
  unfold Xi at ih ⊢
  rw [List.map_cons, List.flatten_cons, List.length_append, List.length_cons]; omega
theorem yC (hc : V7 x 0 = 0) (hp : XB x = true) (hf : Ko v x = 0) : jO x v = (Vr v x, 0) ∧ (Vr v x).length ≤ 32 := by
 obtain ⟨f1, f2, f3, f4⟩ := ZJ hc hp
 have h1 := f4 v hf
 have h2 : (Vr v x).length ≤ 32 := by omega
 have h3 : Vt x v = 0 := by unfold Vt; rw [if_pos hc]; exact hf
 unfold jO
 rw [if_neg (by rw [h3]; simp), if_neg m0]; exact ⟨rfl, h2⟩
set_option maxHeartbeats 1000000 in
theorem Jwt {k : Int} {n : Nat} {p : Pl} {x0 : Ty} {items : List Vl} (ht : Ty.In R (.mk k (n : Int) p [x0])) (h7 : k ≠ 7) (h8 : k ≠ 8) (hc : V7 x0 0 = 0) (hs : Seg R items.length (Qi items) pi) (hl : items.length ≤ n) (hn : n ≤ 512)
  (hfit : ∀ v ∈ items, Ko v x0 = 0) (hw : ∀ v ∈ items, wV v ≤ 20000) (hIn : ∀ v ∈ items, v.In R)
  (hb : ∀ (i : Nat) x, items[i]? = some x → PureR Tryz.prog 85 [x0.val, x.val].toArray (Js (Ky x x0)) R) :
  PureR Tryz.prog 127 [Ty.val (.mk k (n : Int) p [x0]), KB items.length pi].toArray (Js (Xa k (n : Int) [x0] items (Kf items k 0 [x0] 0))) R := by
 have hro := zS ht h8 hs m0 (fun i _ => by unfold VX; rw [if_neg h7, if_neg h8]; exact Nat.lt_succ_self 0) (fun i x hx => by rw [Zs h7 h8]; exact hb i x hx)
 have hrl := Wy items k 0 [x0] 0
 have hr32 : ∀ s ∈ Kf items k 0 [x0] 0, s.length = 32 := fun s hs => by
  obtain ⟨j, x, h1, rfl⟩ := Yv hs
  rw [Zs h7 h8]; exact Yw x x0 0 hc (hfit x (List.mem_of_getElem? h1))
 have hrt := fun (x : jZ (Kf items k 0 [x0] 0)) => vO (m := n) m0 m0 (KC (e := 9) x.2 m6) hr32
 have hM : Xa k (n : Int) [x0] items (Kf items k 0 [x0] 0) = if XB x0 = true then Vc (YF (Xi items x0)) ((n * (JV x0).toNat + 31) / 32) else Vc (Kf items k 0 [x0] 0) n := by
  unfold Xa
  rw [if_neg h7]; rfl
 rw [hM]
 have hx0 := ht.sub x0 List.mem_cons_self
 have ht2 := ht
 cases ht with
 | @mk k n p ins hk hn2 hlt hst hit =>
 have hpl := Jpg x0
 refine Ja Tryz.func127 rfl rfl fun w => Mw fun r1 => ?_; refine XN 8 [0] rfl rfl ?_
 refine LR rfl (Jf (j := 0) rfl hst rfl rfl rfl mc (Nat.lt_succ_self 0)) (LR rfl (KV oR rfl hst Mh rfl rfl) (J6 rfl rfl rfl (enters_of Tryz.func171 m5 rfl) hpl (Nw ?_))); refine cD (fun g => ?_) fun g => ?_
 refine JS 1 rfl ?_
 refine JU [] [(1, .pure), (2, .grow (Qu (Jim (Kf items k 0 [x0] 0)) (fun x => rV x) (fun x => rL x))), (3, .pure), (6, .pure)] 7 [0, 1, 3, 4, 2, 5, 6] m5 m5 m7 (KW (k := 0) rfl rfl rfl rfl rfl (Jg (xs := (Ty.mk k (n : Int) p [x0]).cells) (n := 3) rfl (kn 0 rfl) rfl rfl (Ty.mk k (n : Int) p [x0]).len) (Jm (k := 1) rfl rfl rfl rfl rfl (fun _ hS => (Je rfl)) ?_))
 refine Jm (k := 3) rfl rfl rfl rfl rfl (fun _ hS => (J7 rfl rfl rfl)) (KW (k := 4) rfl rfl rfl rfl rfl (Jd rfl (kn 0 rfl) rfl rfl) (KY (k := 2) rfl rfl rfl rfl rfl (enters_of Tryz.func135 m5 rfl) hro (fun q hq => .inr hq) fun x => Ql (k := 5) rfl rfl rfl rfl rfl Jht (hrt x) (fun q hq => .inl (List.mem_append_left _ hq)) (Jm (k := 6) rfl rfl rfl rfl rfl (fun _ hS => (JH rfl)) (Kz (HO fun w1 hs1 => ?_))))); rw [if_neg (by rw [Bool.not_eq_true]; assumption)]; rfl
 ·refine Gt ?_
  have hp : XB x0 = true := by assumption
  obtain ⟨f1, f2, f3, f4⟩ := ZJ hc hp
  obtain ⟨z, hz⟩ : ∃ z, z = (JV x0).toNat := ⟨_, rfl⟩
  have hSz := Jfz hx0
  have hsz : ws x0 = (z : Int) := by unfold ws; rw [if_pos f1]; omega
  rw [hsz] at hSz
  have hnz : n * z ≤ 16384 := by
   have := Nat.mul_le_mul hn (show z ≤ 32 by omega)
   omega
  obtain ⟨C, hC⟩ : ∃ C, C = Xi items x0 := ⟨_, rfl⟩
  have hCl : C.length = items.length * z := by rw [hC]; exact jT fun v hv => by have := f4 v (hfit v hv); omega
  have hCn : C.length ≤ n * z := by rw [hCl]; exact Nat.mul_le_mul_right _ hl
  have hcn : (YF C).length ≤ (n * z + 31) / 32 := by rw [Zn]; unfold Ja1; omega
  refine Hf ?_; refine LN rfl fun r2 => gB ?_; refine gY ?_; refine Jw (σ := Nat × Vk × Bool) (fun q => q.1 ≤ items.length ∧ bOk (Xi (items.take q.1) x0) q.2.1) (fun q => [(2, VA r1), (5, VA r2), (22, KB items.length pi), (23, .int .i64 (items.length : Int)), (24, .int .i64 (q.1 : Int))]) (fun q => WZ r2 (Xi (items.take q.1) x0) q.2.1 q.2.2 ++ [VK r1 (Ty.mk k (n : Int) p [x0])]) (fun _ _ _ => True) (fun q => items.length - q.1) (0, none, false) ⟨Nat.zero_le _, Ja0⟩ (lK rfl) (List.Sublist.refl _) (fun _ _ h => h) ?_; rintro ⟨i, row, own⟩ ⟨hi1, hb1⟩; simp only at hi1 hb1; change HC _ _ [(2, _), (5, _), (22, _), (23, _), (24, .int .i64 (i : Int))] (WZ r2 (Xi (items.take i) x0) row own ++ [VK r1 (Ty.mk k (n : Int) p [x0])]) _ _ _; refine Nd ?_; refine cD (fun g => ?_) fun g => ?_
  ·refine kF ?_
   have hil : i < items.length := by omega
   have hix := XX hil
   have hpr := yC hc hp (hfit _ hix.2)
   have hput := Jom hx0 (hIn _ hix.2) (hw _ hix.2)
   rw [hpr.1] at hput
   have hsn := Jkl (x := x0) hix.1
   have hcl := Jio (x := x0) (l := items.take i) fun v hv => (yC hc hp (hfit v (List.mem_of_mem_take hv))).2
   rw [List.length_take] at hcl
   have hp2 := hpr.2
   refine Hf ?_
   refine gK fun rv => ?_; refine kP ?_; refine Nw ?_; refine JI 11 m5 m5 ?_
   refine gC ?_; refine Jb rfl rfl rfl (Jd (v := KB 1 p) rfl (.inl (List.mem_cons_of_mem _ (List.mem_append_right _ List.mem_cons_self))) rfl rfl) ?_
   refine Jb rfl rfl rfl (Jf (j := 0) rfl hst rfl rfl rfl mc (Nat.lt_succ_self 0)) (Jb rfl rfl rfl (KV oR rfl hst Mh rfl rfl) (Jb rfl rfl rfl (Jg (xs := (XW items i).cells) (n := 7) rfl (kn 0 rfl) rfl rfl (XW items i).len) (Xy rfl rfl rfl (enters_of Tryz.func52 m5 rfl) hput oR (H0 ?_)))); refine GS ?_; refine Vn (T := WZ r2 (Xi (items.take i) x0) row own) (L0 := _ :: [VK r1 (Ty.mk k (n : Int) p [x0])]) (Rl := []) List.perm_middle.symm rfl rfl rfl Jhr (vP hb1 (s2 := Vr (XW items i) x0) m0) oN fun x => ?_
   obtain ⟨rowx, hbx⟩ := x
   refine N5 ?_; refine NF ?_; refine jH (L' := WZ r2 (Xi (items.take (i + 1)) x0) rowx true ++ [VK r1 (Ty.mk k (n : Int) p [x0])]) (by rw [hsn]; exact (List.Sublist.refl _).append (.cons _ (List.Sublist.refl _))) ?_; exact Jo (i + 1, rowx, true) ⟨by simp only; omega, by simp only; rw [hsn]; exact hbx⟩ ml (lK rfl) (List.Sublist.refl _) (fun _ _ h => h)
  ·refine Nd ?_
   obtain rfl : i = items.length := by omega
   rw [List.take_length, ← hC] at hb1; rw [List.take_length, ← hC]; refine JU [VK r1 (Ty.mk k (n : Int) p [x0])] [(0, .turn), (1, .grow (Qu (Jim (YF C)) (fun x => rV x) (fun x => rL x))), (2, .pure), (3, .pure), (4, .pure), (5, .pure), (6, .pure), (7, .pure), (8, .pure), (9, .pure), (10, .pure)] 11 [2, 3, 4, 5, 6, 7, 0, 1, 8, 9, 10] m5 m5 (fun p hp => List.mem_append_right _ hp) ?_
   refine Nx ?_; refine Jm (k := 3) rfl rfl rfl rfl rfl (fun E' hS => Jd (v := .int .i64 (n : Int)) rfl (.inl (hS _ List.mem_cons_self)) rfl rfl) ?_
   refine Jm (k := 4) rfl rfl rfl rfl rfl (fun _ hS => (J7 rfl rfl rfl)) (Jm (k := 5) rfl rfl rfl rfl rfl (fun E' hS => Jd (v := KB 1 p) rfl (.inl (hS _ List.mem_cons_self)) rfl rfl) ?_)
   refine Jm (k := 6) rfl rfl rfl rfl rfl (fun E' hS => Jf (j := 0) rfl hst rfl rfl rfl mc (Nat.lt_succ_self 0)) (Jm (k := 7) rfl rfl rfl rfl rfl (fun E' hS => KV oR rfl hst Mh rfl rfl) (Jpc (k := 0) (T0 := WZ r2 C row own) (L0 := [VK r1 (Ty.mk k (n : Int) p [x0])]) (Rl := []) (List.Perm.refl _) rfl rfl rfl rfl rfl Jnm (Jf5 hb1 m0) oN (fun _ p hp => hp) fun u => KY (k := 1) rfl rfl rfl rfl rfl (enters_of Tryz.func172 m5 rfl) (Jpf (s := C) m0) oN fun x => Jkk (k := 8) rfl rfl rfl rfl rfl Jnr hSz (fun q hq => .inr hq) (Jm (k := 9) rfl rfl rfl rfl rfl (fun _ _ => (J1 rfl rfl rfl)) (WE (show _ = Value.int .i64 ((n * z : Nat) : Int) from congrArg (Value.int .i64) (by rw [← Int.natCast_mul]; exact wrap_i64 m0 m0)) (WF (k := 10) rfl rfl rfl rfl rfl (enters_of Tryz.func173 m5 rfl) (Jor (n := n * z) m0) (Kz (Jc rfl rfl rfl Jht (vO hcn m0 (KC x.2 m6) (ZI _)) (fun q hq => .inl (List.mem_append_left _ hq)) (HO fun w1 hs1 => ?_)))))))); rw [if_pos hp]; (try rw [← hz]); (try rw [← hC]); rfl
section
variable {R : Ji} {k n : Int} {p : Pl} {ins : List Ty} {a b c d : Nat} {bits : List Bool} {pb : Pl} {items : List Vl} {pi : Pl} {pick : Int} {s : BS}
theorem Jzt (h : PureR Tryz.prog 127 [Ty.val (.mk k n p ins), KB items.length pi].toArray (Js s) R) : PureR Tryz.prog 126 [Ty.val (.mk k n p ins), Vl.val (.mk a b c d bits pb items pi pick)].toArray (Js s) R := by
 refine Ja Tryz.func126 rfl rfl fun w => ML fun r1 r2 => ?_; refine Gv ?_; refine Jc rfl rfl rfl (enters_of Tryz.func127 m5 rfl) h oR ?_; exact MY
theorem Jzu (hs : Seg R items.length (Qi items) pi) (h32 : s.length = 32) (hl : items.length ≤ 512) (h : PureR Tryz.prog 127 [Ty.val (.mk k n p ins), KB items.length pi].toArray (Js s) R) : PureR Tryz.prog 128 [Ty.val (.mk k n p ins), Vl.val (.mk a b c d bits pb items pi pick)].toArray (Js (Yf s items.length)) R := by
 refine Ja Tryz.func128 rfl rfl fun w => ML fun r1 r2 => ?_; refine NS ?_; refine Ql (k := 3) rfl rfl rfl rfl rfl (enters_of Tryz.func127 m5 rfl) h oR ?_; exact HI
theorem Jzv (h : PureR Tryz.prog 131 [Ty.val (.mk k n p ins), KB bits.length pb].toArray (Js s) R) : PureR Tryz.prog 130 [Ty.val (.mk k n p ins), Vl.val (.mk a b c d bits pb items pi pick)].toArray (Js s) R := by
 refine Ja Tryz.func130 rfl rfl fun w => ML fun r1 r2 => ?_; refine Gv ?_; refine Jc rfl rfl rfl (enters_of Tryz.func131 m5 rfl) h oR ?_; exact MY
theorem Jzw (hs : Seg R bits.length (Qx bits) pb) (h32 : s.length = 32) (hl : bits.length ≤ 512) (h : PureR Tryz.prog 131 [Ty.val (.mk k n p ins), KB bits.length pb].toArray (Js s) R) : PureR Tryz.prog 132 [Ty.val (.mk k n p ins), Vl.val (.mk a b c d bits pb items pi pick)].toArray (Js (Yf s bits.length)) R := by
 refine Ja Tryz.func132 rfl rfl fun w => ML fun r1 r2 => ?_; refine NS ?_; refine Ql (k := 3) rfl rfl rfl rfl rfl (enters_of Tryz.func131 m5 rfl) h oR ?_; exact HI
theorem Jzx {l : List BS} (hst : Seg R ins.length (xF ins) p) (hl : l.length ≤ ins.length) (hn : ins.length ≤ 16) (h32 : ∀ s ∈ l, s.length = 32) (h : PureT (α := jZ l) Tryz.prog 135 [Ty.val (.mk k n p ins), KB items.length pi].toArray (fun x => rV x) [] (fun x => rL x) R) :
  PureR Tryz.prog 133 [Ty.val (.mk k n p ins), Vl.val (.mk a b c d bits pb items pi pick)].toArray (Js (Vc l ins.length)) R := by
 refine Ja Tryz.func133 rfl rfl fun w => ML fun r1 r2 => ?_; refine kA ?_
 refine JU [] [(1, .pure), (3, .grow (Qu (Jim l) (fun x => rV x) (fun x => rL x))), (4, .pure), (6, .pure), (8, .pure)] 9 [0, 1, 2, 4, 5, 6, 3, 7, 8] m5 m5 m7 (MP ?_); refine KW (k := 5) rfl rfl rfl rfl rfl (Jd rfl (kn 1 rfl) rfl rfl) (Jm (k := 6) rfl rfl rfl rfl rfl (fun _ hS => (Ju rfl hst rfl)) (KY (k := 3) rfl rfl rfl rfl rfl (enters_of Tryz.func135 m5 rfl) h (fun q hq => .inr hq) fun x => Ql (k := 7) rfl rfl rfl rfl rfl Jht (vO hl m0 (KC x.2 m6) h32) (fun q hq => .inl (List.mem_append_left _ hq)) ?_)); exact kV
theorem Jzy {y : Ty} {x : Vl} (hst : Seg R ins.length (xF ins) p) (hs : Seg R items.length (Qi items) pi) (hm : m ≤ 8) (hy : ins[m]? = some y) (hx : items[0]? = some x) (h32 : s.length = 32) (h : PureR Tryz.prog 85 [y.val, x.val].toArray (Js s) R) :
  PureR Tryz.prog 136 [Ty.val (.mk k n p ins), Vl.val (.mk a b c d bits pb items pi (m : Int))].toArray (Js (Yf s m)) R := by
 have hm1 := (List.getElem?_eq_some_iff.1 hy).1
 have hm2 := (List.getElem?_eq_some_iff.1 hx).1
 refine Ja Tryz.func136 rfl rfl fun w => ML fun r1 r2 => ?_; refine kA ?_
 refine JU [] [(0, .pure), (2, .pure), (4, .pure), (6, .pure), (8, .pure), (11, .pure), (13, .pure), (14, .pure)] 15 [0, 1, 2, 3, 4, 5, 6, 7, 8, 9, 11, 12, 10, 13, 14] m5 m5 m7 ?_
 refine GF ?_
 refine Nx ?_; refine KW (k := 3) rfl rfl rfl rfl rfl (Jd rfl (kn 0 rfl) rfl rfl) (Jm (k := 4) rfl rfl rfl rfl rfl (fun E' hS => Jf (j := m) rfl hst rfl rfl rfl rfl hm1) (KW (k := 5) rfl rfl rfl rfl rfl (KV oR rfl hst hy rfl rfl) ?_))
 refine Jm (k := 6) rfl rfl rfl rfl rfl (fun _ hS => (J7 rfl rfl rfl)) (KW (k := 7) rfl rfl rfl rfl rfl (Jd rfl (kn 0 rfl) rfl rfl) ?_)
 refine Jm (k := 8) rfl rfl rfl rfl rfl (fun E' hS => Jf (j := 0) rfl hs rfl rfl rfl mc hm2) (KW (k := 9) rfl rfl rfl rfl rfl (QH oR rfl hs hx rfl rfl) ?_)
 refine GQ ?_; refine KW (k := 12) rfl rfl rfl rfl rfl (Jd rfl (kn 0 rfl) rfl rfl) (Ql (k := 10) rfl rfl rfl rfl rfl Jsa h oR (WF (k := 13) rfl rfl rfl rfl rfl Jnp (Joi m0 m0) (Jm (k := 14) rfl rfl rfl rfl rfl (fun _ hS => (JH rfl)) (Kz ?_)))); exact H3
theorem XZ (hlk : QS YM (.int .i64 k) (rootM.toList.map Ya) = some (.func (.func g) #[] #[])) (eg : Enters Tryz.prog g) (hg : PureR Tryz.prog g [Ty.val (.mk k n p ins), Vl.val (.mk a b c d bits pb items pi pick)].toArray (Js s) R) :
  PureR Tryz.prog 85 [Ty.val (.mk k n p ins), Vl.val (.mk a b c d bits pb items pi pick)].toArray (Js s) R := by
 refine Ja Tryz.func85 rfl rfl fun w => ML fun r1 r2 => ?_; refine N5 ?_; refine wt rfl rfl fun rm => KX (q := 0) (key := .int .i64 1) (val := .func (.func 125) #[] #[]) (XK (t := 3) m5) rfl rfl rfl rfl rfl rfl ⟨_, rfl⟩ (by intro e he; simp at he) rfl rfl ?_
 refine KX (q := 0) (key := .int .i64 2) (val := .func (.func 125) #[] #[]) (XK (t := 3) m5) rfl rfl rfl rfl rfl rfl ⟨_, rfl⟩ nP rfl rfl ?_
 refine KX (q := 0) (key := .int .i64 3) (val := .func (.func 126) #[] #[]) (XK (t := 3) m5) rfl rfl rfl rfl rfl rfl ⟨_, rfl⟩ nJ rfl rfl ?_
 refine KX (q := 0) (key := .int .i64 4) (val := .func (.func 128) #[] #[]) (XK (t := 3) m5) rfl rfl rfl rfl rfl rfl ⟨_, rfl⟩ nB rfl rfl ?_
 refine KX (q := 0) (key := .int .i64 5) (val := .func (.func 130) #[] #[]) (XK (t := 3) m5) rfl rfl rfl rfl rfl rfl ⟨_, rfl⟩ np rfl rfl ?_
 refine KX (q := 0) (key := .int .i64 6) (val := .func (.func 132) #[] #[]) (XK (t := 3) m5) rfl rfl rfl rfl rfl rfl ⟨_, rfl⟩ nj rfl rfl ?_
 refine KX (q := 0) (key := .int .i64 7) (val := .func (.func 133) #[] #[]) (XK (t := 3) m5) rfl rfl rfl rfl rfl rfl ⟨_, rfl⟩ nf rfl rfl ?_
 refine KX (q := 0) (key := .int .i64 8) (val := .func (.func 136) #[] #[]) (XK (t := 3) m5) rfl rfl rfl rfl rfl rfl ⟨_, rfl⟩ nc rfl rfl ?_; change HL _ _ _ ((rm, .map rootM 8) :: _) _ _ _ _; refine XN 9 [2] rfl rfl (LR rfl (Yk (v := .func (.func g) #[] #[]) (XK (t := 3) m5) rfl rfl (kn 0 rfl) rfl rfl ⟨_, rfl⟩ Jka (by show (QS YM (.int .i64 k) (rootM.toList.map Ya)).getD _ = _; rw [hlk]; rfl)) (LS 2 [2, 1] rfl rfl (Jc rfl rfl rfl eg hg oR ?_))); exact MY
end
theorem Jkm {l : List Vl} {k pick : Int} {ins : List Ty} (h : l.length = 1) : (Kf l k pick ins 0).headD [] = Ky (XW l 0) (JE k pick ins 0) := by
 match l, h with
 | [x], _ => rw [Kf]; rfl
theorem Jph {a : Nat} {bits : List Bool} {items : List Vl} {pick k n : Int} {p : Pl} {ins : List Ty} (hcz : V7 (.mk k n p ins) 0 = 0) (hfit : Ko (.mk a b c d bits pb items pi pick) (.mk k n p ins) = 0) (hk : k = 3 ∨ k = 4 ∨ k = 7) : (Xa k n ins items (Kf items k 0 ins 0)).length = 32 := by
 obtain ⟨q1, q2, q3⟩ := yr hcz hfit
 have hrow := fun (j : Nat) x (h : items[j]? = some x) => Jh9 hcz hfit m0 h
 have hrs : ∀ s ∈ Kf items k 0 ins 0, s.length = 32 := fun s hs => by
  obtain ⟨j, x, h1, rfl⟩ := Yv hs
  rw [Nat.zero_add]
  obtain ⟨_, r1, r2, r3⟩ := hrow j x h1
  exact Yw x _ 0 r2 r3
 have hrl := Wy items k 0 ins 0
 unfold Xa
 by_cases h7 : k = 7
 ·rw [if_pos h7]
  exact VV (by have := q3 h7; omega) hrs
 ·rw [if_neg h7]
  obtain ⟨w1, w2, w3, w4⟩ := q1 m0
  match ins, w4 with
  | [x0], _ =>
  rw [show [x0].getD 0 default = x0 from rfl]
  by_cases hp : XB x0 = true
  ·rw [if_pos hp]
   have hc0 := XY hcz _ List.mem_cons_self
   obtain ⟨f1, f2, f3, f4⟩ := ZJ hc0 hp
   refine VV ?_ (ZI _); rw [Zn]
   unfold Ja1
   have hz : ∀ v ∈ items, (Vr v x0).length = (JV x0).toNat := fun v hv => by
    obtain ⟨j, hj⟩ := List.getElem?_of_mem hv
    have hg := (hrow j v hj).2.2.2
    rw [Zs h7 m0] at hg
    have := f4 v hg
    omega
   rw [jT hz]
   have hm : items.length * (JV x0).toNat ≤ n.toNat * (JV x0).toNat := Nat.mul_le_mul_right _ m0
   omega
  ·rw [if_neg hp]
   exact VV m0 hrs
set_option maxHeartbeats 1000000 in
theorem Jwu (hv : v.In R) : ∀ (t : Ty) (dp : Nat), t.In R → V7 t (dp : Int) = 0 → Ko v t = 0 → wV v ≤ 20000 → PureR Tryz.prog 85 [t.val, v.val].toArray (Js (Ky v t)) R := by
 have hv0 := hv
 induction hv with
 | @mk a b c d bits pb items pi pick ha hb hcc hd hlb hsb hl hs hp hi ih =>
 intro t dp ht hck hfit hw
 obtain ⟨k, n, p, ins⟩ := t
 have ht0 := ht
 cases ht with
 | mk hk hn hlt hst hit =>
 obtain ⟨hk8, ho, h6, hci⟩ := QT hck
 obtain ⟨hf1, hf2, hf3⟩ := Xn hfit
 obtain ⟨m1, m2, m3, m4⟩ := Jd0 hck hfit
 obtain ⟨q1, q2, q3⟩ := yr hck hfit
 have hcz := yq hck
 have hrow := fun (h8 : k ≠ 8) (j : Nat) x (h : items[j]? = some x) => Jh9 hcz hfit h8 h
 have hwi : ∀ x ∈ items, wV x ≤ 20000 := fun x hx => Nat.le_trans (Jf6 hx) hw
 have hrec : k ≠ 8 → ∀ (i : Nat) x, items[i]? = some x → PureR Tryz.prog 85 [(JE k 0 ins i).val, x.val].toArray (Js (Ky x (JE k 0 ins i))) R := fun h8 i x hx => by
  obtain ⟨_, r1, r2, r3⟩ := hrow h8 i x hx
  have hm := List.mem_of_getElem? hx
  exact ih x hm (hi x hm) _ 0 (hit _ r1) r2 r3 (hwi x hm)
 have hlen := Yw _ _ dp hck hfit
 rw [WO] at hlen ⊢
 by_cases h1 : k = 1
 ·subst h1
  rw [if_pos (.inl rfl)]; exact XZ rfl (enters_of Tryz.func125 m5 rfl) (Jds _ hv0).toR
 by_cases h2 : k = 2
 ·subst h2
  rw [if_pos (.inr rfl)]; exact XZ rfl (enters_of Tryz.func125 m5 rfl) (Jds _ hv0).toR
 rw [if_neg m0] at hlen ⊢
 have hone : k ≠ 7 → k ≠ 8 → ∀ x0, ins = [x0] → ∀ N : Nat, n = (N : Int) → N ≤ 512 → items.length ≤ N → PureR Tryz.prog 127 [Ty.val (.mk k n p ins), KB items.length pi].toArray (Js (Xa k n ins items (Kf items k 0 ins 0))) R := fun h7 h8 x0 e N en hN hle => by
  subst e; subst en; refine Jwt ht0 h7 h8 (XY hcz _ List.mem_cons_self) hs hle hN (fun v hv => ?_) hwi hi fun i x hx => ?_
  ·obtain ⟨j, hj⟩ := List.getElem?_of_mem hv
   have := (hrow h8 j v hj).2.2.2
   rwa [Zs h7 h8] at this
  ·have := hrec h8 i x hx
   rwa [Zs h7 h8] at this
 by_cases h4 : k = 4
 ·subst h4
  obtain ⟨w1, w2, w3, w4⟩ := q1 (.inr rfl)
  rw [if_pos rfl, yo m6] at hlen ⊢
  have hrl : (Xa 4 n ins items (Kf items 4 0 ins 0)).length = 32 := Jph hcz hfit (.inr (.inl rfl))
  obtain ⟨x0, hx0⟩ := List.length_eq_one_iff.1 w4
  exact XZ rfl (enters_of Tryz.func128 m5 rfl) (Jzu hs hrl m1 (hone m6 m6 x0 hx0 n.toNat m0 m0 m0))
 rw [if_neg h4] at hlen ⊢
 by_cases h5 : k = 5
 ·subst h5
  obtain ⟨w1, w2, w3⟩ := q2 (.inl rfl)
  rw [if_pos rfl] at hlen ⊢; refine XZ rfl (enters_of Tryz.func130 m5 rfl) (Jzv ?_)
  have := Jin (k := 5) (p := p) (ins := ins) (l := bits) (n := n.toNat) m0 m0 hsb
  rwa [show ((n.toNat : Nat) : Int) = n by omega] at this
 rw [if_neg h5] at hlen ⊢
 by_cases h6 : k = 6
 ·subst h6
  obtain ⟨w1, w2, w3⟩ := q2 (.inr rfl)
  rw [if_pos rfl] at hlen ⊢; refine XZ rfl (enters_of Tryz.func132 m5 rfl) (Jzw hsb (VV (q6 w3) (ZI _)) m2 ?_)
  have := Jin (k := 6) (p := p) (ins := ins) (l := bits) (n := n.toNat) m0 m0 hsb
  rwa [show ((n.toNat : Nat) : Int) = n by omega] at this
 rw [if_neg h6] at hlen ⊢
 by_cases h8 : k = 8
 ·subst h8
  obtain ⟨w1, w2, w3, w4⟩ := m4 rfl
  obtain ⟨m, rfl⟩ : ∃ m : Nat, pick = (m : Int) := ⟨pick.toNat, by omega⟩
  have hx8 := XX (l := items) (i := 0) m0
  have hg := Wg (j := 0) hf3 hx8.1
  have hin := q5 (v := .mk a b c d bits pb items pi (m : Int)) (i := 0) hcz hf2 (show 0 < items.length by omega)
  have hty := Qp hin
  have hX := ih _ hx8.2 (hi _ hx8.2) _ 0 (hit _ hty.2) (XY hcz _ hty.2) hg (hwi _ hx8.2)
  have hXl := Yw _ _ 0 (XY hcz _ hty.2) hg
  rw [if_pos rfl, Jkm w1, Int.toNat_natCast]; exact XZ rfl (enters_of Tryz.func136 m5 rfl) (Jzy hst hs m0 (show ins[m]? = some _ from hty.1) hx8.1 hXl hX)
 rw [if_neg h8, yo h8] at hlen ⊢
 by_cases h3 : k = 3
 ·subst h3
  obtain ⟨w1, w2, w3, w4⟩ := q1 (.inl rfl)
  obtain ⟨x0, hx0⟩ := List.length_eq_one_iff.1 w4
  exact XZ rfl (enters_of Tryz.func126 m5 rfl) (Jzt (hone m6 m6 x0 hx0 n.toNat m0 m0 m0))
 have h7 : k = 7 := by omega
 subst h7
 obtain ⟨w1, w2, w3⟩ := q3 rfl
 have hM : Xa 7 n ins items (Kf items 7 0 ins 0) = Vc (Kf items 7 0 ins 0) ins.length := by unfold Xa; rw [if_pos rfl]
 rw [hM]
 have hrl := Wy items 7 0 ins 0
 refine XZ rfl (enters_of Tryz.func133 m5 rfl) (Jzx hst m0 w3 (fun s hs => ?_) (zS ht0 m6 hs m0 (fun i hi => ?_) (hrec m6)))
 ·obtain ⟨j, x, h1, rfl⟩ := Yv hs
  rw [Nat.zero_add]
  obtain ⟨_, r1, r2, r3⟩ := hrow m6 j x h1
  exact Yw x _ 0 r2 r3
 ·show i < ins.length
  omega
def Y0 (t : Ty) (v : Vl) : BS × Int := if Vt t v ≠ 0 then ([], Vt t v) else (Ky v t, 0)
theorem Jtf (ht : t.In R) (hv : v.In R) (hw : wV v ≤ 20000) : PureR Tryz.prog 58 [t.val, v.val].toArray (ja (Y0 t v)) R := by
 have h1 := Jn8 ht hv
 have h2 := fun h => Jwu hv t 0 ht (YE (t := t) (v := v) h).1 (YE h).2 hw
 unfold Y0
 generalize Vt t v = e at h1 h2 ⊢
 generalize Ky v t = s at h2 ⊢
 obtain ⟨k, n, p, ins⟩ := t
 obtain ⟨a, b, c, d, bits, pb, items, pi, pick⟩ := v
 refine Ja Tryz.func58 rfl rfl fun w => ML fun r1 r2 => ?_; refine XN 9 [1, 0] rfl rfl (Jc rfl rfl rfl (enters_of Tryz.func76 m5 rfl) h1 oR (He ?_)); refine cD (fun g => ?_) fun g => ?_
 exact HR
 ·refine Wt 6 [1, 0] rfl rfl (Jc rfl rfl rfl Jsa (h2 m0) oR (kj ?_)); refine Nc fun w1 hs1 => ?_; rw [if_neg m0]; rfl
theorem Jip (l : List Vl) : (Yx l).length = l.length := by rw [Wi, List.length_map]
theorem Ju3 : ∀ l : List Vl, (∀ x ∈ l, wV (WU x) = wV x) → wL (Yx l) = wL l
 | [], _ => by rw [Yx]
 | x :: xs, h => by rw [Yx, wL, wL, h x List.mem_cons_self, Ju3 xs fun y hy => h y (List.mem_cons_of_mem _ hy)]
theorem Ju4 (v : Vl) : wV (WU v) = wV v := by
 induction v using Vl.ind with
 | h a b c d bits pb items pi pick ih => rw [Qa, wV, wV, Ju3 items ih]
theorem Jiq (k pick : Int) (ins : List Ty) : ∀ (l : List Vl), (∀ x ∈ l, ∀ t, Ko (WU x) t = Ko x t) → ∀ i : Nat, Qr (Yx l) k pick ins i = Qr l k pick ins i
 | [], _, i => by rw [Yx]
 | x :: xs, h, i => by rw [Yx, Qr, Qr, h x List.mem_cons_self, Jiq k pick ins xs fun y hy => h y (List.mem_cons_of_mem _ hy)]
theorem Jwv (k n : Int) (m : Nat) (v : Vl) : zC k n m (WU v) = zC k n m v := by
 obtain ⟨a, b, c, d, bits, pb, items, pi, pick⟩ := v
 rw [Qa]; rw [Qq k n m a b c d bits none (Yx items) none pick _ rfl, Qq k n m a b c d bits pb items pi pick _ rfl]; simp only [Qg, Jip]
theorem Jf9 (v : Vl) : ∀ t, Ko (WU v) t = Ko v t := by
 induction v using Vl.ind with
 | h a b c d bits pb items pi pick ih =>
 intro t
 obtain ⟨k, n, p, ins⟩ := t
 have hl := Jip items
 have ho := Jwv k n ins.length (.mk a b c d bits pb items pi pick)
 rw [Qa] at ho ⊢; rw [Ko, Ko, hl, Jiq k pick ins items ih, ho]
abbrev b8c (r3 : Nat) : Nat × Obj := (r3, .cells #[.int .i64 1, .int .i64 2, .slice none 0 0, .int .i64 6, .int .i64 8, .slice none 0 0, .int .i64 2, .int .i64 0, .slice none 0 0] 76 (0, 0))
abbrev d8c (r5 : Nat) : Nat × Obj := (r5, .cells #[.int .u64 258, .int .u64 0, .int .u64 0, .int .u64 0, .slice none 0 0, .slice none 0 0, .int .i64 0, .int .u64 0, .int .u64 0, .int .u64 0, .int .u64 0, .slice none 0 0, .slice none 0 0, .int .i64 0, .int .u64 1, .int .u64 0, .int .u64 0, .int .u64 0, .slice none 0 0, .slice none 0 0, .int .i64 0] 81 (0, 0))
structure OInv (s : BS) (H : Nat) (TY : List Ty) (i A la : Nat) (pre : List Nat) : Prop where
  le : i ≤ TY.length
  at_ : (A : Int) = Ke (TY.take i)
  off : QB s H TY 0 H false = (QB s H (TY.drop i) A la (decide (0 < pre.length))).map (pre ++ ·)
section
variable {s : BS} {H : Nat} {TY : List Ty} {i A la : Nat} {pre : List Nat} {x : Ty}
theorem OInv.start : OInv s H TY 0 0 H [] := ⟨Nat.zero_le _, rfl, by rw [List.drop_zero, show decide (0 < ([] : List Nat).length) = false from rfl]; cases QB s H TY 0 H false <;> rfl⟩
theorem OInv.bound (h : OInv s H TY i A la pre) (hx : TY[i]? = some x) (hH : Ke TY = (H : Int)) : (A : Int) + WN x ≤ H := by
 exact Ny
theorem OInv.fix (h : OInv s H TY i A la pre) (hx : TY[i]? = some x) (hf : JC x = true) (h0 : 0 ≤ JV x) : OInv s H TY (i + 1) (A + (JV x).toNat) la pre := by
 have h1 := h.off
 rw [KK hx, QB, if_pos hf] at h1; refine ⟨(List.getElem?_eq_some_iff.1 hx).1, ?_, h1⟩; exact GZ
theorem OInv.bad (h : OInv s H TY i A la pre) (hx : TY[i]? = some x) (hf : JC x = false) {v : Nat} (hv : v = WC ((s.drop A).take 4)) (hb : (¬ 0 < pre.length ∧ v ≠ H) ∨ v < la ∨ s.length < v) : QB s H TY 0 H false = none := by
 subst hv
 rw [h.off, KK hx, QB, if_neg (by rw [hf]; decide), if_pos (by
  rcases hb with ⟨h1, h2⟩ | h1
  ·exact .inl ⟨decide_eq_false h1, h2⟩
  ·exact .inr h1)]
 rfl
theorem OInv.var (h : OInv s H TY i A la pre) (hx : TY[i]? = some x) (hf : JC x = false) {v : Nat} (hv : v = WC ((s.drop A).take 4)) (h1 : 0 < pre.length ∨ v = H) (h2 : la ≤ v) (h3 : v ≤ s.length) : OInv s H TY (i + 1) (A + 4) v (pre ++ [v]) := by
 have hn : ¬ JC x = true := by rw [hf]; decide
 have hlv : WC ((s.drop A).take 4) = v := hv.symm
 have ho := h.off
 rw [KK hx, QB, if_neg hn, hlv, if_neg (by
  rintro (⟨g1, g2⟩ | g | g)
  ·simp only [decide_eq_false_iff_not] at g1; omega
  ·omega
  ·omega), Option.map_map] at ho
 refine ⟨(List.getElem?_eq_some_iff.1 hx).1, ?_, ?_⟩
 ·exact GC
 ·rw [ho, show decide (0 < (pre ++ [v]).length) = true by simp]
  congr 1
  funext r
  simp
theorem OInv.done (h : OInv s H TY TY.length A la pre) : QB s H TY 0 H false = if ¬ 0 < pre.length ∧ H ≠ s.length then none else some (pre ++ [s.length]) := by
 rw [h.off, List.drop_length, QB]
 by_cases hc : ¬ 0 < pre.length ∧ H ≠ s.length
 ·rw [if_pos hc, if_pos ⟨decide_eq_false hc.1, hc.2⟩]; rfl
 ·rw [if_neg hc, if_neg (by rintro ⟨g1, g2⟩; exact hc ⟨of_decide_eq_false g1, g2⟩)]; rfl
end
theorem Jir {s : BS} {H : Nat} : ∀ {ts : List Ty} {a la : Nat} {op : Bool} {os : List Nat}, QB s H ts a la op = some os → 0 < os.length
 | [], _, _, _, _, h => by
  rw [QB] at h
  split at h
  ·cases h
  ·cases h; exact Nat.one_pos
 | x :: xs, a, la, op, os, h => by
  rw [QB] at h
  split at h
  ·exact Jir h
  ·split at h
   ·cases h
   ·obtain ⟨r, h2, rfl⟩ := Option.map_eq_some_iff.1 h
    exact Nat.succ_pos _
structure RInv (s : BS) (H : Nat) (TY : List Ty) (ps : List (Ty × Nat × Nat)) (os : List Nat) (i A m : Nat) : Prop where
  le : i ≤ TY.length
  at_ : (A : Int) = Ke (TY.take i)
  tl : ps.drop i = KD (TY.drop i) A (os.drop m)
  off : ∃ la op, QB s H (TY.drop i) A la op = some (os.drop m)
section
variable {s : BS} {H : Nat} {TY : List Ty} {ps : List (Ty × Nat × Nat)} {os : List Nat} {i A m : Nat} {x : Ty}
theorem RInv.start (h : QB s H TY 0 H false = some os) : RInv s H TY (KD TY 0 os) os 0 0 0 := ⟨Nat.zero_le _, rfl, rfl, ⟨H, false, h⟩⟩
theorem Ju5 {l r : List α} {q : α} (h : l.drop i = q :: r) : l[i]? = some q ∧ l.drop (i + 1) = r := by
 have h1 : (l.drop i)[0]? = some q := by rw [h]; rfl
 rw [List.getElem?_drop, Nat.add_zero] at h1; exact ⟨h1, by rw [KK h1] at h; exact (List.cons.inj h).2⟩
theorem RInv.bound (h : RInv s H TY ps os i A m) (hx : TY[i]? = some x) (hH : Ke TY = (H : Int)) : (A : Int) + WN x ≤ H := by
 exact Ny
theorem RInv.fix (h : RInv s H TY ps os i A m) (hx : TY[i]? = some x) (hf : JC x = true) (h0 : 0 ≤ JV x) : ps[i]? = some (x, A, A + (JV x).toNat) ∧ RInv s H TY ps os (i + 1) (A + (JV x).toNat) m := by
 have h1 := h.tl
 obtain ⟨la, op, h2⟩ := h.off
 rw [KK hx, KD, if_pos hf] at h1; rw [KK hx, QB, if_pos hf] at h2
 obtain ⟨g1, g2⟩ := Ju5 h1
 refine ⟨g1, (List.getElem?_eq_some_iff.1 hx).1, ?_, g2, ⟨la, op, h2⟩⟩; exact GZ
theorem RInv.var (h : RInv s H TY ps os i A m) (hx : TY[i]? = some x) (hf : JC x = false) : m + 1 < os.length ∧ ps[i]? = some (x, os.getD m 0, os.getD (m + 1) 0) ∧ RInv s H TY ps os (i + 1) (A + 4) (m + 1) := by
 have hn : ¬ JC x = true := by rw [hf]; decide
 have h1 := h.tl
 obtain ⟨la, op, h2⟩ := h.off
 rw [KK hx, KD, if_neg hn] at h1; rw [KK hx, QB, if_neg hn] at h2
 split at h2
 ·cases h2
 ·obtain ⟨r, h3, h4⟩ := Option.map_eq_some_iff.1 h2
  have hp := Jir h3
  have hlen : (os.drop m).length = r.length + 1 := by rw [← h4]; rfl
  rw [List.length_drop] at hlen
  have ht : (os.drop m).tail = os.drop (m + 1) := by rw [List.tail_drop]
  have e0 : (os.drop m).getD 0 0 = os.getD m 0 := by rw [List.getD_eq_getElem?_getD, List.getD_eq_getElem?_getD, List.getElem?_drop, Nat.add_zero]
  have e1 : (os.drop m).getD 1 0 = os.getD (m + 1) 0 := by rw [List.getD_eq_getElem?_getD, List.getD_eq_getElem?_getD, List.getElem?_drop]
  rw [ht, e0, e1] at h1
  obtain ⟨g1, g2⟩ := Ju5 h1
  refine ⟨by omega, g1, (List.getElem?_eq_some_iff.1 hx).1, ?_, g2, ⟨WC ((s.drop A).take 4), true, ?_⟩⟩
  ·exact GC
  ·rw [h3, ← ht, ← h4]; rfl
end
theorem Jpi (t : Ty) : (Xp t).k = t.k := by cases t; rw [Xp]; rfl
theorem Ju6 (t : Ty) : (Xp t).n = t.n := by cases t; rw [Xp]; rfl
theorem Jis (t : Ty) : (Xp t).ins = VF t.ins := by cases t; rw [Xp]; rfl
theorem erT_def : Xp default = default := by show Xp (.mk 0 0 none []) = .mk 0 0 none []; rw [Xp, VF]
mutual
theorem wb : ∀ (t : Ty) (d : Int), V7 (Xp t) d = V7 t d
 | .mk k n p ins, d => by rw [Xp, V7, V7, Jed ins, Zr]
theorem Jed : ∀ (l : List Ty) (d : Int), Yc (VF l) d = Yc l d
 | [], _ => by rw [VF]
 | x :: xs, d => by rw [VF, Yc, Yc, wb x, Jed xs]
end
mutual
theorem Jee : ∀ (t : Ty), WD (Xp t) = WD t
 | .mk k n p ins => by rw [Xp, WD, WD, Jef ins]
theorem Jef : ∀ (l : List Ty), ZS (VF l) = ZS l
 | [] => by rw [VF]
 | x :: xs => by rw [VF, ZS, ZS, Jee x, Jef xs]
end
mutual
theorem XE : ∀ (t : Ty), JV (Xp t) = JV t
 | .mk k n p ins => by rw [Xp, JV, JV, Jeg ins]
theorem Jeg : ∀ (l : List Ty), Wj (VF l) = Wj l
 | [] => by rw [VF]
 | x :: xs => by rw [VF, Wj, Wj, XE x, Jeg xs]
end
theorem Xq (t : Ty) : JC (Xp t) = JC t := by unfold JC; rw [wb, Jee]
theorem Jpj (t : Ty) : WN (Xp t) = WN t := by unfold WN; rw [Xq, XE]
theorem yD : ∀ l : List Ty, Ke (l.map Xp) = Ke l
 | [] => rfl
 | x :: xs => by rw [List.map_cons, Ke, Ke, Jpj, yD xs]
theorem Jeh (ins : List Ty) (i : Nat) : (VF ins).getD i default = Xp (ins.getD i default) := by
 rw [yz, List.getD_eq_getElem?_getD, List.getD_eq_getElem?_getD, List.getElem?_map]
 cases ins[i]? with
 | none => exact erT_def.symm
 | some x => rfl
theorem Zt (k pick : Int) (ins : List Ty) (i : Nat) : JE k pick (VF ins) i = Xp (JE k pick ins i) := by unfold JE; exact Jeh ins _
mutual
theorem Jit : ∀ (v : Vl) (t : Ty), Ko v (Xp t) = Ko v t
 | .mk a b c d bits pb items pi pick, .mk k n p ins => by rw [Xp, Ko, Ko, Zr, Jei items]
theorem Jei : ∀ (l : List Vl) (k pick : Int) (ins : List Ty) (i : Nat), Qr l k pick (VF ins) i = Qr l k pick ins i
 | [], _, _, _, _ => by rw [Qr, Qr]
 | x :: xs, k, pick, ins, i => by rw [Qr, Qr, Zt, Jit x, Jei xs]
end
theorem Jej (t : Ty) (v : Vl) : Vt (Xp t) v = Vt t v := by unfold Vt; rw [wb, Jit]
theorem yE (h : Nat) : ∀ (l : List (Ty × BS)) (f th : BS), YC h (l.map fun p => (Xp p.1, p.2)) f th = YC h l f th
 | [], f, th => rfl
 | (x, s) :: l, f, th => by rw [List.map_cons, YC, YC, Xq, yE h l, yE h l]
mutual
theorem Jbc : ∀ (v : Vl) (t : Ty), Vr v (Xp t) = Vr v t
 | .mk a b c d bits pb items pi pick, t => by
  have h1 : ((KZ items t.k pick t.ins 0).map fun p => (Xp p.1, p.2)).headD (default, []) = (fun p : Ty × BS => (Xp p.1, p.2)) ((KZ items t.k pick t.ins 0).headD (default, [])) := by
   cases KZ items t.k pick t.ins 0 with
   | nil => show (default, []) = (Xp default, []); rw [erT_def]
   | cons x l => rfl
  have h2 : (((KZ items t.k pick t.ins 0).map fun p => (Xp p.1, p.2)).map Prod.fst) = ((KZ items t.k pick t.ins 0).map Prod.fst).map Xp := by rw [List.map_map, List.map_map]; rfl
  rw [Vr, Vr, Jpi, Ju6, Jis, Jek items, yE, h1, h2, yD]
theorem Jek : ∀ (l : List Vl) (k pick : Int) (ins : List Ty) (i : Nat), KZ l k pick (VF ins) i = (KZ l k pick ins i).map fun p => (Xp p.1, p.2)
 | [], _, _, _, _ => by rw [KZ, KZ]; rfl
 | x :: xs, k, pick, ins, i => by rw [KZ, KZ, Zt, Jbc x, Jek xs]; rfl
end
theorem Jpk (t : Ty) (v : Vl) : jO (Xp t) v = jO t v := by unfold jO; rw [Jej, Jbc]
theorem Jpl (k : Int) (ins : List Ty) (m : Nat) : Kv k (VF ins) m = (Kv k ins m).map Xp := by
 unfold Kv
 rw [List.map_map]; exact List.map_congr_left fun i _ => Zt k 0 ins i
theorem yF (s : BS) (h : Nat) : ∀ (l : List Ty) (a la : Nat) (op : Bool), QB s h (l.map Xp) a la op = QB s h l a la op
 | [], _, _, _ => rfl
 | x :: xs, a, la, op => by rw [List.map_cons, QB, QB, Xq, XE, yF s h xs, yF s h xs]
theorem qF (s : BS) : ∀ (l : List Ty) (a : Nat) (os : List Nat), V6 s (l.map Xp) a os = V6 s l a os
 | [], _, _ => rfl
 | x :: xs, a, os => by rw [List.map_cons, V6, V6, Xq, XE, qF s xs, qF s xs]
theorem Jpm (k n : Int) (ins : List Ty) (s : BS) : JW k n (VF ins) s = JW k n ins s := by
 unfold JW
 rw [Zr, Zt, Xq, XE]
theorem Jpn (k n : Int) (ins : List Ty) (fs : List Gf) (s : BS) : Ja4 k n (VF ins) fs s = Ja4 k n ins fs s := by
 unfold Ja4
 rw [Jpm, Jpl, yD, yF]
 split
 ·rfl
 ·split
  ·rfl
  ·cases QB s (Ke (Kv k ins (JW k n ins s).1)).toNat (Kv k ins (JW k n ins s).1) 0 (Ke (Kv k ins (JW k n ins s).1)).toNat false with
   | none => rfl
   | some os => simp only [qF]
theorem Jtg (k n : Int) (p : Pl) (ins : List Ty) (fs : List Gf) (s : BS) : jd k n none (VF ins) fs s = jd k n p ins fs s := by
 have h1 : JC (.mk k n none (VF ins)) = JC (.mk k n p ins) := by have := Xq (.mk k n p ins); rw [Xp] at this; exact this
 have h2 : JV (.mk k n none (VF ins)) = JV (.mk k n p ins) := by have := XE (.mk k n p ins); rw [Xp] at this; exact this
 unfold jd
 rw [h1, h2, Zr, Jpn]
mutual
theorem Jiu : ∀ (t : Ty), KJ (Xp t) = KJ t
 | .mk k n p ins => by funext s; rw [Xp, KJ, KJ, Jel ins, Jtg k n p]
theorem Jel : ∀ (l : List Ty), YU (VF l) = YU l
 | [] => by rw [VF]
 | x :: xs => by rw [VF, YU, YU, Jiu x, Jel xs]
end
theorem Jpo (t : Ty) (s : BS) : getR (Xp t) s = getR t s := by unfold getR; rw [wb, Jiu]
theorem Jpp (items : List Vl) (x : Ty) : Xi items (Xp x) = Xi items x := by unfold Xi; rw [List.map_congr_left fun v _ => Jbc v x]
theorem Jpq (k n : Int) (ins : List Ty) (items : List Vl) (rs : List BS) : Xa k n (VF ins) items rs = Xa k n ins items rs := by
 unfold Xa XB
 rw [Jeh, Zr, Jpi, Jpp, XE]
mutual
theorem Jem : ∀ (v : Vl) (t : Ty), Ky v (Xp t) = Ky v t
 | .mk a b c d bits pb items pi pick, t => by rw [Ky, Ky, Jpi, Ju6, Jis, zT items, Jpq]
theorem zT : ∀ (l : List Vl) (k pick : Int) (ins : List Ty) (i : Nat), Kf l k pick (VF ins) i = Kf l k pick ins i
 | [], _, _, _, _ => by rw [Kf, Kf]
 | x :: xs, k, pick, ins, i => by rw [Kf, Kf, Zt, Jem x, zT xs]
end
theorem Jkn (t : Ty) (v : Vl) : Y0 (Xp t) v = Y0 t v := by unfold Y0; rw [Jej, Jem]
def qa (x : BS × BS) : Vl := KI [yA x.1, yA x.2] 0
def acV (a : AcE) : Vl := KI [yA a.addr, .mk a.nonce 0 0 0 [] none [] none 0, .mk a.bal.a a.bal.b a.bal.c a.bal.d [] none [] none 0, yA a.code, KI (a.slots.map qa) 0] 0
def Yg (l : List AcE) : Vl := KI (l.map acV) 0
theorem Jbd : V7 QU 0 = 0 := by decide +kernel
def Xc (l : List AcE) : BS × Int := if KP l ≠ 0 then ([], KP l) else jO QU (Yg l)
def qb (l : List AcE) : BS × Int := if KP l ≠ 0 then ([], KP l) else Y0 QU (Yg l)
def YW (v : Vl) : BS := v.items.map fun x => UInt8.ofNat (x.num.getD 0 0)
def qc (v : Vl) (i : Nat) : Vl := v.items.getD i v0L
def XG (v : Vl) : BS × BS := (YW (qc v 0), YW (qc v 1))
def w4B (v : Vl) : W4 := ⟨v.num.getD 0 0, v.num.getD 1 0, v.num.getD 2 0, v.num.getD 3 0⟩
def acB (v : Vl) : AcE := ⟨YW (qc v 0), (qc v 1).num.getD 0 0, w4B (qc v 2), YW (qc v 3), (qc v 4).items.map XG⟩
def qG (v : Vl) : List AcE := v.items.map acB
def Zu (s : BS) : List AcE × Int := if (getR QU s).2 ≠ 0 then ([], (getR QU s).2) else if KP (qG (getR QU s).1) ≠ 0 then ([], KP (qG (getR QU s).1)) else (qG (getR QU s).1, 0)
def byB (x : Vl) : UInt8 := UInt8.ofNat (x.num.getD 0 0)
theorem Jww (v : Vl) : YW v = v.items.map byB := rfl
theorem Jko (q : Nat) : Value.int .u8 (IntKind.u8.wrap (q : Int)) = bV (UInt8.ofNat q) := by
 rw [jz]
 congr 1
 apply UInt8.toNat_inj.1
 simp
def ofS (l : List Vl) (i : Nat) : BS := (l.take i).map byB ++ List.replicate (l.length - i) 0
theorem Jbe (l : List Vl) (h : i ≤ l.length) : (ofS l i).length = l.length := by unfold ofS; simp; omega
theorem Jpr {l : List Vl} {x : Vl} (h : l[i]? = some x) : ((ofS l i).map bV).set i (bV (byB x)) = (ofS l (i + 1)).map bV := by
 have hlt := (List.getElem?_eq_some_iff.1 h).1
 unfold ofS
 rw [← List.map_set]
 congr 1
 rw [List.set_append_right _ _ nD, Kp h, List.map_append, List.append_assoc]
 congr 1
 rw [show (List.map byB (List.take i l)).length = i by simp; omega, Nat.sub_self, show l.length - i = (l.length - (i + 1)) + 1 by omega, List.replicate_succ, List.set_cons_zero]
 rfl
theorem Jth (hv : v.In R) (hl : v.items.length ≤ 100000) : PureR Tryz.prog 62 [v.val].toArray (Js (YW v)) R := by
 obtain ⟨a, b, c, d, bits, pb, items, pi, pick⟩ := v
 have hs : Seg R items.length (Qi items) pi := by cases hv; assumption
 change items.length ≤ 100000 at hl; rw [Jww]; refine Ja Tryz.func62 rfl rfl fun w => Mw fun r1 => ?_; refine XN 7 [0] rfl rfl (MV ?_); refine W1 (n := items.length) (b := 1) rfl rfl rfl rfl rfl rfl rfl rfl rfl m0 m0 fun rm => ?_; rw [show List.replicate items.length (Value.int .u8 0) = (ofS items 0).map bV from by unfold ofS; simp [bV]]; refine XN 8 [1] rfl rfl (gY ?_); refine Jw (σ := Nat) (fun i => i ≤ items.length) (fun i => [(3, .slice (some ⟨rm, 0, none⟩) items.length items.length), (11, KB items.length pi), (12, .int .i64 (items.length : Int)), (13, .int .i64 (i : Int))]) (fun i => [(rm, .cells ((ofS items i).map bV).toArray 5 (0, 0))]) (fun _ _ _ => True) (fun i => items.length - i) 0 (Nat.zero_le _) (lK rfl) (.cons_cons _ (List.nil_sublist _)) (fun _ _ h => h) ?_; intro i hi1; refine Nd ?_; refine cD (fun g => ?_) fun g => ?_
 ·refine kF ?_
  obtain ⟨⟨ya, yb, yc, yd, ybits, ypb, yitems, ypi, ypick⟩, hx, hxm⟩ := Qz (show i < items.length by omega)
  refine N6 ?_
  refine NM ?_; refine LR rfl (QH oR rfl hs hx rfl rfl) (LN rfl fun r2 => QV rfl ?_)
  refine Ng ?_; refine gB ?_
  refine GB ?_; refine LS 2 [0] rfl rfl (Jn (show _ = bV (UInt8.ofNat ya) from Jko ya) (LR rfl (Ki (j := i) (m := 1) (off' := i) rfl rfl rfl rfl m0 m0 m0) (KR (k := 1) (off := i) (xs := (ofS items i).map bV) (ys := (ofS items (i + 1)).map bV) rfl rfl rfl rfl rfl rfl (by rw [List.length_map, Jbe _ m0]; omega) (Jpr hx) rfl (N5 ?_)))); refine NF ?_; exact Jo (i + 1) m0 m0 (lK rfl) (.cons _ (List.Sublist.refl _)) (fun _ _ h => h)
 ·refine Nd ?_
  obtain rfl : i = items.length := by omega
  refine N6 ?_; refine LR rfl (QG (b := ofS items items.length) (row := some (rm, items.length, [])) (e := 5) (show _ = some (Jx (ofS items items.length).length _) from by rw [Jbe _ (Nat.le_refl _)]; rfl) ⟨by rw [List.length_map]; omega, by rw [Jbe _ (Nat.le_refl _)]; simp⟩ (fun p hp => .inl mA) rfl rfl rfl) (HO fun w1 hs1 => ?_); rw [show ofS items items.length = items.map byB from by unfold ofS; simp]; rfl
theorem Jyq (hl : s.length ≤ 100000) (h : (r, Obj.cells (Qi (s.map jY)).toArray 0 (0, 0)) ∈ Lr) : Vl.In Lr (.mk 0 0 0 0 [] none (s.map jY) (some (⟨r, 0, none⟩, s.length)) 0) :=
 .mk u0 u0 u0 u0 m6 rfl (by rw [List.length_map]; omega) ⟨by rw [List.length_map]; exact Nat.le_refl _, fun _ => ⟨rfl, _, 0, (0, 0), h, by rw [List.drop_zero, List.toList_toArray, List.take_length]⟩⟩ i0 fun x hx => by
  obtain ⟨b, _, rfl⟩ := List.mem_map.1 hx
  exact (Juz b).mono fun q hq => absurd hq List.not_mem_nil
def Jps {s : BS} (hl : s.length ≤ 100000) : VR (yA s) := ⟨_, [(0, .cells (Qi (s.map jY)).toArray 0 (0, 0))], Jyq hl (List.mem_singleton_self _), Ju0 s _⟩
theorem Jpt {its : List Vl} {n : Nat} (h : (r, Obj.cells (Qi its).toArray e (0, 0)) ∈ Lr) (hn : its.length = n) (hl : n ≤ 1000) (hi : ∀ x ∈ its, x.In Lr) : Vl.In Lr (.mk 0 0 0 0 [] none its (some (⟨r, 0, none⟩, n)) 0) :=
 .mk u0 u0 u0 u0 m6 rfl m0 ⟨Nat.le_of_eq hn, fun _ => ⟨rfl, _, e, (0, 0), h, by rw [List.drop_zero, List.toList_toArray, List.take_length]⟩⟩ i0 hi
theorem Jwx {F yL zL : Ji} (hin : ∀ x ∈ us, x.In F) (hy : y.In yL) (hz : z.In zL) {q : Vl} (hq : q ∈ us ++ [Vl.mk 0 0 0 0 [] none [y, z] (some (⟨rb, 0, none⟩, 2)) 0]) : q.In ((rb, Obj.cells (Qi [y, z]).toArray e (0, 0)) :: (zL ++ (yL ++ F))) := by
 rcases List.mem_append.1 hq with hq | hq
 ·exact (hin q hq).mono fun p hp => by simp [hp]
 ·rw [List.mem_singleton.1 hq]
  refine Jpt List.mem_cons_self rfl m6 fun x hx => ?_; simp only [List.mem_cons, List.not_mem_nil, or_false] at hx
  rcases hx with rfl | rfl
  ·exact hy.mono fun p hp => by simp [hp]
  ·exact hz.mono fun p hp => by simp [hp]
theorem Jwy {k v : BS} {p : Pl} (her : us.map WU = (slots.take j).map qa) (hx : slots[j]? = some (k, v)) (hy : WU y = yA k) (hz : WU z = yA v) : (us ++ [Vl.mk 0 0 0 0 [] none [y, z] p 0]).map WU = (slots.take (j + 1)).map qa := by
 rw [List.map_append, her, Kp hx, List.map_append]
 congr 1
 show [WU _] = [qa (k, v)]
 rw [Qa, Wi, List.map_cons, List.map_cons, List.map_nil, hy, hz]; rfl
theorem Jwz {vs : List Vl} {E F U yL zL : Ji} {nonce ba bb bc bd n : Nat} {p : Pl} (hin : ∀ x ∈ vs, x.In E) (hs : Seg U n (Qi us) p) (hn : us.length = n) (hn2 : n ≤ 100000) (hin2 : ∀ x ∈ us, x.In F) (hnu : XJ nonce) (hba : W4.ok ⟨ba, bb, bc, bd⟩) (hy : y.In yL) (hz : z.In zL) {q : Vl}
  (hq : q ∈ vs ++ [Vl.mk 0 0 0 0 [] none [y, .mk nonce 0 0 0 [] none [] none 0, .mk ba bb bc bd [] none [] none 0, z, .mk 0 0 0 0 [] none us p 0] (some (⟨rb, 0, none⟩, 5)) 0]) : q.In ((rb, Obj.cells (Qi [y, .mk nonce 0 0 0 [] none [] none 0, .mk ba bb bc bd [] none [] none 0, z, .mk 0 0 0 0 [] none us p 0]).toArray e (0, 0)) :: (zL ++ (yL ++ (U ++ (F ++ E))))) := by
 rcases List.mem_append.1 hq with hq | hq
 ·exact (hin q hq).mono fun p hp => by simp [hp]
 ·rw [List.mem_singleton.1 hq]
  refine Jpt List.mem_cons_self rfl m6 fun x hx => ?_; simp only [List.mem_cons, List.not_mem_nil, or_false] at hx
  rcases hx with rfl | rfl | rfl | rfl | rfl
  ·exact hy.mono fun p hp => by simp [hp]
  ·exact .mk hnu u0 u0 u0 m6 rfl m6 rfl i0 (fun x hx => nomatch hx)
  ·exact .mk hba.a hba.b hba.c hba.d m6 rfl m6 rfl i0 (fun x hx => nomatch hx)
  ·exact hz.mono fun p hp => by simp [hp]
  ·refine .mk u0 u0 u0 u0 m6 rfl m0 (by rw [hn]; exact hs.mono fun p hp => by simp [hp]) i0 fun x hx => (hin2 x hx).mono fun p hp => by simp [hp]
theorem Jw0  {vs : List Vl} {addr code : BS} {nonce ba bb bc bd : Nat} {ap p p2 : Pl} (her : vs.map WU = (accts.take i).map fun a => acV a.er) (hx : accts[i]? = some ⟨addr, nonce, ⟨ba, bb, bc, bd⟩, code, slots, ap⟩) (hy : WU y = yA addr) (hz : WU z = yA code) (hu : us.map WU = (slots.take slots.length).map qa) :
  (vs ++ [Vl.mk 0 0 0 0 [] none [y, .mk nonce 0 0 0 [] none [] none 0, .mk ba bb bc bd [] none [] none 0, z, .mk 0 0 0 0 [] none us p 0] p2 0]).map WU = (accts.take (i + 1)).map fun a => acV a.er := by
 rw [List.map_append, her, Kp hx, List.map_append]
 congr 1
 show [WU _] = [acV (AcL.er ⟨addr, nonce, ⟨ba, bb, bc, bd⟩, code, slots, ap⟩)]
 rw [List.take_length] at hu; simp only [Qa, Wi, List.map_cons, List.map_nil, hy, hz, hu]
 rfl
theorem Jw1 (accts : List AcL) : Vl.mk 0 0 0 0 [] none (accts.map fun a => acV a.er) none 0 = Yg (accts.map AcL.er) := by
 unfold Yg KI
 rw [List.map_map]; rfl
open Classical in
theorem Jti (a b : α) (Z Y M U W : List α) : (a :: b :: (Z ++ (Y ++ (M ++ (U ++ W))))).Perm (U ++ (a :: b :: (M ++ (Z ++ (Y ++ W))))) := by
 exact MT
open Classical in
theorem Jtj (a b : α) (Z Y M U F V E : List α) : (a :: b :: (Z ++ (Y ++ (M ++ (U ++ (F ++ (V ++ E))))))).Perm (V ++ (a :: b :: (M ++ (Z ++ (Y ++ (U ++ (F ++ E))))))) := by
 exact MT
open Classical in
theorem Jtk (r a b : α) (M Z Y F W : List α) : (r :: a :: b :: (M ++ (Z ++ (Y ++ (F ++ W))))).Perm (a :: (M ++ (r :: ((b :: (Z ++ (Y ++ F))) ++ W)))) := by
 exact MT
open Classical in
theorem Jtl (r a b : α) (M W : List α) : (r :: a :: b :: (M ++ W)).Perm (a :: (M ++ (r :: (b :: W)))) := by
 exact MT
def Ac1 (a : AcL) : Prop := a.addr.length ≤ 100000 ∧ a.code.length ≤ 100000 ∧ a.slots.length ≤ 100000 ∧ ∀ x ∈ a.slots, x.1.length ≤ 100000 ∧ x.2.length ≤ 100000
set_option maxHeartbeats 2000000 in
theorem Jiw {p : Pl} (hs : StL.In R ⟨accts, p⟩) (hn : accts.length ≤ 100000) (hb : ∀ a ∈ accts, Ac1 a) : PureT (α := VR (Yg (accts.map AcL.er))) Tryz.prog 54 [KB accts.length p].toArray (fun y => y.x.val) [] (fun y => y.L) R := by
 have hseg : Seg R accts.length (jE accts) p := hs.seg
 refine J4 Tryz.func54 rfl rfl fun w => Mw fun r1 => ?_; refine GS ?_; refine LN rfl fun r2 => gB ?_; refine kL ?_; refine kA ?_; refine Jw (σ := Nat × List Vl × Vk × Ji) (fun q => q.1 ≤ accts.length ∧ rowOk 7 q.1 (Qi q.2.1) q.2.2.1 ∧ (∀ x ∈ q.2.1, Vl.In q.2.2.2 x) ∧ q.2.1.map WU = (accts.take q.1).map fun a => acV a.er) (fun q => [(2, VA r1), (3, VA r2), (9, KB accts.length p), (10, .int .i64 (accts.length : Int)), (11, .int .i64 (q.1 : Int))]) (fun q => (r2, .cells #[.int .u64 0, .int .u64 0, .int .u64 0, .int .u64 0, .slice none 0 0, Jx q.1 q.2.2.1, .int .i64 0] 81 (0, 0)) :: (r1, .cells #[.int .u64 0, .int .u64 0, .int .u64 0, .int .u64 0, .slice none 0 0, .slice none 0 0, .int .i64 0] 81 (0, 0)) :: (JJ 81 (Qi q.2.1) q.2.2.1 ++ q.2.2.2)) (fun _ _ _ => True) (fun q => accts.length - q.1) (0, [], none, []) ⟨Nat.zero_le _, ⟨rfl, rfl⟩, fun x hx => (nomatch hx), rfl⟩ (lK rfl) mR (fun _ _ h => h) ?_; rintro ⟨i, vs, row, E⟩ ⟨hi1, hrow, hin, her⟩; simp only at hi1 hrow hin her; refine Nd ?_; refine cD (fun g => ?_) fun g => ?_
 ·refine kF ?_
  obtain ⟨a, ha, hma⟩ := Qz (show i < accts.length by omega)
  have ha2 := hs.accts a hma
  obtain ⟨hb1, hb2, hb3, hb4⟩ := hb a hma
  obtain ⟨addr, nonce, ⟨ba, bb, bc, bd⟩, code, slots, ap⟩ := a
  have hnu : XJ nonce := ha2.nonce
  have hba : W4.ok ⟨ba, bb, bc, bd⟩ := ha2.bal
  have hsg : Seg R slots.length (wB slots) ap := ha2.seg
  simp only at hb1 hb2 hb3 hb4; refine Hf ?_
  refine kN ?_; refine LN rfl fun r3 => ?_
  refine Ng ?_; refine GS ?_; refine LN rfl fun r4 => XN 7 [1] rfl rfl (LR rfl (Ju rfl hsg rfl) (kA ?_)); refine Jw (σ := Nat × List Vl × Vk × Ji) (fun q => q.1 ≤ slots.length ∧ rowOk 7 q.1 (Qi q.2.1) q.2.2.1 ∧ (∀ x ∈ q.2.1, Vl.In q.2.2.2 x) ∧ q.2.1.map WU = (slots.take q.1).map qa) (fun q => [(2, VA r1), (3, VA r2), (5, VA r3), (6, VA r4), (9, KB accts.length p), (10, .int .i64 (accts.length : Int)), (11, .int .i64 (i : Int)), (16, KB slots.length ap), (17, .int .i64 (slots.length : Int)), (18, .int .i64 (q.1 : Int))]) (fun q => (r4, .cells #[.int .u64 0, .int .u64 0, .int .u64 0, .int .u64 0, .slice none 0 0, Jx q.1 q.2.2.1, .int .i64 0] 81 (0, 0)) :: (r3, .cells #[Js addr, uV nonce, uV ba, uV bb, uV bc, uV bd, Js code, KB slots.length ap] 34 (0, 0)) :: (r2, .cells #[.int .u64 0, .int .u64 0, .int .u64 0, .int .u64 0, .slice none 0 0, Jx i row, .int .i64 0] 81 (0, 0)) :: (r1, .cells #[.int .u64 0, .int .u64 0, .int .u64 0, .int .u64 0, .slice none 0 0, .slice none 0 0, .int .i64 0] 81 (0, 0)) :: (JJ 81 (Qi q.2.1) q.2.2.1 ++ (q.2.2.2 ++ (JJ 81 (Qi vs) row ++ E)))) (fun _ _ _ => True) (fun q => slots.length - q.1) (0, [], none, []) ⟨Nat.zero_le _, ⟨rfl, rfl⟩, fun x hx => (nomatch hx), rfl⟩ (lK rfl) mR (fun _ _ h => h) ?_; rintro ⟨j, us, rw2, F⟩ ⟨hj1, hrow2, hin2, her2⟩; simp only at hj1 hrow2 hin2 her2; refine Nd ?_; refine cD (fun g => ?_) fun g => ?_
  ·refine kF ?_
   obtain ⟨⟨k, v⟩, hx, hmx⟩ := Qz (show j < slots.length by omega)
   obtain ⟨hk1, hv1⟩ := hb4 _ hmx
   simp only at hk1 hv1; refine Hf ?_
   refine LR rfl (Jf (j := j) rfl hsg rfl rfl rfl mc m0) (LR rfl (Kc JN oR rfl hsg hx rfl rfl) (LN rfl fun r5 => ?_))
   refine Ng ?_; refine gM ?_
   refine JU [(r4, .cells #[.int .u64 0, .int .u64 0, .int .u64 0, .int .u64 0, .slice none 0 0, Jx j rw2, .int .i64 0] 81 (0, 0)), (r5, .cells #[Js k, Js v] 59 (0, 0))] [(0, .pure), (1, .pure), (2, .pure), (3, .pure), (4, .grow (Qu (Jps hk1) (fun y => y.x.val) (fun y => y.L))), (5, .pure), (6, .pure), (7, .grow (Qu (Jps hv1) (fun y => y.x.val) (fun y => y.L))), (8, .dep [26, 29] (Jcb 2 81)), (9, .pure), (10, .dep [31] (Jcb 1 81))] 11 [0, 1, 2, 3, 5, 6, 4, 7, 8, 9, 10] m5 m5 m7 ?_
   refine kE ?_
   refine NB ?_; refine KY (k := 4) rfl rfl rfl rfl rfl Jr9 (Jba hk1) oN fun y => ?_
   obtain ⟨⟨ya, yb, yc, yd, ybits, ypb, yitems, ypi, ypick⟩, yL, yok, yer⟩ := y
   refine KY (k := 7) rfl rfl rfl rfl rfl Jr9 (Jba hv1) oN fun y => ?_
   obtain ⟨⟨za, zb, zc, zd, zbits, zpb, zitems, zpi, zpick⟩, zL, zok, zer⟩ := y
   refine Vz (k := 8) (dv := [_, _]) (n := 2) (sz := 7) (vs := [_, _]) (zs := [_, _, _, _, _, _, _, _, _, _, _, _, _, _]) (r := [uV ya, uV yb, uV yc, uV yd, KB ybits.length ypb, KB yitems.length ypi, .int .i64 ypick, uV za, uV zb, uV zc, uV zd, KB zbits.length zpb, KB zitems.length zpi, .int .i64 zpick]) rfl rfl rfl rfl rfl rfl rfl rfl rfl rfl rfl rfl rfl mi rfl fun rb => Jm (k := 9) rfl rfl rfl rfl rfl (fun _ hS => (J8 (r := [_, _, _, _, _, _, _]) rfl rfl)) (Vz (k := 10) (dv := [_]) (n := 1) (sz := 7) (vs := [_]) (zs := [_, _, _, _, _, _, _]) (r := [.int .u64 0, .int .u64 0, .int .u64 0, .int .u64 0, .slice none 0 0, .slice (some ⟨rb, 0, none⟩) 2 2, .int .i64 0]) rfl rfl rfl rfl rfl rfl rfl rfl rfl rfl rfl rfl rfl mi rfl fun rc => Kz (Ks (Jti (M := [_, _, _, _, _]) ..) (JF (L0 := _) (xs := Qi us) (row := rw2) (n := j) (sz := 7) (b := 88) (news := [_, _, _, _, _, _, _]) (List.Perm.refl _) rfl rfl rfl rfl (kn 0 rfl) rfl rfl rfl rfl rfl m6 rfl rfl rfl m6 hrow2 m0 m0 fun ra cap sp hra => ?_)))
   refine LS 1 [] rfl rfl (Kh (k := 4) (cs' := #[.int .u64 0, .int .u64 0, .int .u64 0, .int .u64 0, .slice none 0 0, Jx (j + 1) (some (ra, cap, sp)), .int .i64 0]) rfl rfl rfl rfl rfl rfl rfl rfl rfl rfl (N5 ?_)); refine Jn n9 (GU ?_)
   have hvc : Qi us ++ Vl.cells (.mk 0 0 0 0 [] none [(.mk ya yb yc yd ybits ypb yitems ypi ypick), (.mk za zb zc zd zbits zpb zitems zpi zpick)] (some (⟨rb, 0, none⟩, 2)) 0) = Qi (us ++ [.mk 0 0 0 0 [] none [(.mk ya yb yc yd ybits ypb yitems ypi ypick), (.mk za zb zc zd zbits zpb zitems zpi zpick)] (some (⟨rb, 0, none⟩, 2)) 0]) := by unfold Qi; rw [List.flatMap_append]; simp
   refine XD (Jtk (M := [_, _, _, _, _]) ..) ?_; exact Jo (j + 1, us ++ [.mk 0 0 0 0 [] none [(.mk ya yb yc yd ybits ypb yitems ypi ypick), (.mk za zb zc zd zbits zpb zitems zpi zpick)] (some (⟨rb, 0, none⟩, 2)) 0], some (ra, cap, sp), _ :: (zL ++ (yL ++ F))) ⟨by simp only; omega, by simp only; rw [← hvc]; exact hra, fun z hz => Jwx hin2 yok zok hz, Jwy her2 hx yer zer⟩ ml (lK rfl) n8 (fun _ _ h => h)
  ·refine kF ?_
   obtain rfl : j = slots.length := by omega
   have hul : us.length = slots.length := by have := congrArg List.length her2; simpa using this
   have hvr2 : Jx slots.length rw2 = KB us.length (QN rw2) := by rw [hul]; exact (V4 _ _ (fun h => by rw [h] at hrow2; exact hrow2.1)).symm
   rw [hvr2]
   refine JU [(r2, .cells #[.int .u64 0, .int .u64 0, .int .u64 0, .int .u64 0, .slice none 0 0, Jx i row, .int .i64 0] 81 (0, 0)), (r3, .cells #[Js addr, uV nonce, uV ba, uV bb, uV bc, uV bd, Js code, KB slots.length ap] 34 (0, 0)), (r4, .cells #[.int .u64 0, .int .u64 0, .int .u64 0, .int .u64 0, .slice none 0 0, KB us.length (QN rw2), .int .i64 0] 81 (0, 0))] [(0, .pure), (1, .pure), (2, .pure), (3, .pure), (4, .grow (Qu (Jps hb1) (fun y => y.x.val) (fun y => y.L))), (5, .pure), (6, .pure), (7, .pure), (8, .pure), (9, .pure), (10, .pure), (11, .pure), (12, .pure), (13, .pure), (14, .grow (Qu (Jps hb2) (fun y => y.x.val) (fun y => y.L))), (15, .pure), (16, .dep [40, 44, 47, 50, 51] (Jcb 5 81)), (17, .pure), (18, .dep [53] (Jcb 1 81))] 19 [0, 1, 2, 3, 5, 6, 9, 10, 11, 12, 13, 15, 4, 7, 8, 14, 16, 17, 18] m5 m5 m7 ?_
   refine kE ?_
   refine NB ?_
   refine Jm (k := 9) rfl rfl rfl rfl rfl (fun _ hS => (J7 rfl rfl rfl)) (Jm (k := 10) rfl rfl rfl rfl rfl (fun _ hS => (Jl (vs := [_, _, _, _]) rfl (.inl (hS _ (Kq (n := 1) rfl))) rfl rfl rfl rfl)) (Jm (k := 11) rfl rfl rfl rfl rfl (fun _ hS => (J8 (r := [_, _, _, _, _, _, _]) rfl rfl)) ?_))
   refine Jm (k := 12) rfl rfl rfl rfl rfl (fun _ hS => (J7 rfl rfl rfl)) (Jm (k := 13) rfl rfl rfl rfl rfl (fun _ hS => (Jd rfl (.inl (hS _ (Kq (n := 1) rfl))) rfl rfl)) (Jm (k := 15) rfl rfl rfl rfl rfl (fun _ hS => (Jl (vs := [_, _, _, _, _, _, _]) rfl (.inl (hS _ (Kq (n := 2) rfl))) rfl rfl rfl rfl)) (KY (k := 4) rfl rfl rfl rfl rfl Jr9 (Jba hb1) oN fun y => ?_)))
   obtain ⟨⟨ya, yb, yc, yd, ybits, ypb, yitems, ypi, ypick⟩, yL, yok, yer⟩ := y
   refine WF (k := 7) rfl rfl rfl rfl rfl Jnk (Ys _) (Jm (k := 8) rfl rfl rfl rfl rfl (fun _ hS => (J8 (r := [_, _, _, _, _, _, _]) rfl rfl)) (KY (k := 14) rfl rfl rfl rfl rfl Jr9 (Jba hb2) oN fun y => ?_))
   obtain ⟨⟨za, zb, zc, zd, zbits, zpb, zitems, zpi, zpick⟩, zL, zok, zer⟩ := y
   refine Vz (k := 16) (dv := [_, _, _, _, _]) (n := 5) (sz := 7) (vs := [_, _, _, _, _]) (zs := [_, _, _, _, _, _, _, _, _, _, _, _, _, _, _, _, _, _, _, _, _, _, _, _, _, _, _, _, _, _, _, _, _, _, _]) (r := [uV ya, uV yb, uV yc, uV yd, KB ybits.length ypb, KB yitems.length ypi, .int .i64 ypick, uV nonce, uV 0, uV 0, uV 0, .slice none 0 0, .slice none 0 0, .int .i64 0, uV ba, uV bb, uV bc, uV bd, .slice none 0 0, .slice none 0 0, .int .i64 0, uV za, uV zb, uV zc, uV zd, KB zbits.length zpb, KB zitems.length zpi, .int .i64 zpick, uV 0, uV 0, uV 0, uV 0, .slice none 0 0, KB us.length (QN rw2), .int .i64 0]) rfl rfl rfl rfl rfl rfl rfl rfl rfl rfl rfl rfl rfl mi rfl fun rb => Jm (k := 17) rfl rfl rfl rfl rfl (fun _ hS => (J8 (r := [_, _, _, _, _, _, _]) rfl rfl)) (Vz (k := 18) (dv := [_]) (n := 1) (sz := 7) (vs := [_]) (zs := [_, _, _, _, _, _, _]) (r := [.int .u64 0, .int .u64 0, .int .u64 0, .int .u64 0, .slice none 0 0, .slice (some ⟨rb, 0, none⟩) 5 5, .int .i64 0]) rfl rfl rfl rfl rfl rfl rfl rfl rfl rfl rfl rfl rfl mi rfl fun rc => Kz (Ks (Jtj (M := [_, _, _, _]) ..) (JF (L0 := _) (xs := Qi vs) (row := row) (n := i) (sz := 7) (b := 88) (news := [_, _, _, _, _, _, _]) (List.Perm.refl _) rfl rfl rfl rfl (kn 0 rfl) rfl rfl rfl rfl rfl m6 rfl rfl rfl m6 hrow m0 m0 fun ra cap sp hra => ?_)))
   refine LS 1 [] rfl rfl (Kh (k := 5) (cs' := #[.int .u64 0, .int .u64 0, .int .u64 0, .int .u64 0, .slice none 0 0, Jx (i + 1) (some (ra, cap, sp)), .int .i64 0]) rfl rfl rfl rfl rfl rfl rfl rfl rfl rfl (N5 ?_)); refine NF ?_
   have hvc : Qi vs ++ Vl.cells (.mk 0 0 0 0 [] none [(.mk ya yb yc yd ybits ypb yitems ypi ypick), (.mk nonce 0 0 0 [] none [] none 0), (.mk ba bb bc bd [] none [] none 0), (.mk za zb zc zd zbits zpb zitems zpi zpick), .mk 0 0 0 0 [] none us (QN rw2) 0] (some (⟨rb, 0, none⟩, 5)) 0) = Qi (vs ++ [.mk 0 0 0 0 [] none [(.mk ya yb yc yd ybits ypb yitems ypi ypick), (.mk nonce 0 0 0 [] none [] none 0), (.mk ba bb bc bd [] none [] none 0), (.mk za zb zc zd zbits zpb zitems zpi zpick), .mk 0 0 0 0 [] none us (QN rw2) 0] (some (⟨rb, 0, none⟩, 5)) 0]) := by unfold Qi; rw [List.flatMap_append]; simp
   refine XD (Jtl (M := [_, _, _, _]) ..) ?_; exact Jo (i + 1, vs ++ [.mk 0 0 0 0 [] none [(.mk ya yb yc yd ybits ypb yitems ypi ypick), (.mk nonce 0 0 0 [] none [] none 0), (.mk ba bb bc bd [] none [] none 0), (.mk za zb zc zd zbits zpb zitems zpi zpick), .mk 0 0 0 0 [] none us (QN rw2) 0] (some (⟨rb, 0, none⟩, 5)) 0], some (ra, cap, sp), _ :: (zL ++ (yL ++ (_ ++ (F ++ E))))) ⟨by simp only; omega, by simp only; rw [← hvc]; exact hra, fun z hz => Jwz hin (KC hrow2 m6) hul hb3 hin2 hnu hba yok zok hz, Jw0 her ha yer zer her2⟩ ml (lK rfl) (by simp only; rw [← hvc]; exact .cons _ (.cons _ (.cons _ (List.Sublist.refl _)))) (fun _ _ h => h)
 ·refine Nd ?_
  have honeV : ([.int .u64 0, .int .u64 0, .int .u64 0, .int .u64 0, .slice none 0 0, Jx i row, .int .i64 0] : List Value).all QL = true := by cases row <;> rfl
  refine MF fun w1 hs1 => ?_
  have hiM : i = accts.length := by omega
  have hvl : vs.length = i := by have := congrArg List.length her; simp at this; omega
  rw [hiM, List.take_length] at her; rw [← hvl] at hrow
  have hvr : Jx i row = KB vs.length (QN row) := by rw [← hvl]; exact (V4 _ _ (fun h => by rw [h] at hrow; exact hrow.1)).symm
  exact ⟨⟨.mk 0 0 0 0 [] none vs (QN row) 0, JJ 81 (Qi vs) row ++ E, jX m0 (KC hrow m6) hin i0, by rw [Qa, Wi, her]; exact Jw1 ..⟩, congrArg (fun z => Ending.returned (Value.agg #[.int .u64 0, .int .u64 0, .int .u64 0, .int .u64 0, .slice none 0 0, z, .int .i64 0])) hvr, hs1.weakL (.cons _ (.cons _ (List.Sublist.refl _)))⟩
def vA (x : AcL) : Value := .agg (AcL.cells x).toArray
theorem Jbf (x : AcL) : Pure Tryz.prog 39 [vA x].toArray (Js (AcL.addr x)) := by
 refine J5 Tryz.func39 rfl rfl fun w => ?_; exact Gd
theorem Jpu {xs : List AcL} {p : Pl} (hl : xs.length ≤ 9223372036854775807) (hs : Seg R xs.length (xs.flatMap AcL.cells) p) {pr : AcL → Bool} (eg : Enters Tryz.prog g) (hg : ∀ x ∈ xs, PureR Tryz.prog g (vA x :: caps).toArray (.bool (pr x)) R) :
  PureR Tryz.prog 34 [KB xs.length p, .func (.func g) #[] caps.toArray].toArray (.int .i64 (Y7 pr xs)) R := by
 refine Ja Tryz.func34 rfl rfl fun w => Nf ?_; rintro i ⟨hi1, hinv⟩; refine Nd ?_; refine cD (fun h6 => ?_) fun h6 => ?_
 refine JS 11 rfl ?_
 obtain ⟨x, hx, hmx⟩ := Qz mZ
 refine gD ?_
 refine NM ?_; refine LR rfl (Kc AcL.len oR rfl hs hx rfl rfl) (Jc rfl rfl rfl eg (hg x hmx) oR (gM ?_)); refine cD (fun h10 => ?_) fun h10 => ?_
 refine HG fun w1 hs1 => ?_; rw [Jcq hx m8 hinv]; rfl
 refine NT ?_
 exact Jo (i + 1) ⟨by omega, fun j hj y hy => by
  rcases Nat.lt_succ_iff_lt_or_eq.1 hj with hj | rfl
  exact hinv j hj y hy
  rw [hx] at hy; cases hy; assumption⟩ m0 (lK rfl) (List.nil_sublist _) (fun _ _ h => h)
 ·exact GX
theorem Jpv {xs : List AcL} {p : Pl} (hl : xs.length ≤ 9223372036854775807) (hs : Seg R xs.length (xs.flatMap AcL.cells) p) :
  PureR Tryz.prog 38 [KB xs.length p, fV 39].toArray (.bool (QM AcL.addr xs)) R := by
 refine Ja Tryz.func38 rfl rfl fun w => Gk ?_; refine Jw (σ := Nat) (fun i => (i = 0 ∨ i < xs.length) ∧ ∀ j x y, j < i → xs[j]? = some x → xs[j + 1]? = some y → Op.bytesLess (AcL.addr x) (AcL.addr y) = true) (fun i => [(0, KB xs.length p), (1, fV 39), (5, .int .i64 ((i + 1 : Nat) : Int))]) (fun _ => []) (fun _ _ _ => True) (fun i => xs.length - i) 0 ⟨.inl rfl, fun j _ _ hj => absurd hj m0⟩ (lK rfl) (List.nil_sublist _) (fun _ _ h => h) ?_; rintro i ⟨hi1, hinv⟩; refine G4 ?_; refine MV ?_; refine Nw ?_; refine cD (fun g => ?_) fun g => ?_
 refine kF ?_
 obtain ⟨x, hx, hmx⟩ := Qz mZ
 obtain ⟨y, hy, hmy⟩ := Qz (show i + 1 < xs.length by omega)
 refine JI 14 m5 m5 (N8 ?_); refine NZ ?_; refine VS m0 m0 ?_
 refine gZ ?_; refine Jb rfl rfl rfl (Kc AcL.len oR rfl hs hx rfl rfl) (Qd rfl rfl rfl Jr6 (Jbf x) (N8 ?_)); refine Mx ?_
 refine Jb rfl rfl rfl (Jf (j := (i + 1)) rfl hs rfl rfl rfl mc m0) (Jb rfl rfl rfl (Kc AcL.len oR rfl hs hy rfl rfl) (Qd rfl rfl rfl Jr6 (Jbf y) (Jb rfl rfl rfl (vK rfl rfl) (D4 ?_)))); refine cD (fun g => ?_) fun g => ?_
 refine Nm fun w1 hs1 => ?_; rw [jG hx hy my]; rfl
 refine gU ?_; refine My ?_
 exact Jo (i + 1) ⟨.inr m0, fun j u v hj hu hv => by
  rcases Nat.lt_succ_iff_lt_or_eq.1 hj with hj | rfl
  exact hinv j u v hj hu hv
  rw [hx] at hu; rw [hy] at hv; cases hu; cases hv; simp_all⟩ m0 (lK rfl) (List.nil_sublist _) (fun _ _ h => h)
 ·exact gN
def vS (x : (BS × BS)) : Value := .agg (Qn x).toArray
theorem Jbg (x : (BS × BS)) : Pure Tryz.prog 48 [vS x].toArray (Js (Prod.fst x)) := by
 refine J5 Tryz.func48 rfl rfl fun w => ?_; exact Gd
theorem yG {p : Pl} (hl : xs.length ≤ 9223372036854775807) (hs : Seg R xs.length (xs.flatMap Qn) p) {pr : (BS × BS) → Bool} (eg : Enters Tryz.prog g) (hg : ∀ x ∈ xs, PureR Tryz.prog g (vS x :: caps).toArray (.bool (pr x)) R) :
  PureR Tryz.prog 40 [KB xs.length p, .func (.func g) #[] caps.toArray].toArray (.int .i64 (Y7 pr xs)) R := by
 refine Ja Tryz.func40 rfl rfl fun w => Nf ?_; rintro i ⟨hi1, hinv⟩; refine Nd ?_; refine cD (fun h6 => ?_) fun h6 => ?_
 refine JS 11 rfl ?_
 obtain ⟨x, hx, hmx⟩ := Qz mZ
 refine gD ?_
 refine NM ?_; refine LR rfl (Kc JN oR rfl hs hx rfl rfl) (Jc rfl rfl rfl eg (hg x hmx) oR (gM ?_)); refine cD (fun h10 => ?_) fun h10 => ?_
 refine HG fun w1 hs1 => ?_; rw [Jcq hx m8 hinv]; rfl
 refine NT ?_
 exact Jo (i + 1) ⟨by omega, fun j hj y hy => by
  rcases Nat.lt_succ_iff_lt_or_eq.1 hj with hj | rfl
  exact hinv j hj y hy
  rw [hx] at hy; cases hy; assumption⟩ m0 (lK rfl) (List.nil_sublist _) (fun _ _ h => h)
 ·exact GX
theorem Jpw {p : Pl} (hl : xs.length ≤ 9223372036854775807) (hs : Seg R xs.length (xs.flatMap Qn) p) :
  PureR Tryz.prog 68 [KB xs.length p, fV 48].toArray (.bool (QM Prod.fst xs)) R := by
 refine Ja Tryz.func68 rfl rfl fun w => Gk ?_; refine Jw (σ := Nat) (fun i => (i = 0 ∨ i < xs.length) ∧ ∀ j x y, j < i → xs[j]? = some x → xs[j + 1]? = some y → Op.bytesLess (Prod.fst x) (Prod.fst y) = true) (fun i => [(0, KB xs.length p), (1, fV 48), (5, .int .i64 ((i + 1 : Nat) : Int))]) (fun _ => []) (fun _ _ _ => True) (fun i => xs.length - i) 0 ⟨.inl rfl, fun j _ _ hj => absurd hj m0⟩ (lK rfl) (List.nil_sublist _) (fun _ _ h => h) ?_; rintro i ⟨hi1, hinv⟩; refine G4 ?_; refine MV ?_; refine Nw ?_; refine cD (fun g => ?_) fun g => ?_
 refine kF ?_
 obtain ⟨x, hx, hmx⟩ := Qz mZ
 obtain ⟨y, hy, hmy⟩ := Qz (show i + 1 < xs.length by omega)
 refine JI 14 m5 m5 (N8 ?_); refine NZ ?_; refine VS m0 m0 ?_
 refine gZ ?_; refine Jb rfl rfl rfl (Kc JN oR rfl hs hx rfl rfl) (Qd rfl rfl rfl Jr7 (Jbg x) (N8 ?_)); refine Mx ?_
 refine Jb rfl rfl rfl (Jf (j := (i + 1)) rfl hs rfl rfl rfl mc m0) (Jb rfl rfl rfl (Kc JN oR rfl hs hy rfl rfl) (Qd rfl rfl rfl Jr7 (Jbg y) (Jb rfl rfl rfl (vK rfl rfl) (D4 ?_)))); refine cD (fun g => ?_) fun g => ?_
 refine Nm fun w1 hs1 => ?_; rw [jG hx hy my]; rfl
 refine gU ?_; refine My ?_
 exact Jo (i + 1) ⟨.inr m0, fun j u v hj hu hv => by
  rcases Nat.lt_succ_iff_lt_or_eq.1 hj with hj | rfl
  exact hinv j u v hj hu hv
  rw [hx] at hu; rw [hy] at hv; cases hu; cases hv; simp_all⟩ m0 (lK rfl) (List.nil_sublist _) (fun _ _ h => h)
 ·exact gN
theorem Jtm (a : BS) : (!decide (a = a)) = false := by simp
theorem Jix (a : BS) : Pure Tryz.prog 158 [Js a].toArray (.bool false) := by
 refine J5 Tryz.func158 rfl rfl fun w => kd ?_; refine LR rfl (W3 rfl rfl) (Jn (congrArg Value.bool (Jtm a)) ?_); exact MY
theorem zU (a b : BS) : Pure Tryz.prog 106 [Js a, Js b].toArray (.int .i64 (vo a b)) := by
 refine J5 Tryz.func106 rfl rfl fun w => GY ?_; refine J6 rfl rfl rfl (enters_of Tryz.func158 m5 rfl) (Jix a) (gB ?_); refine J6 rfl rfl rfl (enters_of Tryz.func158 m5 rfl) (Jix b) (He ?_); refine JA rfl (fun g => ?_) (fun g => ?_)
 try exact Bool.noConfusion g
 ·try simp only [ZZ] at g
  refine JS 8 rfl (JA rfl (fun g => ?_) (fun g => ?_))
  try exact Bool.noConfusion g
  ·try simp only [ZZ] at g
   refine Jr 7 rfl (LR rfl (Jq9 rfl rfl) (gM ?_)); refine cD (fun g => ?_) fun g => ?_
   refine NW fun w1 hs1 => ?_
   unfold vo
   simp_all [JK]
   ·refine Jr 7 rfl (LR rfl (Jaa rfl rfl) (gM ?_)); refine cD (fun g => ?_) fun g => ?_
    refine NW fun w1 hs1 => ?_
    unfold vo
    simp_all [JK]
    ·refine G1 fun w1 hs1 => ?_
     unfold vo
     simp_all [JK]
theorem Jpx : Lib.repeatL [0] 32 = Qm := by decide +kernel
theorem Jga : Pure Tryz.prog 42 [].toArray (Js Qm) := by
 rw [← Jpx]; refine J5 Tryz.func42 rfl rfl fun w => JT (Jr 7 rfl (J6 rfl rfl rfl Jv4 (q4 (n := 32) m6) ?_)); exact MY
theorem Jyr (hb : (rb, Obj.cells #[fV 39] e (0, 0)) ∈ R) (x : AcL) (k : BS) : PureR Tryz.prog 105 [vA x, Js k, .pointer (some ⟨rb, 0, none⟩)].toArray (.int .i64 (vo (AcL.addr x) k)) R := by
 refine Ja Tryz.func105 rfl rfl fun w => Mw fun r1 => ?_; refine N5 ?_; refine LR rfl (Jd rfl (Or.inr hb) rfl rfl) (LR rfl (Jl (vs := [_, _, _, _, _, _, _, _]) rfl (kn 0 rfl) rfl rfl rfl rfl) (J6 rfl rfl rfl Jr6 (Jbf x) (QV rfl (J6 rfl rfl rfl (enters_of Tryz.func106 m5 rfl) (zU (AcL.addr x) k) (Jy 4 rfl ?_))))); exact MK
theorem Jkp {xs : List AcL} {p : Pl} (hl : xs.length ≤ 1000) (hs : Seg R xs.length (xs.flatMap AcL.cells) p) (hso : Ku AcL.addr xs) {k : BS} (eg : Enters Tryz.prog g) (hg : ∀ x ∈ xs, PureR Tryz.prog g (vA x :: Js k :: caps).toArray (.int .i64 (vo (AcL.addr x) k)) R) :
  PureR Tryz.prog 104 [KB xs.length p, Js k, .func (.func g) #[] caps.toArray].toArray (.tuple #[.int .i64 (jm AcL.addr k xs : Nat), .bool (VP AcL.addr k xs)]) R := by
 refine Ja Tryz.func104 rfl rfl fun w => kd ?_; refine MV ?_; refine JR 12 rfl (Jw (σ := Nat × Nat) (fun s => (s.1 ≤ s.2 ∧ s.2 ≤ xs.length) ∧ (∀ q y, q < s.1 → xs[q]? = some y → Op.bytesLess (AcL.addr y) k = true) ∧ ∀ q y, s.2 ≤ q → xs[q]? = some y → Op.bytesLess (AcL.addr y) k = false) (fun s => [(0, KB xs.length p), (1, Js k), (2, .func (.func g) #[] caps.toArray), (8, .int .i64 (xs.length : Int)), (9, .int .i64 (s.1 : Int)), (10, .int .i64 (s.2 : Int))]) (fun _ => []) (fun _ _ _ => True) (fun s => s.2 - s.1) (0, xs.length) ⟨⟨Nat.zero_le _, Nat.le_refl _⟩, fun q _ hq => absurd hq (Nat.not_lt_zero q), fun q y hq hy => absurd (List.getElem?_eq_some_iff.1 hy).1 m0⟩ (lK rfl) (List.nil_sublist _) (fun _ _ h => h) ?_); rintro ⟨i, j⟩ ⟨⟨hi0, hj0⟩, hi1, hi2⟩; simp only at hi0 hj0 hi1 hi2; refine H6 ?_; refine cD (fun h7 => ?_) fun h7 => ?_
 refine gE ?_
 obtain ⟨x, hx, hmx⟩ := Qz (show (i + j) / 2 < xs.length by omega)
 refine gD ?_
 refine LR rfl (Jf (j := ((i + j) / 2)) rfl hs rfl rfl rfl mc m0) (LR rfl (Kc AcL.len oR rfl hs hx rfl rfl) (QV rfl (Jc rfl rfl rfl eg (hg x hmx) oR ?_))); refine WR rfl (Jn (congrArg Value.bool (Jhb (AcL.addr x) k)) (JR 2 rfl ?_)); refine cD (fun h10 => ?_) fun h10 => ?_
 exact kD
 exact kY
 ·refine Nd ?_
  have hij : i = j := by omega
  have hlo : i = jm AcL.addr k xs := Jmu m0 hi1 (fun y hy => hi2 i y m0 hy)
  refine gU ?_
  refine J0 39 rfl (fun gb => ?_) (fun gb => ?_) <;> (try simp only [ZZ] at gb) <;> first | (refine QV rfl ?_) | (refine LK rfl ?_)
  all_goals refine gr ?_
  all_goals first | (obtain ⟨x, hx, hmx⟩ := Qz mZ; refine LR rfl (Jf (j := i) rfl hs rfl rfl rfl mc m0) ?_) | refine LK rfl ?_
  all_goals first | refine LR rfl (Kc AcL.len oR rfl hs hx rfl rfl) ?_ | refine LK rfl ?_
  all_goals refine LW 1 [] rfl rfl ?_
  all_goals first | refine Jc rfl rfl rfl eg (hg x hmx) oR ?_ | refine LK rfl ?_
  all_goals first | (refine WR rfl ?_; refine Jn (congrArg Value.bool (Jcr (AcL.addr x) k)) ?_) | refine LK rfl ?_
  all_goals (
   refine LW 1 [] rfl rfl (Jy 3 rfl (qN 2 rfl ?_)); refine Nc fun w1 hs1 => ?_
   first | (rw [← Jcu (kf := AcL.addr) (hlo ▸ hx), ← hlo]; rfl) | (rw [qy (kf := AcL.addr) m0, ← hlo]; rfl)
   skip)
theorem Jpy {xs : List AcL} {p : Pl} (hl : xs.length ≤ 1000) (hs : Seg R xs.length (xs.flatMap AcL.cells) p) (hso : Ku AcL.addr xs) {k : BS} :
  PureR Tryz.prog 70 [KB xs.length p, Js k, fV 39].toArray (.tuple #[.int .i64 (jm AcL.addr k xs : Nat), .bool (VP AcL.addr k xs)]) R := by
 refine Ja Tryz.func70 rfl rfl fun w => Mw fun r1 => ?_; refine JM 8 rfl (g7 ?_); refine Jc (Rl := (r1, Obj.cells #[fV 39] _ (0, 0)) :: R) rfl rfl rfl (enters_of Tryz.func104 m5 rfl) (Jkp (caps := [.pointer (some ⟨r1, 0, none⟩)]) hl (hs.mono fun q hq => List.mem_cons_of_mem _ hq) hso (enters_of Tryz.func105 m5 rfl) (fun x hx => Jyr List.mem_cons_self x k)) (fun q hq => (List.mem_cons.1 hq).elim (fun h => Or.inl (by rw [h]; exact List.mem_cons_self)) Or.inr) (Jy 7 rfl (MC fun w1 hs1 => ?_)); exact MA
theorem Jys (hb : (rb, Obj.cells #[fV 48] e (0, 0)) ∈ R) (x : (BS × BS)) (k : BS) : PureR Tryz.prog 110 [vS x, Js k, .pointer (some ⟨rb, 0, none⟩)].toArray (.int .i64 (vo (Prod.fst x) k)) R := by
 refine Ja Tryz.func110 rfl rfl fun w => Mw fun r1 => ?_; refine N5 ?_; refine LR rfl (Jd rfl (Or.inr hb) rfl rfl) (LR rfl (Jl (vs := [_, _]) rfl (kn 0 rfl) rfl rfl rfl rfl) (J6 rfl rfl rfl Jr7 (Jbg x) (QV rfl (J6 rfl rfl rfl (enters_of Tryz.func106 m5 rfl) (zU (Prod.fst x) k) (Jy 4 rfl ?_))))); exact MK
theorem Jkq {p : Pl} (hl : xs.length ≤ 1000) (hs : Seg R xs.length (xs.flatMap Qn) p) (hso : Ku Prod.fst xs) {k : BS} (eg : Enters Tryz.prog g) (hg : ∀ x ∈ xs, PureR Tryz.prog g (vS x :: Js k :: caps).toArray (.int .i64 (vo (Prod.fst x) k)) R) :
  PureR Tryz.prog 109 [KB xs.length p, Js k, .func (.func g) #[] caps.toArray].toArray (.tuple #[.int .i64 (jm Prod.fst k xs : Nat), .bool (VP Prod.fst k xs)]) R := by
 refine Ja Tryz.func109 rfl rfl fun w => kd ?_; refine MV ?_; refine JR 12 rfl (Jw (σ := Nat × Nat) (fun s => (s.1 ≤ s.2 ∧ s.2 ≤ xs.length) ∧ (∀ q y, q < s.1 → xs[q]? = some y → Op.bytesLess (Prod.fst y) k = true) ∧ ∀ q y, s.2 ≤ q → xs[q]? = some y → Op.bytesLess (Prod.fst y) k = false) (fun s => [(0, KB xs.length p), (1, Js k), (2, .func (.func g) #[] caps.toArray), (8, .int .i64 (xs.length : Int)), (9, .int .i64 (s.1 : Int)), (10, .int .i64 (s.2 : Int))]) (fun _ => []) (fun _ _ _ => True) (fun s => s.2 - s.1) (0, xs.length) ⟨⟨Nat.zero_le _, Nat.le_refl _⟩, fun q _ hq => absurd hq (Nat.not_lt_zero q), fun q y hq hy => absurd (List.getElem?_eq_some_iff.1 hy).1 m0⟩ (lK rfl) (List.nil_sublist _) (fun _ _ h => h) ?_); rintro ⟨i, j⟩ ⟨⟨hi0, hj0⟩, hi1, hi2⟩; simp only at hi0 hj0 hi1 hi2; refine H6 ?_; refine cD (fun h7 => ?_) fun h7 => ?_
 refine gE ?_
 obtain ⟨x, hx, hmx⟩ := Qz (show (i + j) / 2 < xs.length by omega)
 refine gD ?_
 refine LR rfl (Jf (j := ((i + j) / 2)) rfl hs rfl rfl rfl mc m0) (LR rfl (Kc JN oR rfl hs hx rfl rfl) (QV rfl (Jc rfl rfl rfl eg (hg x hmx) oR ?_))); refine WR rfl (Jn (congrArg Value.bool (Jhb (Prod.fst x) k)) (JR 2 rfl ?_)); refine cD (fun h10 => ?_) fun h10 => ?_
 exact kD
 exact kY
 ·refine Nd ?_
  have hij : i = j := by omega
  have hlo : i = jm Prod.fst k xs := Jmu m0 hi1 (fun y hy => hi2 i y m0 hy)
  refine gU ?_
  refine J0 39 rfl (fun gb => ?_) (fun gb => ?_) <;> (try simp only [ZZ] at gb) <;> first | (refine QV rfl ?_) | (refine LK rfl ?_)
  all_goals refine gr ?_
  all_goals first | (obtain ⟨x, hx, hmx⟩ := Qz mZ; refine LR rfl (Jf (j := i) rfl hs rfl rfl rfl mc m0) ?_) | refine LK rfl ?_
  all_goals first | refine LR rfl (Kc JN oR rfl hs hx rfl rfl) ?_ | refine LK rfl ?_
  all_goals refine LW 1 [] rfl rfl ?_
  all_goals first | refine Jc rfl rfl rfl eg (hg x hmx) oR ?_ | refine LK rfl ?_
  all_goals first | (refine WR rfl ?_; refine Jn (congrArg Value.bool (Jcr (Prod.fst x) k)) ?_) | refine LK rfl ?_
  all_goals (
   refine LW 1 [] rfl rfl (Jy 3 rfl (qN 2 rfl ?_)); refine Nc fun w1 hs1 => ?_
   first | (rw [← Jcu (kf := Prod.fst) (hlo ▸ hx), ← hlo]; rfl) | (rw [qy (kf := Prod.fst) m0, ← hlo]; rfl)
   skip)
theorem Jpz {p : Pl} (hl : xs.length ≤ 1000) (hs : Seg R xs.length (xs.flatMap Qn) p) (hso : Ku Prod.fst xs) {k : BS} :
  PureR Tryz.prog 73 [KB xs.length p, Js k, fV 48].toArray (.tuple #[.int .i64 (jm Prod.fst k xs : Nat), .bool (VP Prod.fst k xs)]) R := by
 refine Ja Tryz.func73 rfl rfl fun w => Mw fun r1 => ?_; refine JM 8 rfl (g7 ?_); refine Jc (Rl := (r1, Obj.cells #[fV 48] _ (0, 0)) :: R) rfl rfl rfl (enters_of Tryz.func109 m5 rfl) (Jkq (caps := [.pointer (some ⟨r1, 0, none⟩)]) hl (hs.mono fun q hq => List.mem_cons_of_mem _ hq) hso (enters_of Tryz.func110 m5 rfl) (fun x hx => Jys List.mem_cons_self x k)) (fun q hq => (List.mem_cons.1 hq).elim (fun h => Or.inl (by rw [h]; exact List.mem_cons_self)) Or.inr) (Jy 7 rfl (MC fun w1 hs1 => ?_)); exact MA
theorem Jp0 {xs : List AcL} {p : Pl} (hl : xs.length ≤ 1000) (hs : Seg R xs.length (xs.flatMap AcL.cells) p) :
  PureT (α := { row : Vk // rowOk 8 xs.length (xs.flatMap AcL.cells) row }) Tryz.prog 71 [KB xs.length p].toArray (fun x => Jx xs.length x.1) [] (fun x => JJ 34 (xs.flatMap AcL.cells) x.1) R := by
 cases p with
 | none =>
  have h0 : xs = [] := List.length_eq_zero_iff.1 hs
  subst h0; refine J4 Tryz.func71 rfl rfl fun w => Gk ?_; refine cD (fun g => ?_) fun g => ?_
  exact Gh
  try exact Bool.noConfusion g
 | some q =>
  refine J4 Tryz.func71 rfl rfl fun w => Gk ?_; refine JA rfl (fun g => ?_) (fun g => ?_)
  try exact Bool.noConfusion g
  ·refine gD ?_; refine X6 rfl rfl rfl rfl fun r1 => QV rfl (wH (k := 0) (b := 96) (sz := 8) rfl rfl rfl rfl rfl rfl hs oR rfl rfl rfl rfl rfl m6 (KU AcL.len xs) (Y8 AcL.one xs) m0 m0 fun row hrow => (Jy 4 rfl ?_)); exact kX
theorem Jkr {R : Ji} {xs : List AcL} {row : Vk} (hl : xs.length ≤ 1000) (hrow : rowOk 8 xs.length (xs.flatMap AcL.cells) row) {i : Nat} (hi : i ≤ xs.length) {y : AcL} {rv : Nat} (hv : (rv, Obj.cells (AcL.cells y).toArray 34 (0, 0)) ∈ R) :
  PureT (α := { row' : Vk // rowOk 8 (xs.length + 1) ((xs.take i ++ y :: xs.drop i).flatMap AcL.cells) row' }) Tryz.prog 72 [Jx xs.length row, .int .i64 (i : Int), .slice (some ⟨rv, 0, none⟩) 1 1].toArray (fun x => Jx (xs.length + 1) x.1) (JJ 34 (xs.flatMap AcL.cells) row) (fun x => JJ 34 ((xs.take i ++ y :: xs.drop i).flatMap AcL.cells) x.1) R := by
 obtain ⟨A, hA⟩ : ∃ A, A = (xs.take i).flatMap AcL.cells := ⟨_, rfl⟩
 obtain ⟨B, hB⟩ : ∃ B, B = (xs.drop i).flatMap AcL.cells := ⟨_, rfl⟩
 obtain ⟨n, hn⟩ : ∃ n, n = xs.length := ⟨_, rfl⟩
 have e1 : xs.flatMap AcL.cells = A ++ B := by rw [hA, hB, ← List.flatMap_append, List.take_append_drop]
 have e2 : (xs.take i ++ y :: xs.drop i).flatMap AcL.cells = A ++ (AcL.cells y ++ B) := by rw [List.flatMap_append, List.flatMap_cons, hA, hB]
 have lA : A.length = i * 8 := by rw [hA, KU AcL.len, List.length_take, Nat.min_eq_left hi]
 have lB : B.length = (n - i) * 8 := by rw [hB, KU AcL.len, List.length_drop, hn]
 have lF : (AcL.cells y).length = 8 := AcL.len y
 have oF : (AcL.cells y).all QL = true := AcL.one y
 have oA : A.all QL = true := by rw [hA]; exact Y8 AcL.one _
 have oB : B.all QL = true := by rw [hB]; exact Y8 AcL.one _
 rw [e1] at hrow; rw [e1, e2]; rw [← hn] at hl hi hrow ⊢; clear hA hB e1 e2 hn
 cases row with
 | none =>
  obtain ⟨rfl, hAB⟩ := hrow
  obtain rfl : i = 0 := by omega
  obtain ⟨rfl, rfl⟩ := List.append_eq_nil_iff.1 hAB
  refine J4 Tryz.func72 rfl rfl fun w => ?_; refine JT ?_; refine Jr 15 rfl ?_; refine LR rfl (KH rfl rfl) ?_; refine JR 10 rfl ?_; refine cD (fun g => ?_) fun g => ?_
  first | exact Bool.noConfusion g | omega
  refine Jr 5 rfl ?_; refine LR rfl (KH rfl rfl) ?_; refine JR 11 rfl ?_; refine JA rfl (fun g => ?_) (fun g => ?_)
  try simp only [ZZ] at g
  refine Jr 4 rfl ?_; refine Wo (n := 0) (m := 1) (b := 96) (sz := 8) (news := AcL.cells y) (xs := []) (L0 := []) rfl rfl rfl rfl (Or.inr hv) rfl rfl rfl rfl rfl m6 rfl rfl oF m6 SlOwn.nil m6 m6 fun r1 cap1 sp1 hsp1 => ?_; refine Jy 5 rfl ?_; refine pT rfl rfl rfl fun w1 hs1 => ?_; exact ⟨⟨some (r1, cap1, sp1), by simp [lF], hsp1⟩, rfl, by simpa [JJ] using hs1⟩
  try exact Bool.noConfusion g
 | some q =>
  obtain ⟨r, cap, sp⟩ := q
  obtain ⟨hr1, hr2⟩ := hrow
  have hcap : n ≤ cap := by omega
  refine J4 Tryz.func72 rfl rfl fun w => ?_; refine JT ?_; change HC _ _ _ [(r, .cells ((A ++ B) ++ sp).toArray 34 (0, 0))] _ _ _; refine Jr 9 rfl ?_; refine LR rfl (JO (m := i) (kl := some i) (kh := none) (km := none) (q := n) (z := cap) rfl rfl rfl ⟨_, rfl⟩ trivial trivial rfl rfl rfl m0 m0 m0 (fun _ => rfl) rfl) ?_; refine JM 5 rfl ?_; refine LR rfl (KH rfl rfl) ?_; refine JR 10 rfl ?_; refine JA rfl (fun g => ?_) (fun g => ?_)
  try exact Bool.noConfusion g
  ·refine Jr 5 rfl ?_; refine LR rfl (KH rfl rfl) ?_; refine JR 11 rfl ?_; refine JA rfl (fun g => ?_) (fun g => ?_)
   try simp only [ZZ] at g
   refine Jr 4 rfl ?_
   obtain rfl : B = [] := List.length_eq_zero_iff.1 m0
   refine Wo (n := n) (m := 1) (b := 96) (sz := 8) (news := AcL.cells y) (xs := A ++ []) (L0 := []) rfl rfl rfl rfl (Or.inr hv) rfl rfl rfl rfl rfl m6 rfl lF oF m6 (SlOwn.own (k := 0) rfl M3 hr1 M4 rfl) m0 m0 fun r1 cap1 sp1 hsp1 => ?_; refine Jy 5 rfl ?_; refine pT rfl rfl rfl fun w1 hs1 => ?_; exact ⟨⟨some (r1, cap1, sp1), by simp only [List.length_append, List.length_nil, lF]; omega, hsp1⟩, rfl, by simpa [JJ] using hs1⟩
   ·try simp only [ZZ] at g
    refine Jr 8 rfl ?_; refine Jh m0 m0 ?_; refine QV rfl (LR rfl (Jg9 rfl rfl) (JR 3 rfl ?_)); refine cD (fun g => ?_) fun g => ?_
    ·refine Jr 4 rfl ?_
     refine LR rfl (JO (sz := 8) (q := i) (kl := none) (kh := some (i)) (km := none) (m := 0) (z := cap) (off' := 0) rfl rfl rfl trivial ⟨_, rfl⟩ trivial rfl rfl rfl m0 m0 m0 (fun h => by cases h) nR) ?_; refine LS 3 [] rfl rfl ?_; refine Jh m0 m0 ?_; refine JM 2 rfl ?_; refine Jn n7 ?_; refine wA (r := r) (off := 0) (n := i) (cap := cap) (m := n + 1 - i) (sz := 8) (b := 96) (xs := A) rfl rfl rfl rfl (kn 0 rfl) rfl rfl rfl rfl rfl rfl m6 ni lA m0 m0 m0 m0 m0 fun r2 cap2 Z sp2 hZ hsp2 => ?_; rw [show i + (n + 1 - i) = n + 1 by omega] at hsp2 ⊢
     obtain ⟨Z1, Z2, rfl, lZ1⟩ := cut (l := Z) (a := 8) m0
     have lZ2 : Z2.length = (n - i) * 8 := by rw [List.length_append, lZ1] at hZ; omega
     rw [show A ++ (Z1 ++ Z2) ++ sp2 = A ++ (Z1 ++ (Z2 ++ sp2)) by simp only [List.append_assoc]]; refine JM 7 rfl ?_; refine LR rfl (JO (sz := 8) (m := i) (kl := some (i)) (kh := none) (km := none) (q := n + 1) (z := cap2) (off' := i * 8) rfl rfl rfl ⟨_, rfl⟩ trivial trivial rfl rfl rfl m0 m0 m0 (fun _ => rfl) mn) ?_; refine QV rfl ?_
     refine XR (k := 0) (n := 1) (sz := 8) (vs := AcL.cells y) (cs' := A ++ (AcL.cells y ++ (Z2 ++ sp2))) rfl rfl rfl rfl rfl (Or.inr hv) rfl rfl mB rfl lF oF mt (X7 lA (by rw [lZ1])) rfl ?_; refine JR 3 rfl ?_; refine JI 8 m5 m5 ?_; refine Jb rfl rfl rfl (Je rfl) ?_; refine Jb rfl rfl rfl (Je rfl) ?_; refine Jb rfl rfl rfl (Je rfl) ?_
     refine Jb rfl rfl rfl (J1 rfl rfl rfl) ?_; refine Qe m9 ?_; refine Jb rfl rfl rfl (JO (sz := 8) (m := i + 1) (kl := some (i + 1)) (kh := none) (km := none) (q := n + 1) (z := cap2) (off' := (i + 1) * 8) rfl rfl rfl ⟨_, rfl⟩ trivial trivial rfl rfl rfl m0 m0 m0 (fun _ => rfl) mn) ?_; refine Jb rfl rfl rfl (Je rfl) ?_; refine Jb rfl rfl rfl (Je rfl) ?_; refine Jb rfl rfl rfl (JO (sz := 8) (m := i) (kl := some (i)) (kh := none) (km := none) (q := n) (z := cap) (off' := i * 8) rfl rfl rfl ⟨_, rfl⟩ trivial trivial rfl rfl rfl m0 m0 m0 (fun _ => rfl) mn) ?_; refine JY ?_; rw [show A ++ (AcL.cells y ++ (Z2 ++ sp2)) = (A ++ AcL.cells y) ++ (Z2 ++ sp2) by simp only [List.append_assoc]]
     refine XR (k := 0) (n := n - i) (sz := 8) (vs := B) (cs' := (A ++ AcL.cells y) ++ (B ++ sp2)) rfl rfl rfl rfl rfl (kn 1 rfl) rfl rfl mB ng lB oB mt (X7 (by rw [List.length_append, lA, lF]; omega) lZ2) rfl ?_; refine Jy 10 rfl ?_; refine pT rfl rfl rfl fun w1 hs1 => ?_; exact ⟨⟨some (r2, cap2, sp2), by simp only [List.length_append]; omega, hsp2⟩, rfl, hs1.weakL (by simp [JJ])⟩
    ·refine Jr 8 rfl ?_; refine Jn na ?_
     refine LR rfl (JO (sz := 8) (q := n + 1) (kl := none) (kh := some (n + 1)) (km := none) (m := 0) (z := cap) (off' := 0) rfl rfl rfl trivial ⟨_, rfl⟩ trivial rfl rfl rfl m0 m0 m0 (fun h => by cases h) nR) ?_; refine JM 11 rfl ?_; refine Jn m9 ?_; refine LR rfl (JO (sz := 8) (m := i + 1) (kl := some (i + 1)) (kh := none) (km := none) (q := n + 1) (z := cap) (off' := (i + 1) * 8) rfl rfl rfl ⟨_, rfl⟩ trivial trivial rfl rfl rfl m0 m0 m0 (fun _ => rfl) mn) ?_; refine LR rfl (qW (k := 0) rfl rfl rfl hv rfl rfl rfl mt Tryz.func107 rfl rfl rfl rfl) ?_; refine JR 3 rfl ?_; refine JA rfl (fun g => ?_) (fun g => ?_)
     ·try simp only [ZZ] at g
      refine JS 1 rfl ?_; refine JI 8 m5 m5 ?_; refine Jb rfl rfl rfl (Je rfl) ?_; refine Jb rfl rfl rfl (Je rfl) ?_; refine Jb rfl rfl rfl (Je rfl) ?_
      refine Jb rfl rfl rfl (J1 rfl rfl rfl) ?_; refine Qe m9 ?_; refine Jb rfl rfl rfl (JO (sz := 8) (m := i + 1) (kl := some (i + 1)) (kh := none) (km := none) (q := n + 1) (z := cap) (off' := (i + 1) * 8) rfl rfl rfl ⟨_, rfl⟩ trivial trivial rfl rfl rfl m0 m0 m0 (fun _ => rfl) mn) ?_; refine Jb rfl rfl rfl (Je rfl) ?_; refine Jb rfl rfl rfl (Je rfl) ?_; refine Jb rfl rfl rfl (JO (sz := 8) (m := i) (kl := some (i)) (kh := none) (km := none) (q := n + 1) (z := cap) (off' := i * 8) rfl rfl rfl ⟨_, rfl⟩ trivial trivial rfl rfl rfl m0 m0 m0 (fun _ => rfl) mn) ?_; refine JY ?_
      obtain ⟨X1, X2, hX, lX1⟩ := cut (l := B ++ sp) (a := 8) ne
      obtain ⟨X3, X4, rfl, lX3⟩ := cut (l := X2) (a := (n - i) * 8) nA
      rw [show (A ++ B) ++ sp = (A ++ X1) ++ (X3 ++ X4) by rw [List.append_assoc, hX]; simp only [List.append_assoc]]
      refine XR (k := 0) (n := n - i) (sz := 8) (vs := B) (cs' := (A ++ X1) ++ (B ++ X4)) rfl rfl rfl rfl rfl (kn 0 rfl) rfl rfl mB nb lB oB nd (X7 (by rw [List.length_append, lA, lX1]; omega) lX3) rfl ?_; refine JM 6 rfl ?_; refine LR rfl (JO (sz := 8) (m := i) (kl := some (i)) (kh := none) (km := none) (q := n + 1) (z := cap) (off' := i * 8) rfl rfl rfl ⟨_, rfl⟩ trivial trivial rfl rfl rfl m0 m0 m0 (fun _ => rfl) mn) ?_; refine QV rfl ?_; rw [show (A ++ X1) ++ (B ++ X4) = A ++ (X1 ++ (B ++ X4)) by simp only [List.append_assoc]]
      refine XR (k := 0) (n := 1) (sz := 8) (vs := AcL.cells y) (cs' := A ++ (AcL.cells y ++ (B ++ X4))) rfl rfl rfl rfl rfl (Or.inr hv) rfl rfl mB rfl lF oF mt (X7 lA (by rw [lX1])) rfl ?_; refine Jy 10 rfl ?_; refine pT rfl rfl rfl fun w1 hs1 => ?_; exact ⟨⟨some (r, cap, X4), by simp only [List.length_append]; omega, by have := congrArg List.length hX; simp only [List.length_append] at this; omega⟩, rfl, by simpa [JJ] using hs1⟩
     ·try exact Bool.noConfusion g
theorem Jp1 {p : Pl} (hl : xs.length ≤ 1000) (hs : Seg R xs.length (xs.flatMap Qn) p) :
  PureT (α := { row : Vk // rowOk 2 xs.length (xs.flatMap Qn) row }) Tryz.prog 74 [KB xs.length p].toArray (fun x => Jx xs.length x.1) [] (fun x => JJ 59 (xs.flatMap Qn) x.1) R := by
 cases p with
 | none =>
  have h0 : xs = [] := List.length_eq_zero_iff.1 hs
  subst h0; refine J4 Tryz.func74 rfl rfl fun w => Gk ?_; refine cD (fun g => ?_) fun g => ?_
  exact Gh
  try exact Bool.noConfusion g
 | some q =>
  refine J4 Tryz.func74 rfl rfl fun w => Gk ?_; refine JA rfl (fun g => ?_) (fun g => ?_)
  try exact Bool.noConfusion g
  ·refine gD ?_; refine X6 rfl rfl rfl rfl fun r1 => QV rfl (wH (k := 0) (b := 32) (sz := 2) rfl rfl rfl rfl rfl rfl hs oR rfl rfl rfl rfl rfl m6 (KU JN xs) (Y8 jD xs) m0 m0 fun row hrow => (Jy 4 rfl ?_)); exact kX
theorem Jks {R : Ji} {xs : List (BS × BS)} {row : Vk} (hl : xs.length ≤ 1000) (hrow : rowOk 2 xs.length (xs.flatMap Qn) row) {i : Nat} (hi : i ≤ xs.length) {y : (BS × BS)} {rv : Nat} (hv : (rv, Obj.cells (Qn y).toArray 59 (0, 0)) ∈ R) :
  PureT (α := { row' : Vk // rowOk 2 (xs.length + 1) ((xs.take i ++ y :: xs.drop i).flatMap Qn) row' }) Tryz.prog 75 [Jx xs.length row, .int .i64 (i : Int), .slice (some ⟨rv, 0, none⟩) 1 1].toArray (fun x => Jx (xs.length + 1) x.1) (JJ 59 (xs.flatMap Qn) row) (fun x => JJ 59 ((xs.take i ++ y :: xs.drop i).flatMap Qn) x.1) R := by
 obtain ⟨A, hA⟩ : ∃ A, A = (xs.take i).flatMap Qn := ⟨_, rfl⟩
 obtain ⟨B, hB⟩ : ∃ B, B = (xs.drop i).flatMap Qn := ⟨_, rfl⟩
 obtain ⟨n, hn⟩ : ∃ n, n = xs.length := ⟨_, rfl⟩
 have e1 : xs.flatMap Qn = A ++ B := by rw [hA, hB, ← List.flatMap_append, List.take_append_drop]
 have e2 : (xs.take i ++ y :: xs.drop i).flatMap Qn = A ++ (Qn y ++ B) := by rw [List.flatMap_append, List.flatMap_cons, hA, hB]
 have lA : A.length = i * 2 := by rw [hA, KU JN, List.length_take, Nat.min_eq_left hi]
 have lB : B.length = (n - i) * 2 := by rw [hB, KU JN, List.length_drop, hn]
 have lF : (Qn y).length = 2 := JN y
 have oF : (Qn y).all QL = true := jD y
 have oA : A.all QL = true := by rw [hA]; exact Y8 jD _
 have oB : B.all QL = true := by rw [hB]; exact Y8 jD _
 rw [e1] at hrow; rw [e1, e2]; rw [← hn] at hl hi hrow ⊢; clear hA hB e1 e2 hn
 cases row with
 | none =>
  obtain ⟨rfl, hAB⟩ := hrow
  obtain rfl : i = 0 := by omega
  obtain ⟨rfl, rfl⟩ := List.append_eq_nil_iff.1 hAB
  refine J4 Tryz.func75 rfl rfl fun w => ?_; refine JT ?_; refine Jr 15 rfl ?_; refine LR rfl (KH rfl rfl) ?_; refine JR 10 rfl ?_; refine cD (fun g => ?_) fun g => ?_
  first | exact Bool.noConfusion g | omega
  refine Jr 5 rfl ?_; refine LR rfl (KH rfl rfl) ?_; refine JR 11 rfl ?_; refine JA rfl (fun g => ?_) (fun g => ?_)
  try simp only [ZZ] at g
  refine Jr 4 rfl ?_; refine Wo (n := 0) (m := 1) (b := 32) (sz := 2) (news := Qn y) (xs := []) (L0 := []) rfl rfl rfl rfl (Or.inr hv) rfl rfl rfl rfl rfl m6 rfl rfl oF m6 SlOwn.nil m6 m6 fun r1 cap1 sp1 hsp1 => ?_; refine Jy 5 rfl ?_; refine pT rfl rfl rfl fun w1 hs1 => ?_; exact ⟨⟨some (r1, cap1, sp1), by simp [lF], hsp1⟩, rfl, by simpa [JJ] using hs1⟩
  try exact Bool.noConfusion g
 | some q =>
  obtain ⟨r, cap, sp⟩ := q
  obtain ⟨hr1, hr2⟩ := hrow
  have hcap : n ≤ cap := by omega
  refine J4 Tryz.func75 rfl rfl fun w => ?_; refine JT ?_; change HC _ _ _ [(r, .cells ((A ++ B) ++ sp).toArray 59 (0, 0))] _ _ _; refine Jr 9 rfl ?_; refine LR rfl (JO (m := i) (kl := some i) (kh := none) (km := none) (q := n) (z := cap) rfl rfl rfl ⟨_, rfl⟩ trivial trivial rfl rfl rfl m0 m0 m0 (fun _ => rfl) rfl) ?_; refine JM 5 rfl ?_; refine LR rfl (KH rfl rfl) ?_; refine JR 10 rfl ?_; refine JA rfl (fun g => ?_) (fun g => ?_)
  try exact Bool.noConfusion g
  ·refine Jr 5 rfl ?_; refine LR rfl (KH rfl rfl) ?_; refine JR 11 rfl ?_; refine JA rfl (fun g => ?_) (fun g => ?_)
   try simp only [ZZ] at g
   refine Jr 4 rfl ?_
   obtain rfl : B = [] := List.length_eq_zero_iff.1 m0
   refine Wo (n := n) (m := 1) (b := 32) (sz := 2) (news := Qn y) (xs := A ++ []) (L0 := []) rfl rfl rfl rfl (Or.inr hv) rfl rfl rfl rfl rfl m6 rfl lF oF m6 (SlOwn.own (k := 0) rfl M3 hr1 M4 rfl) m0 m0 fun r1 cap1 sp1 hsp1 => ?_; refine Jy 5 rfl ?_; refine pT rfl rfl rfl fun w1 hs1 => ?_; exact ⟨⟨some (r1, cap1, sp1), by simp only [List.length_append, List.length_nil, lF]; omega, hsp1⟩, rfl, by simpa [JJ] using hs1⟩
   ·try simp only [ZZ] at g
    refine Jr 8 rfl ?_; refine Jh m0 m0 ?_; refine QV rfl (LR rfl (Jg9 rfl rfl) (JR 3 rfl ?_)); refine cD (fun g => ?_) fun g => ?_
    ·refine Jr 4 rfl ?_
     refine LR rfl (JO (sz := 2) (q := i) (kl := none) (kh := some (i)) (km := none) (m := 0) (z := cap) (off' := 0) rfl rfl rfl trivial ⟨_, rfl⟩ trivial rfl rfl rfl m0 m0 m0 (fun h => by cases h) nR) ?_; refine LS 3 [] rfl rfl ?_; refine Jh m0 m0 ?_; refine JM 2 rfl ?_; refine Jn n7 ?_; refine wA (r := r) (off := 0) (n := i) (cap := cap) (m := n + 1 - i) (sz := 2) (b := 32) (xs := A) rfl rfl rfl rfl (kn 0 rfl) rfl rfl rfl rfl rfl rfl m6 ni lA m0 m0 m0 m0 m0 fun r2 cap2 Z sp2 hZ hsp2 => ?_; rw [show i + (n + 1 - i) = n + 1 by omega] at hsp2 ⊢
     obtain ⟨Z1, Z2, rfl, lZ1⟩ := cut (l := Z) (a := 2) m0
     have lZ2 : Z2.length = (n - i) * 2 := by rw [List.length_append, lZ1] at hZ; omega
     rw [show A ++ (Z1 ++ Z2) ++ sp2 = A ++ (Z1 ++ (Z2 ++ sp2)) by simp only [List.append_assoc]]; refine JM 7 rfl ?_; refine LR rfl (JO (sz := 2) (m := i) (kl := some (i)) (kh := none) (km := none) (q := n + 1) (z := cap2) (off' := i * 2) rfl rfl rfl ⟨_, rfl⟩ trivial trivial rfl rfl rfl m0 m0 m0 (fun _ => rfl) mn) ?_; refine QV rfl ?_
     refine XR (k := 0) (n := 1) (sz := 2) (vs := Qn y) (cs' := A ++ (Qn y ++ (Z2 ++ sp2))) rfl rfl rfl rfl rfl (Or.inr hv) rfl rfl mB rfl lF oF mt (X7 lA (by rw [lZ1])) rfl ?_; refine JR 3 rfl ?_; refine JI 8 m5 m5 ?_; refine Jb rfl rfl rfl (Je rfl) ?_; refine Jb rfl rfl rfl (Je rfl) ?_; refine Jb rfl rfl rfl (Je rfl) ?_
     refine Jb rfl rfl rfl (J1 rfl rfl rfl) ?_; refine Qe m9 ?_; refine Jb rfl rfl rfl (JO (sz := 2) (m := i + 1) (kl := some (i + 1)) (kh := none) (km := none) (q := n + 1) (z := cap2) (off' := (i + 1) * 2) rfl rfl rfl ⟨_, rfl⟩ trivial trivial rfl rfl rfl m0 m0 m0 (fun _ => rfl) mn) ?_; refine Jb rfl rfl rfl (Je rfl) ?_; refine Jb rfl rfl rfl (Je rfl) ?_; refine Jb rfl rfl rfl (JO (sz := 2) (m := i) (kl := some (i)) (kh := none) (km := none) (q := n) (z := cap) (off' := i * 2) rfl rfl rfl ⟨_, rfl⟩ trivial trivial rfl rfl rfl m0 m0 m0 (fun _ => rfl) mn) ?_; refine JY ?_; rw [show A ++ (Qn y ++ (Z2 ++ sp2)) = (A ++ Qn y) ++ (Z2 ++ sp2) by simp only [List.append_assoc]]
     refine XR (k := 0) (n := n - i) (sz := 2) (vs := B) (cs' := (A ++ Qn y) ++ (B ++ sp2)) rfl rfl rfl rfl rfl (kn 1 rfl) rfl rfl mB ng lB oB mt (X7 (by rw [List.length_append, lA, lF]; omega) lZ2) rfl ?_; refine Jy 10 rfl ?_; refine pT rfl rfl rfl fun w1 hs1 => ?_; exact ⟨⟨some (r2, cap2, sp2), by simp only [List.length_append]; omega, hsp2⟩, rfl, hs1.weakL (by simp [JJ])⟩
    ·refine Jr 8 rfl ?_; refine Jn na ?_
     refine LR rfl (JO (sz := 2) (q := n + 1) (kl := none) (kh := some (n + 1)) (km := none) (m := 0) (z := cap) (off' := 0) rfl rfl rfl trivial ⟨_, rfl⟩ trivial rfl rfl rfl m0 m0 m0 (fun h => by cases h) nR) ?_; refine JM 11 rfl ?_; refine Jn m9 ?_; refine LR rfl (JO (sz := 2) (m := i + 1) (kl := some (i + 1)) (kh := none) (km := none) (q := n + 1) (z := cap) (off' := (i + 1) * 2) rfl rfl rfl ⟨_, rfl⟩ trivial trivial rfl rfl rfl m0 m0 m0 (fun _ => rfl) mn) ?_; refine LR rfl (qW (k := 0) rfl rfl rfl hv rfl rfl rfl mt Tryz.func111 rfl rfl rfl rfl) ?_; refine JR 3 rfl ?_; refine JA rfl (fun g => ?_) (fun g => ?_)
     ·try simp only [ZZ] at g
      refine JS 1 rfl ?_; refine JI 8 m5 m5 ?_; refine Jb rfl rfl rfl (Je rfl) ?_; refine Jb rfl rfl rfl (Je rfl) ?_; refine Jb rfl rfl rfl (Je rfl) ?_
      refine Jb rfl rfl rfl (J1 rfl rfl rfl) ?_; refine Qe m9 ?_; refine Jb rfl rfl rfl (JO (sz := 2) (m := i + 1) (kl := some (i + 1)) (kh := none) (km := none) (q := n + 1) (z := cap) (off' := (i + 1) * 2) rfl rfl rfl ⟨_, rfl⟩ trivial trivial rfl rfl rfl m0 m0 m0 (fun _ => rfl) mn) ?_; refine Jb rfl rfl rfl (Je rfl) ?_; refine Jb rfl rfl rfl (Je rfl) ?_; refine Jb rfl rfl rfl (JO (sz := 2) (m := i) (kl := some (i)) (kh := none) (km := none) (q := n + 1) (z := cap) (off' := i * 2) rfl rfl rfl ⟨_, rfl⟩ trivial trivial rfl rfl rfl m0 m0 m0 (fun _ => rfl) mn) ?_; refine JY ?_
      obtain ⟨X1, X2, hX, lX1⟩ := cut (l := B ++ sp) (a := 2) ne
      obtain ⟨X3, X4, rfl, lX3⟩ := cut (l := X2) (a := (n - i) * 2) nA
      rw [show (A ++ B) ++ sp = (A ++ X1) ++ (X3 ++ X4) by rw [List.append_assoc, hX]; simp only [List.append_assoc]]
      refine XR (k := 0) (n := n - i) (sz := 2) (vs := B) (cs' := (A ++ X1) ++ (B ++ X4)) rfl rfl rfl rfl rfl (kn 0 rfl) rfl rfl mB nb lB oB nd (X7 (by rw [List.length_append, lA, lX1]; omega) lX3) rfl ?_; refine JM 6 rfl ?_; refine LR rfl (JO (sz := 2) (m := i) (kl := some (i)) (kh := none) (km := none) (q := n + 1) (z := cap) (off' := i * 2) rfl rfl rfl ⟨_, rfl⟩ trivial trivial rfl rfl rfl m0 m0 m0 (fun _ => rfl) mn) ?_; refine QV rfl ?_; rw [show (A ++ X1) ++ (B ++ X4) = A ++ (X1 ++ (B ++ X4)) by simp only [List.append_assoc]]
      refine XR (k := 0) (n := 1) (sz := 2) (vs := Qn y) (cs' := A ++ (Qn y ++ (B ++ X4))) rfl rfl rfl rfl rfl (Or.inr hv) rfl rfl mB rfl lF oF mt (X7 lA (by rw [lX1])) rfl ?_; refine Jy 10 rfl ?_; refine pT rfl rfl rfl fun w1 hs1 => ?_; exact ⟨⟨some (r, cap, X4), by simp only [List.length_append]; omega, by have := congrArg List.length hX; simp only [List.length_append] at this; omega⟩, rfl, by simpa [JJ] using hs1⟩
     ·try exact Bool.noConfusion g
end Go.Proofs.YteceenlfegnigaaGreatDoor
