import Derived.Test.YteceenlfegnigaaGreatDoorZtTellsd
set_option maxRecDepth 100000
namespace Go.Proofs.YteceenlfegnigaaGreatDoor
set_option linter.all false
open Go.SL Go.RowKit Go.Shelf
def KD : List Ty → Nat → List Nat → List (Ty × Nat × Nat)
  | [], _, _ => []
  | x :: xs, a, os => if JJ x then (x, a, a + (JV x).toNat) :: KD xs (a + (JV x).toNat) os else (x, os.getD 0 0, os.getD 1 0) :: KD xs (a + 4) os.tail
theorem qm : ∀ (ts : List Ty) (a : Nat) (os : List Nat), (KD ts a os).length = ts.length
  | [], _, _ => rfl
  | x :: xs, a, os => by rw [KD]; split <;> rw [List.length_cons, qm xs, List.length_cons]
theorem ZQ (s : BS) : ∀ (ts : List Ty) (a : Nat) (os : List Nat), V5 s ts a os = (KD ts a os).map fun q => (s.take q.2.2).drop q.2.1
  | [], _, _ => rfl
  | x :: xs, a, os => by
    rw [V5, KD]
    split
    · rw [List.map_cons, ZQ s xs]
      congr 1
      simp only
      rw [List.drop_take]
      congr 1; omega
    · rw [List.map_cons, ZQ s xs]
theorem qn : ∀ (ts : List Ty) (a : Nat) (os : List Nat), (KD ts a os).map Prod.fst = ts
  | [], _, _ => rfl
  | x :: xs, a, os => by rw [KD]; split <;> rw [List.map_cons, qn xs]
def cV : List Ty → Nat
  | [] => 0
  | x :: xs => if JJ x then cV xs else cV xs + 1
theorem Jac : ∀ (ts : List Ty) (x : Ty), cV (ts ++ [x]) = if JJ x then cV ts else cV ts + 1
  | [], x => rfl
  | y :: ys, x => by
    rw [List.cons_append, cV, cV, Jac ys x]
    by_cases h1 : JJ y = true <;> by_cases h2 : JJ x = true <;> simp [h1, h2]
def Vp : List Ty → Int
  | [] => -1
  | x :: xs => if 0 ≤ Vp xs then Vp xs + 1 else if JJ x then -1 else 0
theorem Yj : ∀ ts : List Ty, -1 ≤ Vp ts ∧ Vp ts < ts.length
  | [] => by rw [Vp]; simp
  | x :: xs => by
    have := Yj xs
    rw [Vp, List.length_cons]
    split
    · omega
    · split <;> omega
theorem ZR : ∀ (ts : List Ty) (x : Ty), Vp (ts ++ [x]) = if JJ x then Vp ts else (ts.length : Int)
  | [], x => rfl
  | y :: ys, x => by
    rw [List.cons_append, Vp, Vp, ZR ys x]
    by_cases h2 : JJ x = true
    · rw [if_pos h2, if_pos h2]
    · rw [if_neg h2, if_neg h2, if_pos (by omega), List.length_cons]; omega
theorem qo {x : Ty} (hx : JJ x = true) : ∀ (ts : List Ty) (a : Nat) (os : List Nat), (∀ y ∈ ts, JJ y = true → 0 ≤ JV y) → ∀ b : Nat, (b : Int) = a + Kf ts → KD (ts ++ [x]) a os = KD ts a os ++ [(x, b, b + (JV x).toNat)]
  | [], a, os, _, b, hb => by
    rw [Kf] at hb
    have : b = a := by omega
    subst this
    show KD [x] _ os = [(x, _, _)]
    rw [KD, if_pos hx, KD]
  | y :: ys, a, os, hy, b, hb => by
    have hy2 : ∀ z ∈ ys, JJ z = true → 0 ≤ JV z := fun z hz => hy z (List.mem_cons_of_mem _ hz)
    rw [Kf, WE] at hb; rw [List.cons_append, KD, KD]
    by_cases hf : JJ y = true
    · have h0 := hy y List.mem_cons_self hf
      rw [if_pos hf] at hb; rw [if_pos hf, if_pos hf, qo hx ys _ os hy2 b (by omega)]; rfl
    · rw [if_neg hf] at hb
      rw [if_neg hf, if_neg hf, qo hx ys _ os.tail hy2 b (by omega)]; rfl
theorem qp {x : Ty} (hx : ¬ JJ x = true) (v e : Nat) : ∀ (ts : List Ty) (a : Nat) (pre : List Nat), pre.length = cV ts → KD (ts ++ [x]) a (pre ++ [v, e]) = KD ts a (pre ++ [v]) ++ [(x, v, e)]
  | [], a, pre, hp => by
    rw [cV] at hp
    obtain rfl := List.length_eq_zero_iff.1 hp
    show KD [x] _ [v, e] = [(x, v, e)]
    rw [KD, if_neg hx, KD]; rfl
  | y :: ys, a, pre, hp => by
    rw [cV] at hp; rw [List.cons_append, KD, KD]
    by_cases hf : JJ y = true
    · rw [if_pos hf] at hp
      rw [if_pos hf, if_pos hf, qp hx v e ys _ pre hp]; rfl
    · rw [if_neg hf] at hp
      rw [if_neg hf, if_neg hf]
      cases pre with
      | nil => simp at hp
      | cons u pre =>
        have hp2 : pre.length = cV ys := by simpa using hp
        have e1 : (u :: pre ++ [v, e]).tail = pre ++ [v, e] := rfl
        have e2 : (u :: pre ++ [v]).tail = pre ++ [v] := rfl
        rw [e1, e2, qp hx v e ys _ pre hp2]
        have e3 : (u :: pre ++ [v, e]).getD 1 0 = (u :: pre ++ [v]).getD 1 0 := by cases pre <;> rfl
        rw [e3]; rfl
theorem ZS : ∀ (ts : List Ty) (a : Nat) (os os' : List Nat), Vp ts = -1 → KD ts a os = KD ts a os'
  | [], _, _, _, _ => rfl
  | x :: xs, a, os, os', h => by
    rw [Vp] at h
    have := Yj xs
    by_cases h1 : 0 ≤ Vp xs
    · rw [if_pos h1] at h; omega
    · rw [if_neg h1] at h
      by_cases hf : JJ x = true
      · rw [KD, KD, if_pos hf, if_pos hf, ZS xs _ os os' (by omega)]
      · rw [if_neg hf] at h; omega
theorem Job : ∀ {ts : List Ty}, 0 ≤ Vp ts → 0 < cV ts
  | [], h => by rw [Vp] at h; omega
  | x :: xs, h => by
    rw [Vp] at h; rw [cV]
    by_cases h1 : 0 ≤ Vp xs
    · have := Job h1
      split <;> omega
    · rw [if_neg h1] at h
      split
      · rename_i hf; rw [if_pos hf] at h; omega
      · omega
theorem Jho : ∀ {ts : List Ty}, Vp ts = -1 → cV ts = 0
  | [], _ => rfl
  | x :: xs, h => by
    rw [Vp] at h; rw [cV]
    have := Yj xs
    by_cases h1 : 0 ≤ Vp xs
    · rw [if_pos h1] at h; omega
    · rw [if_neg h1] at h
      by_cases hf : JJ x = true
      · rw [if_pos hf]; exact Jho (by omega)
      · rw [if_neg hf] at h; omega
theorem wR (v e : Nat) : ∀ (ts : List Ty) (a : Nat) (pre : List Nat) (j : Nat), pre.length = cV ts → Vp ts = (j : Int) → ∃ x f, (KD ts a (pre ++ [e]))[j]? = some (x, f, e) ∧ KD ts a (pre ++ [v]) = (KD ts a (pre ++ [e])).set j (x, f, v)
  | [], _, _, j, _, h => by rw [Vp] at h; omega
  | y :: ys, a, pre, j, hp, h => by
    have hge := Yj ys
    rw [cV] at hp; rw [Vp] at h; rw [KD, KD]
    by_cases h1 : 0 ≤ Vp ys
    · rw [if_pos h1] at h
      obtain ⟨j', rfl⟩ : ∃ j', j = j' + 1 := ⟨j - 1, by omega⟩
      by_cases hf : JJ y = true
      · rw [if_pos hf] at hp
        obtain ⟨x, f, g1, g2⟩ := wR v e ys (a + (JV y).toNat) pre j' hp (by omega)
        rw [if_pos hf, if_pos hf]; exact ⟨x, f, by rw [List.getElem?_cons_succ]; exact g1, by rw [List.set_cons_succ, ← g2]⟩
      · rw [if_neg hf] at hp
        cases pre with
        | nil => simp at hp
        | cons u pre =>
          obtain ⟨x, f, g1, g2⟩ := wR v e ys (a + 4) pre j' (by simpa using hp) (by omega)
          rw [if_neg hf, if_neg hf]
          have hpos : 0 < cV ys := Job h1
          have e3 : (u :: pre ++ [v]).getD 1 0 = (u :: pre ++ [e]).getD 1 0 := by
            cases pre with
            | nil => simp at hp; omega
            | cons _ _ => rfl
          rw [e3]; exact ⟨x, f, by rw [List.getElem?_cons_succ]; exact g1, by rw [List.set_cons_succ]; exact congrArg _ g2⟩
    · rw [if_neg h1] at h
      by_cases hf : JJ y = true
      · rw [if_pos hf] at h; omega
      · rw [if_neg hf] at h hp
        have hj : j = 0 := by omega
        subst hj
        have hc0 : cV ys = 0 := Jho (by omega)
        cases pre with
        | nil => simp at hp
        | cons u pre =>
          have hn : pre = [] := List.length_eq_zero_iff.1 (by simp at hp; omega)
          subst hn; rw [if_neg hf, if_neg hf]; refine ⟨y, u, rfl, ?_⟩; rw [ZS ys (a + 4) (([u] ++ [v]).tail) (([u] ++ [e]).tail) (by omega)]; rfl
def prC (q : Ty × Nat × Nat) : List Value := q.1.cells ++ [.int .i64 (q.2.1 : Int), .int .i64 (q.2.2 : Int)]
def Xx (l : List (Ty × Nat × Nat)) : List Value := l.flatMap prC
theorem Zy (q : Ty × Nat × Nat) : (prC q).length = 5 := by unfold prC; rw [List.length_append, Ty.len]; rfl
theorem Jdc (l : List (Ty × Nat × Nat)) : (Xx l).length = l.length * 5 := KU Zy l
theorem Jvm (x : Ty) (f e v : Nat) : (prC (x, f, e)).set 4 (.int .i64 (v : Int)) = prC (x, f, v) := by
  obtain ⟨k, n, p, ins⟩ := x; rfl
theorem Jdd : ∀ {l : List (Ty × Nat × Nat)} {j : Nat} {x : Ty} {f e : Nat} (v : Nat), l[j]? = some (x, f, e) → (Xx l).set (j * 5 + 4) (.int .i64 (v : Int)) = Xx (l.set j (x, f, v))
  | [], _, _, _, _, _, h => by simp at h
  | q :: l, 0, x, f, e, v, h => by
    cases h
    unfold Xx
    rw [List.set_cons_zero, List.flatMap_cons, List.flatMap_cons, List.set_append_left _ _ (by rw [Zy]; decide), Nat.zero_mul, Nat.zero_add, Jvm]
  | q :: l, j + 1, x, f, e, v, h => by
    have ih := Jdd (l := l) v (by simpa using h)
    unfold Xx at ih ⊢
    rw [List.set_cons_succ, List.flatMap_cons, List.flatMap_cons, List.set_append_right _ _ (by rw [Zy]; omega), Zy, show (j + 1) * 5 + 4 - 5 = j * 5 + 4 by omega, ih]
theorem Xe (l : List (Ty × Nat × Nat)) (q : Ty × Nat × Nat) : Xx (l ++ [q]) = Xx l ++ prC q := by unfold Xx; rw [List.flatMap_append]; simp
def QY (k n : Int) (ins : List Ty) (s : BS) : List Nat × Int :=
  if (JW k n ins s).2 ≠ 0 then ([], (JW k n ins s).2)
  else if (s.length : Int) < Kf (Kx k ins (JW k n ins s).1) then ([], 2)
  else match QD s (Kf (Kx k ins (JW k n ins s).1)).toNat (Kx k ins (JW k n ins s).1) 0 (Kf (Kx k ins (JW k n ins s).1)).toNat false with
    | none => ([], 2)
    | some os => (os, 0)
theorem Joc {R : Jr} {k n : Int} {p : Pl} {ins : List Ty} {m : Nat} (ht : Ty.In R (.mk k n p ins)) (hm : m ≤ 1000000) (hx : ∀ i, i < m → VY k 0 i < ins.length) (rt ri : Nat) :
    Jnt Tryz.prog 230 [V9 ri, V9 rt] (ZL ri m :: VK rt (.mk k n p ins) :: R) 0 (nxN (itV k ins) m) (Jd3 m) := by
  refine Jc7 Tryz.func230 rfl rfl fun q xids w2 XI XF pc hY => ?_; refine sR fun _ hK1 => ?_; refine LR rfl (Jm (v := .int .i64 (m : Int)) rfl (J8 (k := 0) rfl) rfl rfl) ?_; refine Ji rfl (nK hK1 ?_); refine Ju (JG (σ := Nat) (fun i => i ≤ m) (fun i => [(0, .func (.yield q) #[] #[]), (1, V9 ri), (2, V9 rt), (5, .int .i64 (m : Int)), (6, .int .i64 (i : Int))]) (fun _ => []) (fun i => XI i) (fun i => m - i) 0 (Nat.zero_le _) (.cons rfl (.cons rfl (.cons rfl (.cons rfl (.cons rfl .nil))))) (List.Sublist.refl _) (fun _ _ h => h) ?_); intro i hi; refine sR fun _ hK2 => JZ rfl (nK hK2 ?_); refine sQ fun _ hK3 => ?_; refine Jc rfl (fun h4 => ?_) (fun h4 => ?_)
  · try simp only [ZZ] at h4
    refine Jf (hK3 ?_); refine sB fun _ hK5 => sR fun _ hK6 => ?_; refine LS 2 [] rfl rfl (nK hK6 ?_); refine sQ fun _ hK7 => ?_
    have hil : i < m := by omega
    refine Ja (LS 2 [] rfl rfl (LR rfl (Jq (xs := Ty.cells (.mk k n p ins)) (n := 3) rfl (J8 (k := 1) rfl) rfl rfl (Ty.len _)) ?_)); refine Ji rfl (Jh rfl rfl rfl (enters_of Tryz.func231 (by kernel_rfl) rfl) (Jtv ht (fun _ => Int.le_refl 0) (hx i hil)) (fun q hq => Or.inr (List.mem_cons_of_mem _ (List.mem_cons_of_mem _ hq))) ?_); refine Jji (XT := XI (i + 1)) (XF := XF) (pc := pc) rfl rfl rfl rfl (hY i (itV k ins i) (i + 1) ⟨hil, rfl, rfl⟩) ?_ ?_ (fun ch hch => Jhh fun w1 hs1 => .inr ⟨ch, rfl, hch, hs1.keep⟩)
    all_goals refine JZ rfl ?_
    all_goals refine Jg ?_
    all_goals (
     refine hK7 ?_; refine Jc rfl (fun h8 => ?_) (fun h8 => ?_)
     · try exact Bool.noConfusion h8
       all_goals try simp only [ZZ] at h8
       all_goals (
        refine Jb (Jn (Jd ?_)); refine Jd (Jn ?_); refine Jv rfl rfl .nil (fun w1 hs1 => ?_)
        obtain ⟨xs1, hx1⟩ := hs1.now
        exact .inl ⟨⟨_, rfl⟩, hs1.keep, .inr ⟨_, hx1⟩⟩
        skip)
     · try exact Bool.noConfusion h8
       all_goals try simp only [ZZ] at h8
       all_goals (
        refine Jf (Jj (hK5 ?_)); refine Ja ?_
        refine JZ rfl ?_; refine Jy (show _ = Value.int .i64 ((i + 1 : Nat) : Int) from by rw [wrap_i64 (by omega) (by omega)]; congr 1 <;> omega) ?_; refine Ji rfl (Jg (J5 ?_)); exact J1 (i + 1) (by omega) (by omega) (.cons rfl (.cons rfl (.cons rfl (.cons rfl (.cons rfl .nil))))) (List.Sublist.refl _) (fun _ _ h => h)
        skip)
     skip)
  · try simp only [ZZ] at h4
    refine JE (Jl ?_); refine Jl (J0 ?_); refine Qx rfl rfl .nil (fun w1 hs1 => ?_)
    obtain ⟨xs1, hx1⟩ := hs1.now
    exact .inl ⟨⟨_, rfl⟩, hs1.keep, .inl ⟨i, _, (by show i = m; omega), hx1⟩⟩
theorem Jsc {c : Cx} {d : List Deferred} {l : Kn} {L : Jr} {X : XP} {Q : Exit → Act → World → Prop} {code : Code} (js : List Nat) {L' : Jr} (hn : js.Nodup) (hL : zA L js = L') (h : HCE c d l L' X code Q) : HCE c d l L X code Q := fun a w hf hs => h a w hf (hL ▸ hs.sel js hn)
theorem qq {σ τ : Type} {c3 : Cx} {d : List Deferred} {l : Kn} {L : Jr} {Xb : XP} {I : σ → Prop} {LI : σ → Jr} {E : Code → τ → Prop} {LE : τ → Jr} {pc : List PanicEntry → Prop} (s : σ) (h : I s) (hL : L.Sublist (LI s) ∧ (LI s).Sublist L) : HQ c3 d l L Xb (vx c3 Xb I LI E LE pc .normal) := fun a w hf hs => ⟨s, h, hs.weakL hL.2⟩
theorem row_some {sz n : Nat} {xs : List Value} {row : Vz} (h : rowOk sz n xs row) (h0 : 0 < n) : ∃ r cap sp, row = some (r, cap, sp) := by
  cases row with
  | none => have := h.1; omega
  | some q => obtain ⟨r, cap, sp⟩ := q; exact ⟨r, cap, sp, rfl⟩
def vy (s : BS) (TY : List Ty) (i : Nat) (pre : List Nat) : List (Ty × Nat × Nat) := KD (TY.take i) 0 (pre ++ [s.length])
structure PInv (s : BS) (H : Nat) (TY : List Ty) (i A la : Nat) (op : Int) (pre : List Nat) : Prop where
  le : i ≤ TY.length
  cv : pre.length = cV (TY.take i)
  opv : op = Vp (TY.take i)
  at_ : (A : Int) = Kf (TY.take i)
  off : QD s H TY 0 H false = (QD s H (TY.drop i) A la (decide (0 ≤ op))).map (pre ++ ·)
section
variable {s : BS} {H : Nat} {TY : List Ty} {i A la : Nat} {op : Int} {pre : List Nat} {x : Ty}
theorem PInv.start : PInv s H TY 0 0 H (-1) [] := ⟨Nat.zero_le _, rfl, rfl, rfl, by rw [List.drop_zero, show decide ((0 : Int) ≤ -1) = false from rfl]; cases QD s H TY 0 H false <;> rfl⟩
theorem Ks {α : Type} {l : List α} {i : Nat} {x : α} (h : l[i]? = some x) : l.take (i + 1) = l.take i ++ [x] := by rw [List.take_add_one, h]; rfl
theorem KL {α : Type} {l : List α} {i : Nat} {x : α} (h : l[i]? = some x) : l.drop i = x :: l.drop (i + 1) := by
  obtain ⟨h1, rfl⟩ := List.getElem?_eq_some_iff.1 h
  exact List.drop_eq_getElem_cons h1
theorem Zz (l : List Ty) : 0 ≤ Kf l := (j8 l).1
theorem PInv.bound (h : PInv s H TY i A la op pre) (hx : TY[i]? = some x) (hH : Kf TY = (H : Int)) : (A : Int) + WE x ≤ H := by
  have e : TY = TY.take i ++ (x :: TY.drop (i + 1)) := by rw [← KL hx, List.take_append_drop]
  rw [e, V4, Kf] at hH
  have := Zz (TY.drop (i + 1))
  have := h.at_
  omega
theorem PInv.len (h : PInv s H TY i A la op pre) : (vy s TY i pre).length = i := by unfold vy; rw [qm, List.length_take, Nat.min_eq_left h.le]
theorem PInv.fix (h : PInv s H TY i A la op pre) (hx : TY[i]? = some x) (hf : JJ x = true) (hz : ∀ y ∈ TY, JJ y = true → 0 ≤ JV y) : PInv s H TY (i + 1) (A + (JV x).toNat) la op pre ∧ vy s TY (i + 1) pre = vy s TY i pre ++ [(x, A, A + (JV x).toNat)] := by
  have h0 := hz x (List.mem_of_getElem? hx) hf
  have hlt := (List.getElem?_eq_some_iff.1 hx).1
  have h1 := h.off
  rw [KL hx, QD, if_pos hf] at h1; refine ⟨⟨hlt, ?_, ?_, ?_, h1⟩, ?_⟩
  · rw [Ks hx, Jac, if_pos hf]; exact h.cv
  · rw [Ks hx, ZR, if_pos hf]; exact h.opv
  · rw [Ks hx, V4, Kf, Kf, WE, if_pos hf, ← h.at_]; omega
  · unfold vy
    rw [Ks hx, qo hf _ 0 _ (fun y hy => hz y (List.mem_of_mem_take hy)) A (by rw [h.at_]; simp)]
theorem PInv.bad (h : PInv s H TY i A la op pre) (hx : TY[i]? = some x) (hf : JJ x = false) {v : Nat} (hv : v = W7 ((s.drop A).take 4)) (hb : (¬ 0 ≤ op ∧ v ≠ H) ∨ v < la ∨ s.length < v) : QD s H TY 0 H false = none := by
  subst hv
  rw [h.off, KL hx, QD, if_neg (by rw [hf]; decide), if_pos (by
    rcases hb with ⟨h1, h2⟩ | h1
    · exact .inl ⟨by simp [h1], h2⟩
    · exact .inr h1)]
  rfl
theorem PInv.var (h : PInv s H TY i A la op pre) (hx : TY[i]? = some x) (hf : JJ x = false) {v : Nat} (hv : v = W7 ((s.drop A).take 4)) (h1 : 0 ≤ op ∨ v = H) (h2 : la ≤ v) (h3 : v ≤ s.length) :
    PInv s H TY (i + 1) (A + 4) v i (pre ++ [v]) ∧ (op = -1 → vy s TY (i + 1) (pre ++ [v]) = vy s TY i pre ++ [(x, v, s.length)]) ∧
      (∀ j : Nat, op = (j : Int) → ∃ x0 f0, (vy s TY i pre)[j]? = some (x0, f0, s.length) ∧ vy s TY (i + 1) (pre ++ [v]) = (vy s TY i pre).set j (x0, f0, v) ++ [(x, v, s.length)]) := by
  have hlt := (List.getElem?_eq_some_iff.1 hx).1
  have hn : ¬ JJ x = true := by rw [hf]; decide
  have hlv : W7 ((s.drop A).take 4) = v := hv.symm
  have ho := h.off
  rw [KL hx, QD, if_neg hn, hlv, if_neg (by
    rintro (⟨g1, g2⟩ | g | g)
    · simp only [decide_eq_false_iff_not] at g1; omega
    · omega
    · omega), Option.map_map] at ho
  have hps : vy s TY (i + 1) (pre ++ [v]) = KD (TY.take i) 0 (pre ++ [v]) ++ [(x, v, s.length)] := by
    unfold vy
    rw [Ks hx, List.append_assoc]; exact qp hn v s.length _ 0 pre h.cv
  refine ⟨⟨hlt, ?_, ?_, ?_, ?_⟩, fun e => ?_, fun j e => ?_⟩
  · rw [Ks hx, Jac, if_neg hn, List.length_append, h.cv]; rfl
  · rw [Ks hx, ZR, if_neg hn, List.length_take, Nat.min_eq_left h.le]
  · rw [Ks hx, V4, Kf, Kf, WE, if_neg hn, ← h.at_]; omega
  · rw [ho, show decide (0 ≤ (i : Int)) = true by simp]
    congr 1
    funext r
    simp
  · rw [hps, ZS _ 0 (pre ++ [v]) (pre ++ [s.length]) (by rw [← h.opv]; exact e)]; rfl
  · obtain ⟨x0, f0, g1, g2⟩ := wR v s.length (TY.take i) 0 pre j h.cv (by rw [← h.opv]; exact e)
    exact ⟨x0, f0, g1, by rw [hps, g2]; rfl⟩
theorem PInv.done (h : PInv s H TY TY.length A la op pre) : vy s TY TY.length pre = KD TY 0 (pre ++ [s.length]) ∧ QD s H TY 0 H false = if ¬ 0 ≤ op ∧ H ≠ s.length then none else some (pre ++ [s.length]) := by
  refine ⟨by unfold vy; rw [List.take_length], ?_⟩; rw [h.off, List.drop_length, QD]
  by_cases hc : ¬ 0 ≤ op ∧ H ≠ s.length
  · rw [if_pos hc, if_pos ⟨by simp [hc.1], hc.2⟩]; rfl
  · rw [if_neg hc, if_neg (by rintro ⟨g1, g2⟩; exact hc ⟨by simpa using g1, g2⟩)]; rfl
end
abbrev YD (k n : Int) (ins : List Ty) (s : BS) : List (Ty × Nat × Nat) := KD (Kx k ins (JW k n ins s).1) 0 (QY k n ins s).1
section
variable {k n : Int} {ins : List Ty} {s : BS} {M H : Nat}
theorem jD (h : (JW k n ins s).2 ≠ 0) : (QY k n ins s).2 = (JW k n ins s).2 := by unfold QY; rw [if_pos h]
theorem Jhp (h0 : (JW k n ins s).2 = 0) (hM : M = (JW k n ins s).1) (hH : Kf (Kx k ins M) = (H : Int)) (h : s.length < H) : (QY k n ins s).2 = 2 := by
  unfold QY; rw [if_neg (by rw [h0]; decide), ← hM, hH, if_pos (by omega)]
theorem Jad (h0 : (JW k n ins s).2 = 0) (hM : M = (JW k n ins s).1) (hH : Kf (Kx k ins M) = (H : Int)) (h : H ≤ s.length) : QY k n ins s = match QD s H (Kx k ins M) 0 H false with | none => ([], 2) | some os => (os, 0) := by
  unfold QY; rw [if_neg (by rw [h0]; decide), ← hM, hH, if_neg (by omega), Int.toNat_natCast]
  all_goals (cases QD s H (Kx k ins M) 0 H false <;> rfl)
theorem Jhq (h0 : (JW k n ins s).2 = 0) (hM : M = (JW k n ins s).1) (hH : Kf (Kx k ins M) = (H : Int)) (h : H ≤ s.length) (ho : QD s H (Kx k ins M) 0 H false = none) : (QY k n ins s).2 = 2 := by
  rw [Jad h0 hM hH h, ho]
end
set_option maxHeartbeats 2000000 in
theorem Jsd {R : Jr} {k n : Int} {p : Pl} {ins : List Ty} {s : BS} (ht : Ty.In R (.mk k n p ins)) (hc : V6 (.mk k n p ins) 0 = 0) (hk3 : k = 3 ∨ k = 4 ∨ k = 7) (hl : s.length ≤ 100000) :
    PureX (α := { row : Vz // rowOk 5 (YD k n ins s).length (Xx (YD k n ins s)) row }) Tryz.prog 147 [Ty.val (.mk k n p ins), J2 s].toArray ((QY k n ins s).2 = 0) (fun v => (QY k n ins s).2 ≠ 0 ∧ v = zk (QY k n ins s).2) (fun x => JF (YD k n ins s).length x.1) (fun x => JY 162 (Xx (YD k n ins s)) x.1) R := by
  obtain ⟨hk8, ho, _, _⟩ := QQ hc
  have hmny := Jvl ht hc hk3 hl
  have hmok := vw (s := s) hk8 ho hk3
  have hmX := wG (s := s) hk8 ho hk3
  obtain ⟨M, hM⟩ : ∃ M, M = (JW k n ins s).1 := ⟨_, rfl⟩
  rw [← hM] at hmny hmok hmX
  obtain ⟨TY, hTY⟩ : ∃ TY, TY = Kx k ins M := ⟨_, rfl⟩
  have hTl : TY.length = M := by rw [hTY, Xu]
  have hzz : ∀ z ∈ TY, JJ z = true → 0 ≤ JV z := fun z _ hz => by have := jA hz; omega
  have hbl := Zz TY
  obtain ⟨H, hH⟩ : ∃ H, H = (Kf TY).toNat := ⟨_, rfl⟩
  have hHi : Kf TY = (H : Int) := by omega
  have hHi' : Kf (Kx k ins M) = (H : Int) := by rw [← hTY]; exact hHi
  refine xZ Tryz.func147 rfl rfl fun w => ?_; refine Wi fun K1 hK1 => ?_; refine Ja (LN rfl fun r1 => (LN rfl fun r2 => ?_)); refine Ji rfl ?_; refine Jg (hK1 _ _ _ _ ?_); refine Wi fun K2 hK2 => ?_; refine Ja (LS 2 [1, 0] rfl rfl ?_); refine KQ rfl rfl rfl (enters_of Tryz.func185 (by kernel_rfl) rfl) hmny (fun q hq => Or.inr hq) (fun hm0 _ => ?_) (fun v hv => Ql rfl rfl (by rw [jD hv.1]; exact hv))
  have hM5 := (hmok hm0).1
  have hX := hmX hm0
  have hti := fun i (h : i < M) => ht.sub _ (Qn (hX i h)).2
  have hbg := Jcv ht (m := M) (by omega) hX
  rw [hHi'] at hbg; refine Ji rfl ?_; refine Jg (hK2 _ _ _ _ ?_); refine Wi fun K3 hK3 => ?_; refine Ja (LS 2 [1] rfl rfl (Jh rfl rfl rfl (enters_of Tryz.func163 (by kernel_rfl) rfl) hbg (fun q hq => Or.inr hq) ?_)); refine LN rfl fun r3 => ?_
  refine LT 0 rfl rfl ?_; refine Jg (hK3 _ _ _ _ ?_); refine Wi fun K4 hK4 => ?_; refine Ja (LS 2 [0, 1] rfl rfl (LR rfl (JT rfl rfl) ?_)); refine JZ rfl ?_; refine KQ rfl rfl rfl ZB (VF (_) 2) (fun q hq => nomatch hq) (fun hok _ => ?_) (fun v hv => Ql rfl rfl (Ww (Jhp hm0 hM hHi' (by have := Z2.1 hv.1; omega)) (by decide) hv))
  have hHl : H ≤ s.length := by have := Z1.mp hok; omega
  refine Jg (hK4 _ _ _ _ ?_); refine Wi fun K5 hK5 => ?_; refine Ja (LN rfl fun r4 => ?_); refine Jg (hK5 _ _ _ _ ?_); refine Wi fun K6 hK6 => ?_
  refine JS [(r3, .cells #[.int .i64 (H : Int)] 3 (0, 0))] [(0, .pure), (1, .grow (Wc zJ (.cells #[.int .i64 0] 3 (0, 0)))), (2, .grow (Wc zJ (.cells #[.int .i64 0] 3 (0, 0)))), (3, .grow (Wc zJ (.cells #[.int .i64 0] 3 (0, 0)))), (4, .turn), (5, .turn), (6, .turn)] 7 [0, 1, 2, 3, 4, 5, 6] (by kernel_rfl) (by kernel_rfl) (by first | exact (fun _ h => absurd h List.not_mem_nil) | simp [SubS] | (intro p hp; simp [hp])) ?_; refine Jw (k := 0) rfl rfl rfl rfl rfl (fun _ hS => (Jm rfl (.inl (hS _ (Ky (n := 0) rfl))) rfl rfl)) ?_; refine Ya (k := 1) (cs := #[_]) rfl rfl rfl rfl rfl rfl fun r5 => ?_; refine Ya (k := 2) (cs := #[_]) rfl rfl rfl rfl rfl rfl fun r6 => ?_; refine Ya (k := 3) (cs := #[_]) rfl rfl rfl rfl rfl rfl fun r7 => ?_
  refine WB (k := 4) (q := 2) rfl rfl rfl rfl rfl rfl rfl rfl rfl (by first | (simp only [List.setIfInBounds_toArray, List.set_cons_zero, List.set_cons_succ]; exact rfl) | exact rfl) (by first | (simp only [List.set_cons_zero, List.set_cons_succ]; exact rfl) | exact rfl) (by first | exact (fun _ h => absurd h List.not_mem_nil) | simp [SubS] | (intro p hp; simp [hp])) ?_
  refine WB (k := 5) (q := 1) rfl rfl rfl rfl rfl rfl rfl rfl rfl (by first | (simp only [List.setIfInBounds_toArray, List.set_cons_zero, List.set_cons_succ]; exact rfl) | exact rfl) (by first | (simp only [List.set_cons_zero, List.set_cons_succ]; exact rfl) | exact rfl) (by first | exact (fun _ h => absurd h List.not_mem_nil) | simp [SubS] | (intro p hp; simp [hp])) ?_
  refine WB (k := 6) (q := 0) rfl rfl rfl rfl rfl rfl rfl rfl rfl (by first | (simp only [List.setIfInBounds_toArray, List.set_cons_zero, List.set_cons_succ]; exact rfl) | exact rfl) (by first | (simp only [List.set_cons_zero, List.set_cons_succ]; exact rfl) | exact rfl) (by first | exact (fun _ h => absurd h List.not_mem_nil) | simp [SubS] | (intro p hp; simp [hp])) ?_; refine KC ?_; refine Jg (hK6 _ _ _ _ ?_); refine Jhi fun K7 hK7 => ?_; refine Wi fun K8 hK8 => ?_; refine Ja (LS 2 [6] rfl rfl (Vq rfl rfl rfl Jlm (xP (.mk k n p ins) (M : Int)) fun pp => ?_))
  obtain ⟨ra, rb⟩ := pp
  change HL _ _ _ (ZL rb M :: VK ra (.mk k n p ins) :: _) _ _ _ _; refine Jg (hK8 _ _ _ _ ?_); refine Jjm ?_; refine Jsc [4, 3, 2, 5, 0, 1, 6, 7, 8] (L' := [_, _, _, _, _, _, _, _, _]) (by decide) rfl ?_
  refine Jjn (τ := Unit) (fun ch => ∃ v, ((QY k n ins s).2 ≠ 0 ∧ v = zk (QY k n ins s).2) ∧ ch = wH v) (fun i (q : Nat × Nat × Nat × Int × Vz × List Nat) => q.1 = i ∧ PInv s H TY q.1 q.2.1 q.2.2.1 q.2.2.2.1 q.2.2.2.2.2 ∧ rowOk 5 q.1 (Xx (vy s TY q.1 q.2.2.2.2.2)) q.2.2.2.2.1) (fun q => (r5, .cells #[.int .i64 (q.2.1 : Int)] 3 (0, 0)) :: (r6, .cells #[.int .i64 (q.2.2.1 : Int)] 3 (0, 0)) :: (r7, .cells #[.int .i64 q.2.2.2.1] 3 (0, 0)) :: (r4, .cells #[JF q.1 q.2.2.2.2.1] 159 (0, 0)) :: JY 162 (Xx (vy s TY q.1 q.2.2.2.2.2)) q.2.2.2.2.1) (fun _ _ => False) (fun _ => []) [ZL rb M, VK ra (.mk k n p ins), _, _, _] (0, 0, H, -1, none, []) rfl rfl Jlr (Joc ht (by omega) hX ra rb) (by rintro _ _ _ ⟨_, rfl, _⟩; rfl) rfl (fun q hq => by rcases List.mem_cons.1 hq with rfl | hq; exact .inl (by simp); rcases List.mem_cons.1 hq with rfl | hq; exact .inl (by simp); exact .inr hq) rfl ⟨rfl, PInv.start, rfl, rfl⟩ ?_ ?_ ?_ ?_
  · rintro q Xr Xb w3 i _ _ ⟨i2, A, la, op, row, pre⟩ ⟨hii, rfl, rfl⟩ ⟨he, hinv, hrow⟩ Kr hKr
    simp only at he hinv hrow; subst he
    have hti1 := hti i2 hii
    have hxx : TY[i2]? = some (JK k 0 ins i2) := by rw [hTY]; unfold Kx; rw [List.getElem?_map, List.getElem?_range hii]; rfl
    have hsz := vp hti1
    have hbd := hinv.bound hxx hHi
    have hbt := vq (JK k 0 ins i2)
    have hbe := xO (JK k 0 ins i2)
    unfold itV
    obtain ⟨x, hx⟩ : ∃ x, x = JK k 0 ins i2 := ⟨_, rfl⟩
    rw [← hx] at hti1 hxx hsz hbd hbt hbe ⊢
    obtain ⟨y, hy⟩ : ∃ y : Nat, WE x = (y : Int) := ⟨_, (Int.toNat_of_nonneg (by omega)).symm⟩
    rw [hy] at hsz hbd hbt hbe
    obtain ⟨xk, xn, xp, xi⟩ := x
    refine Wm fun K9 hK9 => Ja ?_; refine Ji rfl ?_; refine Jg (hK9 _ _ _ _ ?_); refine Ja (LN rfl fun r8 => ?_)
    refine QV (k := 0) (n := 3) (cs' := #[_, _, _]) (vs := #[_, _, _]) rfl rfl rfl rfl rfl rfl rfl (by exact Nat.le_of_ble_eq_true rfl) rfl (by first | (simp only [List.set_cons_zero, List.set_cons_succ]; exact rfl) | exact rfl) ?_; refine Jg ?_; refine hKr _ _ ?_; clear hKr; refine Ju (Wm fun K10 hK10 => Ja (LR rfl (Jq (xs := Ty.cells (.mk xk xn xp xi)) (n := 3) rfl (kn 0 rfl) rfl rfl (Ty.len _)) ?_)); refine Jh rfl rfl rfl Jf5 hsz (fun q hq => Or.inr (List.mem_append_right _ hq)) ?_; refine LS 5 [] rfl rfl ?_; refine Jg (hK10 _ _ _ _ ?_); refine Wm fun K11 hK11 => Ja ?_; refine LR rfl (Jq (xs := Ty.cells (.mk xk xn xp xi)) (n := 3) rfl (kn 0 rfl) rfl rfl (Ty.len _)) ?_; refine LS 4 [1, 1] rfl rfl ?_; refine Jy (show _ = Value.int .i64 ((A + y : Nat)) from congrArg (Value.int .i64) (by rw [wrap_i64 (by omega) (by omega)]; omega)) ?_; refine LR rfl (JI (r := [_, _, _, _, _]) rfl rfl) ?_; refine LN rfl fun r9 => ?_
    refine LT 0 rfl rfl ?_; refine Jg (hK11 _ _ _ _ ?_); refine Wm fun K12 hK12 => ?_; refine Wm fun K13 hK13 => Ja ?_; refine LS 2 [] rfl rfl ?_; refine Jg (hK13 _ _ _ _ ?_); refine Jc rfl (fun h14 => ?_) (fun h14 => ?_)
    · try simp only [ZZ] at h14
      refine Wm fun K15 hK15 => ?_
      have hff : JJ (Ty.mk xk xn xp xi) = false := ‹_›
      rw [hff, if_neg (by decide)] at hbe; refine Ja (LR rfl (Jm rfl (J8 (k := 3) rfl) rfl rfl) (LR rfl (Jm rfl (kn 2 rfl) rfl rfl) ?_)); refine LR rfl (V8 (kl := some (.i64, (A : Int))) (kh := none) (m := A) (n := s.length) rfl rfl rfl rfl rfl rfl (by omega) (by omega) (show _ = s.drop A from by rw [List.take_length])) ?_; refine JD rfl rfl rfl Jlo (Jn4 (s := s.drop A) (by rw [List.length_drop]; omega)) ?_
      obtain ⟨v, hv⟩ : ∃ v, v = W7 ((s.drop A).take 4) := ⟨_, rfl⟩
      rw [← hv]; refine LS 1 [] rfl rfl ?_
      refine LT 0 rfl rfl ?_; refine Jg (hK15 _ _ _ _ ?_); refine Wm fun K16 hK16 => Ja ?_; refine LS 5 [0, 3] rfl rfl ?_
      refine JA 55 rfl (fun hb17 => ?_) (fun hb17 => ?_) <;> (try simp only [ZZ] at hb17) <;> first | (refine LR rfl (JL rfl rfl rfl) ?_) | (refine LK rfl ?_)
      all_goals refine LW 1 [0] rfl rfl ?_
      all_goals first
        | (refine LR rfl (Jm rfl (J8 (k := 3) rfl) rfl rfl) ?_)
        | (refine LK rfl ?_)
      all_goals first
        | (refine LR rfl (JT rfl rfl) ?_)
        | (refine LK rfl ?_)
      all_goals refine LW 3 [] rfl rfl ?_
      all_goals first
        | (refine LK rfl ?_)
        | (refine JA 62 rfl (fun hb22 => ?_) (fun hb22 => ?_) <;> (try simp only [ZZ] at hb22) <;> first | (refine LR rfl (Jm rfl (kn 0 rfl) rfl rfl) ?_) | (refine LR rfl (Jm rfl (kn 1 rfl) rfl rfl) ?_) | (refine LR rfl (Jm rfl (kn 2 rfl) rfl rfl) ?_) | (refine LR rfl (Jm rfl (kn 3 rfl) rfl rfl) ?_) | (refine LR rfl (Jm rfl (kn 4 rfl) rfl rfl) ?_) | (refine LR rfl (Jm rfl (kn 5 rfl) rfl rfl) ?_) | (refine LR rfl (Jm rfl (kn 6 rfl) rfl rfl) ?_) | (refine LR rfl (Jm rfl (J8 (k := 0) rfl) rfl rfl) ?_) | (refine LR rfl (Jm rfl (J8 (k := 1) rfl) rfl rfl) ?_) | (refine LR rfl (Jm rfl (J8 (k := 2) rfl) rfl rfl) ?_) | (refine LR rfl (Jm rfl (J8 (k := 3) rfl) rfl rfl) ?_) | (refine LR rfl (Jm rfl (J8 (k := 4) rfl) rfl rfl) ?_) | (refine LK rfl ?_))
      all_goals refine LW 2 [] rfl rfl ?_
      all_goals first
        | (refine LK rfl ?_)
        | (refine JA 65 rfl (fun hb25 => ?_) (fun hb25 => ?_) <;> (try simp only [ZZ] at hb25) <;> first | (refine LR rfl (JL rfl rfl rfl) ?_) | (refine LK rfl ?_))
      all_goals refine LW 1 [0] rfl rfl ?_
      all_goals first
        | (refine LR rfl (Jm rfl (J8 (k := 2) rfl) rfl rfl) ?_)
        | (refine LK rfl ?_)
      all_goals refine LW 3 [] rfl rfl ?_
      all_goals refine KQ rfl rfl rfl ZB (VF (_) 2) (fun q hq => nomatch hq) (fun hok _ => ?_) (fun v1 hv1 => by first | exact Bool.noConfusion hv1.1 | ((repeat (first | refine Jns ?_ | refine Jjh ?_)); exact Jjk ⟨v1, Ww (Jhq hm0 hM hHi' hHl (by rw [← hTY]; exact hinv.bad hxx hff hv (by first | (refine .inr (.inl ?_); omega) | (refine .inr (.inr ?_); omega) | (refine .inl ⟨?_, fun e => ?_⟩; omega; have := Z4.1 hv1.1; omega)))) (by decide) hv1, rfl⟩))
      all_goals try exact Bool.noConfusion hok
      all_goals refine Jg ?_
      all_goals (
       refine hK16 _ _ _ _ ?_; refine Wm fun K30 hK30 => ?_; refine Wm fun K31 hK31 => ?_
       obtain ⟨hvi, hvn, hvj⟩ := hinv.var hxx hff hv (by first | (left; omega) | (right; have := Z3.1 hok; omega)) (by omega) (by omega)
       refine Ja (LS 2 [4] rfl rfl ?_); refine Jg (hK31 _ _ _ _ ?_); refine Jc rfl (fun h32 => ?_) (fun h32 => ?_)
       try simp only [ZZ] at h32
       obtain ⟨j, hj0⟩ : ∃ j : Nat, op = (j : Int) := ⟨op.toNat, by omega⟩
       have hj : j < i2 := by have := hinv.opv; have := Yj (TY.take i2); rw [List.length_take, Nat.min_eq_left hinv.le] at this; omega
       obtain ⟨rr, cap, sp, rfl⟩ := row_some hrow (by omega)
       obtain ⟨x0, f0, g1, g2⟩ := hvj j hj0
       have hjp : j * 5 + 4 < (Xx (vy s TY i2 pre)).length := by rw [Jdc, hinv.len]; omega
       have hjl : j * 5 + 4 < (Xx (vy s TY i2 pre) ++ sp).length := by rw [List.length_append]; omega
       have hrowJ : rowOk 5 i2 (Xx ((vy s TY i2 pre).set j (x0, f0, v))) (some (rr, cap, sp)) := ⟨by rw [Jdc, List.length_set, hinv.len], hrow.2⟩
       refine Ja (LR rfl (Jm (v := JF i2 (some (rr, cap, sp))) rfl (kn 5 rfl) rfl rfl) (LR rfl (Jm rfl (kn 4 rfl) rfl rfl) ?_))
       refine LS 2 [0] rfl rfl ?_; refine LR rfl (Jd6 (row := some (rr, cap, sp)) (j := j) (m := 5) (off' := j * 5) rfl hrow rfl rfl rfl hj0 hj rfl) ?_; refine LR rfl (JO (off' := j * 5 + 4) rfl rfl rfl) ?_; refine Kz (k := 6) (cs' := (Xx ((vy s TY i2 pre).set j (x0, f0, v)) ++ sp).toArray) rfl rfl rfl rfl rfl rfl (by rw [List.getElem?_toArray, List.getElem?_eq_getElem hjl]; rfl) (Juh _) (by rw [List.setIfInBounds_toArray, List.set_append_left _ _ hjp, Jdd v g1]) rfl ?_; refine Jg (hK30 _ _ _ _ ?_); refine Ja (LR rfl (Jm rfl (J8 (k := 3) rfl) rfl rfl) (LR rfl (JT rfl rfl) ?_)); refine LS 4 [0] rfl rfl ?_
       refine LT 0 rfl rfl ?_
       refine LT 3 rfl rfl ?_
       refine Kz (k := 4) rfl rfl rfl rfl rfl rfl rfl rfl (by first | (simp only [List.setIfInBounds_toArray, List.set_cons_zero, List.set_cons_succ]; exact rfl) | exact rfl) (by first | (simp only [List.set_cons_zero, List.set_cons_succ]; exact rfl) | exact rfl) ?_; refine Jg (hK12 _ _ _ _ ?_); refine Wm fun K33 hK33 => Ja ?_; refine LR rfl (Jm (v := JF i2 (some (rr, cap, sp))) rfl (kn 5 rfl) rfl rfl) ?_; refine LR rfl (Jx (vs := [_, _, _, _, _]) rfl (kn 0 rfl) rfl rfl rfl rfl) ?_; refine Kh (vs := [_]) (zs := [_, _, _, _, _]) (r := [_, _, _, _, _]) rfl rfl rfl rfl rfl rfl rfl rfl rfl (by rw [Kw]; exact rfl) rfl fun r10 => ?_; refine Km (L0 := [_, _, _, _, _, _, _]) (xs := Xx ((vy s TY i2 pre).set j (x0, f0, v))) (row := some (rr, cap, sp)) (n := i2) (sz := 5) (b := 56) (news := [_, _, _, _, _]) (List.perm_append_comm (l₁ := [_, _, _, _, _, _, _])) rfl rfl rfl rfl (kn 0 rfl) rfl rfl rfl rfl rfl (by decide) rfl rfl rfl (by decide) hrowJ (by omega) (by omega) fun ra2 cap2 sp2 hra => ?_; refine Kz (k := 7) (cs' := #[JF (i2 + 1) (some (ra2, cap2, sp2))]) rfl rfl rfl rfl rfl rfl rfl rfl rfl rfl ?_; refine Jg (hK33 _ _ _ _ ?_); refine Ja (LS 3 [4] rfl rfl ?_); refine Jy (show _ = Value.int .i64 ((A + y : Nat)) from congrArg (Value.int .i64) (by rw [wrap_i64 (by omega) (by omega)]; omega)) ?_
       refine LT 4 rfl rfl ?_; refine Jg ?_; refine Jj (Vi [4, 5, 6, 7, 0] (L' := [_, _, _, _, _]) (by decide) rfl ?_)
       (obtain rfl : y = 4 := by omega
        exact qq (i2 + 1, A + 4, v, (i2 : Int), some (ra2, cap2, sp2), pre ++ [v]) ⟨rfl, hvi, by simp only; rw [g2, Xe]; exact hra⟩ (by simp only; rw [g2, Xe]; exact ⟨List.Sublist.refl _, List.Sublist.refl _⟩))
       try simp only [ZZ] at h32
       refine Jf (hK30 _ _ _ _ ?_); refine Ja (LR rfl (Jm rfl (J8 (k := 3) rfl) rfl rfl) (LR rfl (JT rfl rfl) ?_)); refine LS 4 [0] rfl rfl ?_
       refine LT 0 rfl rfl ?_
       refine LT 3 rfl rfl ?_
       refine Kz (k := 4) rfl rfl rfl rfl rfl rfl rfl rfl (by first | (simp only [List.setIfInBounds_toArray, List.set_cons_zero, List.set_cons_succ]; exact rfl) | exact rfl) (by first | (simp only [List.set_cons_zero, List.set_cons_succ]; exact rfl) | exact rfl) ?_; refine Jg (hK12 _ _ _ _ ?_); refine Wm fun K34 hK34 => Ja ?_; refine LR rfl (Jm (v := JF i2 row) rfl (kn 5 rfl) rfl rfl) ?_; refine LR rfl (Jx (vs := [_, _, _, _, _]) rfl (kn 0 rfl) rfl rfl rfl rfl) ?_; refine Kh (vs := [_]) (zs := [_, _, _, _, _]) (r := [_, _, _, _, _]) rfl rfl rfl rfl rfl rfl rfl rfl rfl (by rw [Kw]; exact rfl) rfl fun r11 => ?_; refine Km (L0 := [_, _, _, _, _, _, _]) (xs := Xx (vy s TY i2 pre)) (row := row) (n := i2) (sz := 5) (b := 56) (news := [_, _, _, _, _]) (List.perm_append_comm (l₁ := [_, _, _, _, _, _, _])) rfl rfl rfl rfl (kn 0 rfl) rfl rfl rfl rfl rfl (by decide) rfl rfl rfl (by decide) hrow (by omega) (by omega) fun ra2 cap2 sp2 hra => ?_; refine Kz (k := 7) (cs' := #[JF (i2 + 1) (some (ra2, cap2, sp2))]) rfl rfl rfl rfl rfl rfl rfl rfl rfl rfl ?_; refine Jg (hK34 _ _ _ _ ?_); refine Ja (LS 3 [4] rfl rfl ?_); refine Jy (show _ = Value.int .i64 ((A + y : Nat)) from congrArg (Value.int .i64) (by rw [wrap_i64 (by omega) (by omega)]; omega)) ?_
       refine Kz (k := 4) rfl rfl rfl rfl rfl rfl rfl rfl (by first | (simp only [List.setIfInBounds_toArray, List.set_cons_zero, List.set_cons_succ]; exact rfl) | exact rfl) (by first | (simp only [List.set_cons_zero, List.set_cons_succ]; exact rfl) | exact rfl) ?_; refine Jg ?_; refine Jj (Vi [4, 5, 6, 7, 0] (L' := [_, _, _, _, _]) (by decide) rfl ?_)
       (obtain rfl : y = 4 := by omega
        have g3 := hvn (by have := hinv.opv; have := Yj (TY.take i2); omega)
        exact qq (i2 + 1, A + 4, v, (i2 : Int), some (ra2, cap2, sp2), pre ++ [v]) ⟨rfl, hvi, by simp only; rw [g3, Xe]; exact hra⟩ (by simp only; rw [g3, Xe]; exact ⟨List.Sublist.refl _, List.Sublist.refl _⟩))
       skip)
    try simp only [ZZ] at h14
    refine Jf (hK12 _ _ _ _ ?_); refine Wm fun K35 hK35 => Ja ?_; refine LR rfl (Jm (v := JF i2 row) rfl (kn 5 rfl) rfl rfl) ?_; refine LR rfl (Jx (vs := [_, _, _, _, _]) rfl (kn 0 rfl) rfl rfl rfl rfl) ?_; refine Kh (vs := [_]) (zs := [_, _, _, _, _]) (r := [_, _, _, _, _]) rfl rfl rfl rfl rfl rfl rfl rfl rfl (by rw [Kw]; exact rfl) rfl fun r12 => ?_; refine Km (L0 := [_, _, _, _, _, _, _]) (xs := Xx (vy s TY i2 pre)) (row := row) (n := i2) (sz := 5) (b := 56) (news := [_, _, _, _, _]) (List.perm_append_comm (l₁ := [_, _, _, _, _, _, _])) rfl rfl rfl rfl (kn 0 rfl) rfl rfl rfl rfl rfl (by decide) rfl rfl rfl (by decide) hrow (by omega) (by omega) fun ra2 cap2 sp2 hra => ?_; refine Kz (k := 7) (cs' := #[JF (i2 + 1) (some (ra2, cap2, sp2))]) rfl rfl rfl rfl rfl rfl rfl rfl rfl rfl ?_; refine Jg (hK35 _ _ _ _ ?_); refine Ja (LS 3 [4] rfl rfl ?_); refine Jy (show _ = Value.int .i64 ((A + y : Nat)) from congrArg (Value.int .i64) (by rw [wrap_i64 (by omega) (by omega)]; omega)) ?_
    refine LT 4 rfl rfl ?_; refine Jg ?_; refine Jj (Vi [4, 5, 6, 7, 0] (L' := [_, _, _, _, _]) (by decide) rfl ?_)
    (have hfx : JJ (Ty.mk xk xn xp xi) = true := ‹_›
     rw [hfx, if_pos rfl] at hbe
     obtain ⟨f1, f2⟩ := hinv.fix hxx hfx hzz
     rw [show (JV (Ty.mk xk xn xp xi)).toNat = y by omega] at f1 f2
     exact qq (i2 + 1, A + y, la, op, some (ra2, cap2, sp2), pre) ⟨rfl, f1, by simp only; rw [f2, Xe]; exact hra⟩ (by simp only; rw [f2, Xe]; exact ⟨List.Sublist.refl _, List.Sublist.refl _⟩))
  · rintro D i ⟨i2, A, la, op, row, pre⟩ hfi ⟨he, hinv, hrow⟩
    simp only at he hinv hrow
    have hin : i = M := hfi
    have he2 : i2 = TY.length := by omega
    subst he2
    have hfin := hinv.done
    refine Jj (hK7 _ _ _ _ ?_); refine Wi fun K36 hK36 => ?_; refine Ja (LR rfl (Jm (v := .int .i64 op) rfl (kn 3 rfl) rfl rfl) (LS 2 [] rfl rfl ?_))
    refine JA 96 rfl (fun hb37 => ?_) (fun hb37 => ?_) <;> (try simp only [ZZ] at hb37) <;> first | (refine LR rfl (Jm (v := .int .i64 (H : Int)) rfl (Or.inl (List.mem_cons_of_mem _ (List.mem_append_right _ (List.mem_cons_of_mem _ (List.mem_cons_of_mem _ List.mem_cons_self))))) rfl rfl) ?_) | (refine LK rfl ?_)
    all_goals first
      | (refine LR rfl (Jm (v := J2 s) rfl (Or.inl (List.mem_cons_of_mem _ (List.mem_append_right _ (List.mem_cons_of_mem _ (List.mem_cons_of_mem _ (List.mem_cons_of_mem _ List.mem_cons_self)))))) rfl rfl) ?_)
      | (refine LK rfl ?_)
    all_goals first
      | (refine LR rfl (JT rfl rfl) ?_)
      | (refine LK rfl ?_)
    all_goals refine LW 2 [] rfl rfl ?_
    all_goals refine KQ rfl rfl rfl ZB (VF (_) 2) (fun q hq => nomatch hq) (fun hok _ => ?_) (fun v hv => by first | exact Bool.noConfusion hv.1 | exact Jc6 (k := 0) rfl rfl (Ql rfl rfl (Ww (Jhq hm0 hM hHi' hHl (by rw [← hTY]; exact (hfin.2).trans (if_pos ⟨by omega, fun e => by have := Z4.1 hv.1; omega⟩))) (by decide) hv)))
    all_goals refine Jg ?_
    all_goals (
     refine hK36 _ _ _ _ ?_; refine Wi fun K41 hK41 => ?_; refine Ja (LR rfl (Jm (v := JF TY.length row) rfl (kn 4 rfl) rfl rfl) (Ji rfl ?_)); refine Jg (hK41 _ _ _ _ ?_); refine Jnu ?_; refine Jb ?_
     have hpo := Jad hm0 hM hHi' hHl
     rw [← hTY, hfin.2, if_neg (by first | (rintro ⟨g1, g2⟩; omega) | (rintro ⟨g1, g2⟩; have := Z3.1 hok; omega))] at hpo; simp only at hpo
     have hps : YD k n ins s = vy s TY TY.length pre := by unfold YD; rw [hpo, ← hM, ← hTY, hfin.1]
     rw [hps]; refine QK (k := 0) rfl rfl ?_; refine Jv rfl rfl (.cons (J4 rfl) .nil) (fun w1 hs1 => ?_); exact .inl ⟨by rw [hpo], ⟨row, by rw [hinv.len]; exact hrow⟩, congrArg (fun m => Ending.returned (JF m row)) hinv.len.symm, hs1.weakL (.cons _ (.cons _ (.cons _ (.cons _ (.cons _ (List.sublist_append_left _ _))))))⟩
     skip)
  exact fun _ _ _ h => h.elim
  · rintro D _ ⟨v, hv, rfl⟩
    exact Jc6 (k := 0) rfl rfl (Ql rfl rfl hv)
open Go.Proofs (Enters enters_of)
theorem zn : ∀ {l : List (Gf × BS)} {vs : List Vl} {f : Gf} {s : BS} {v : Vl}, VA l = (vs, 0) → f s = (v, 0) → VA (l ++ [(f, s)]) = (vs ++ [v], 0)
  | [], vs, f, s, v, h, hv => by
    rw [VA] at h
    obtain rfl := (Prod.mk.inj h).1
    rw [List.nil_append, VA, VA, hv, if_neg (by simp), if_neg (by simp)]; rfl
  | (f', s') :: l, vs, f, s, v, h, hv => by
    rw [VA] at h
    by_cases h1 : (f' s').2 ≠ 0
    · rw [if_pos h1] at h; exact absurd (Prod.mk.inj h).2 h1
    rw [if_neg h1] at h
    by_cases h2 : (VA l).2 ≠ 0
    · rw [if_pos h2] at h; exact absurd (Prod.mk.inj h).2 h2
    rw [if_neg h2] at h
    obtain rfl := (Prod.mk.inj h).1
    have ih := zn (l := l) (vs := (VA l).1) (Prod.ext rfl (Decidable.not_not.1 h2)) hv
    rw [List.cons_append, VA, if_neg h1, ih, if_neg (by simp)]; rfl
theorem Jde : ∀ {l r : List (Gf × BS)} {vs : List Vl} {f : Gf} {s : BS}, VA l = (vs, 0) → (f s).2 ≠ 0 → (VA (l ++ (f, s) :: r)).2 = (f s).2
  | [], r, vs, f, s, _, hv => by rw [List.nil_append, VA, if_pos hv]
  | (f', s') :: l, r, vs, f, s, h, hv => by
    rw [VA] at h
    by_cases h1 : (f' s').2 ≠ 0
    · rw [if_pos h1] at h; exact absurd (Prod.mk.inj h).2 h1
    rw [if_neg h1] at h
    by_cases h2 : (VA l).2 ≠ 0
    · rw [if_pos h2] at h; exact absurd (Prod.mk.inj h).2 h2
    have ih := Jde (r := r) (l := l) (vs := (VA l).1) (Prod.ext rfl (Decidable.not_not.1 h2)) hv
    rw [List.cons_append, VA, if_neg h1, if_pos (by rw [ih]; exact hv)]; exact ih
theorem wS {s : BS} {H : Nat} (hH : H ≤ s.length) : ∀ {ts : List Ty} {a la : Nat} {op : Bool} {os : List Nat}, QD s H ts a la op = some os → la ≤ s.length → (op = false → la = H) → (∀ x ∈ ts, JJ x = true → 0 ≤ JV x) → (a : Int) + Kf ts = H → ∀ q ∈ KD ts a os, q.2.1 ≤ q.2.2 ∧ q.2.2 ≤ s.length
  | [], _, _, _, _, _, _, _, _, _, q, hq => by rw [KD] at hq; cases hq
  | x :: xs, a, la, op, os, h, hla, hop, hz, hb, q, hq => by
    have hz2 : ∀ y ∈ xs, JJ y = true → 0 ≤ JV y := fun y hy => hz y (List.mem_cons_of_mem _ hy)
    have hn := Zz xs
    rw [Kf, WE] at hb; rw [QD] at h; rw [KD] at hq
    by_cases hf : JJ x = true
    · rw [if_pos hf] at h hb hq
      have h0 := hz x List.mem_cons_self hf
      rcases List.mem_cons.1 hq with rfl | hq
      · simp only; omega
      · exact wS hH h hla hop hz2 (by omega) q hq
    · rw [if_neg hf] at h hb hq
      split at h
      · cases h
      · rename_i h1
        obtain ⟨r, h2, rfl⟩ := Option.map_eq_some_iff.1 h
        obtain ⟨o, r2, rfl, g1, g2, _⟩ := vu h2 (by omega) (fun h => by cases h)
        rcases List.mem_cons.1 hq with rfl | hq
        · exact ⟨g1, g2⟩
        · exact wS hH h2 (by omega) (fun h => by cases h) hz2 (by omega) q hq
def gq (s : BS) (q : Ty × Nat × Nat) : Gf × BS := (KK q.1, (s.take q.2.2).drop q.2.1)
theorem jE {α β γ : Type} (f : α → β) (g : α → γ) : ∀ l : List α, (l.map f).zip (l.map g) = l.map fun a => (f a, g a)
  | [] => rfl
  | x :: xs => by rw [List.map_cons, List.map_cons, List.zip_cons_cons, jE f g xs]; rfl
theorem Jse {k n : Int} {ins : List Ty} {s : BS} (hX : (JW k n ins s).2 = 0 → ∀ i, i < (JW k n ins s).1 → VY k 0 i < ins.length) :
    xW k n ins (YC ins) s = if (QY k n ins s).2 ≠ 0 then (v0L, (QY k n ins s).2) else if (VA ((YD k n ins s).map (gq s))).2 ≠ 0 then (v0L, (VA ((YD k n ins s).map (gq s))).2) else (KJ (VA ((YD k n ins s).map (gq s))).1 0, 0) := by
  unfold xW
  by_cases hm : (JW k n ins s).2 ≠ 0
  · rw [if_pos hm, if_pos (by rw [jD hm]; exact hm), jD hm]
  rw [if_neg hm]
  have hm0 := Decidable.not_not.1 hm
  have hX := hX hm0
  unfold YD QY
  rw [if_neg hm]
  by_cases hb : (s.length : Int) < Kf (Kx k ins (JW k n ins s).1)
  · rw [if_pos hb, if_pos hb, if_pos (by simp)]
  rw [if_neg hb, if_neg hb]
  generalize (JW k n ins s).1 = M at *
  cases QD s (Kf (Kx k ins M)).toNat (Kx k ins M) 0 (Kf (Kx k ins M)).toNat false with
  | none => simp
  | some os =>
    simp only [ne_eq, not_true_eq_false, if_false]
    have e : ((List.range M).map fun i => (YC ins).getD (VY k 0 i) g0).zip (V5 s (Kx k ins M) 0 os) = (KD (Kx k ins M) 0 os).map (gq s) := by
      have e1 : ((List.range M).map fun i => (YC ins).getD (VY k 0 i) g0) = (KD (Kx k ins M) 0 os).map fun q => KK q.1 := by
        have e2 : ((KD (Kx k ins M) 0 os).map Prod.fst).map KK = (Kx k ins M).map KK := by rw [qn]
        rw [List.map_map] at e2; rw [show (fun q : Ty × Nat × Nat => KK q.1) = KK ∘ Prod.fst from rfl, e2]
        unfold Kx
        rw [List.map_map]; exact List.map_congr_left fun i hi => vv (Qn (hX i (List.mem_range.1 hi))).1
      rw [e1, ZQ, jE]; rfl
    rw [e]
section
variable {k n : Int} {p : Pl} {ins : List Ty} {s : BS}
theorem g_w (h : JJ (.mk k n p ins) = true ∧ (s.length : Int) ≠ JV (.mk k n p ins)) : KK (.mk k n p ins) s = (v0L, 2) := by rw [KK]; unfold ZN; rw [if_pos h]
variable (hnf : ¬ (JJ (.mk k n p ins) = true ∧ (s.length : Int) ≠ JV (.mk k n p ins)))
include hnf
theorem g_1 (h1 : k = 1) : KK (.mk k n p ins) s = (wF (XO s), 0) := by rw [KK]; unfold ZN; rw [if_neg hnf, if_pos h1]
theorem g_2 (h1 : k ≠ 1) (h2 : k = 2) : KK (.mk k n p ins) s = if 1 < (s.getD 0 0).toNat then (v0L, 2) else (wF (XO s), 0) := by rw [KK]; unfold ZN; rw [if_neg hnf, if_neg h1, if_pos h2]
theorem g_5 (h1 : k ≠ 1) (h2 : k ≠ 2) (h5 : k = 5) : KK (.mk k n p ins) s = if ((JM s (8 * s.length)).drop n.toNat).any id then (v0L, 8) else (ZM (JM s n.toNat), 0) := by rw [KK]; unfold ZN; rw [if_neg hnf, if_neg h1, if_neg h2, if_pos h5]
theorem g_6 (h1 : k ≠ 1) (h2 : k ≠ 2) (h5 : k ≠ 5) (h6 : k = 6) : KK (.mk k n p ins) s = blT n s := by rw [KK]; unfold ZN; rw [if_neg hnf, if_neg h1, if_neg h2, if_neg h5, if_pos h6]; rfl
theorem Jyn (h1 : k ≠ 1) (h2 : k ≠ 2) (h5 : k ≠ 5) (h6 : k ≠ 6) (h8 : k = 8) (hs : s = []) : KK (.mk k n p ins) s = (v0L, 2) := by rw [KK]; unfold ZN; rw [if_neg hnf, if_neg h1, if_neg h2, if_neg h5, if_neg h6, if_pos h8, hs]
theorem g_r (h1 : k ≠ 1) (h2 : k ≠ 2) (h5 : k ≠ 5) (h6 : k ≠ 6) (h8 : k ≠ 8) : KK (.mk k n p ins) s = xW k n ins (YC ins) s := by rw [KK]; unfold ZN; rw [if_neg hnf, if_neg h1, if_neg h2, if_neg h5, if_neg h6, if_neg h8]
theorem Jyo (h1 : k ≠ 1) (h2 : k ≠ 2) (h5 : k ≠ 5) (h6 : k ≠ 6) (h8 : k = 8) (hs : s ≠ []) (hb : ins.length ≤ (s.getD 0 0).toNat) : KK (.mk k n p ins) s = (v0L, 9) := by
  rw [KK]; unfold ZN; rw [if_neg hnf, if_neg h1, if_neg h2, if_neg h5, if_neg h6, if_pos h8]
  cases s with
  | nil => exact absurd rfl hs
  | cons b r => simp only; rw [if_pos (by simpa using hb)]
theorem g_8 (h1 : k ≠ 1) (h2 : k ≠ 2) (h5 : k ≠ 5) (h6 : k ≠ 6) (h8 : k = 8) (hs : s ≠ []) {x : Ty} (hx : ins[(s.getD 0 0).toNat]? = some x) : KK (.mk k n p ins) s = if (KK x (s.drop 1)).2 ≠ 0 then (v0L, (KK x (s.drop 1)).2) else (KJ [(KK x (s.drop 1)).1] (s.getD 0 0).toNat, 0) := by
  rw [KK]; unfold ZN; rw [if_neg hnf, if_neg h1, if_neg h2, if_neg h5, if_neg h6, if_pos h8]
  cases s with
  | nil => exact absurd rfl hs
  | cons b r =>
    simp only [List.getD_cons_zero, List.drop_succ_cons, List.drop_zero] at hx ⊢
    have hlt := (List.getElem?_eq_some_iff.1 hx).1
    rw [if_neg (by omega), vv hx]
end
theorem Jod {s : BS} {a b c d : Nat} (h : XO s = [a, b, c, d]) : Vl.In [] (.mk a b c d [] none [] none 0) := by
  have h2 := (xq s).2
  rw [h] at h2
  have hU : ∀ x ∈ [a, b, c, d], X5 x := fun x hx => h2 x hx
  exact .mk (hU a (by simp)) (hU b (by simp)) (hU c (by simp)) (hU d (by simp)) (by decide) rfl (by decide) rfl i0 (fun x hx => nomatch hx)
theorem jF {vs : List Vl} {E Lr : Jr} {p : Pl} {pick : Int} (hl : vs.length ≤ 9223372036854775807) (hs : Seg Lr vs.length (Qj vs) p) (hE : ∀ x ∈ vs, x.In E) (hp : jP pick) : Vl.In (Lr ++ E) (.mk 0 0 0 0 [] none vs p pick) :=
  .mk u0 u0 u0 u0 (by decide) rfl hl (hs.mono fun q hq => List.mem_append_left _ hq) hp fun x hx => (hE x hx).mono fun q hq => List.mem_append_right _ hq
theorem wT {α : Type} {c : Cx} {d : List Deferred} {l : Kn} {L : Jr} {X : XP} {Q : Exit → Act → World → Prop} {ok : Prop} {bad : Value → Prop} {V : α → Value} {LL : α → Jr} {Rl : Jr} {dst : Option Nat} {f : Operand} {args : Array Operand} {at_ : Array TypeId} {ty : TypeId} {ps : String} {af : Array Edge} {gd : Option (Nat × Bool)} {g : FuncId} {vs : List Value}
    (hca : KA l f args = some (g, vs)) (eg : Enters c.P g) (hpt : PureX c.P g vs.toArray ok bad V LL Rl) (hno : ok → α → False) (hR : ∀ p ∈ Rl, known c L p.1 p.2) (hp : ∀ v, bad v → HQ c d l L X (Q (.panic (wH v)))) :
    ∀ (next : Act → World → Prop) a w, Fr c.n d l a → St c L X w → Oper.uponIn (FW c.ro) 0 c.P ⟨dst, .call ⟨.value f, args, at_⟩, ty, ps, af, gd⟩ a next Q ((execOp a.eval ⟨dst, .call ⟨.value f, args, at_⟩, ty, ps, af, gd⟩).run c.P w) := fun next a w hf hs => by
  rw [V7 hf hca c.P w _ rfl eg, Oper.uponIn_enter]; refine ⟨fun hdep => (by cases hdep), ?_⟩
  have hc := callsIn_wide (n := 0) |>.2 (hpt.run w fun p hp => hs.known (hR p hp))
  refine CallsIn.mono (show CallsIn (FW c.ro) 0 c.P g vs.toArray w _ from hc) ?_
  rintro e w' (⟨ho, x, rfl, hk, h1, h2⟩ | ⟨v, hv, rfl, hk⟩)
  · exact (hno ho x).elim
  · exact hp v hv a w' hf (hs.more hk)
section
variable {c : Cx} {X : XP} {S : Jr} {ops : Array Oper} {l : Kn} {E : Jr} {d : List Deferred} {tb : jp} {rest : List Nat} {T : Jr → Act → Prop} {i k : Nat} {v : Value}
theorem Zc {t ty : TypeId} {ps : String} {af : Array Edge} {gd : Option (Nat × Bool)} {n e sz : Nat} {pa : List (Nat × Operand)} {vs : Kn} {r zs : List Value} {z : Value} (hk : Wl ops.toList k = some ⟨some i, .buildSlice t n pa.toArray, ty, ps, af, gd⟩) (hg : Kj l ops ⟨some i, .buildSlice t n pa.toArray, ty, ps, af, gd⟩ = some true) (hi : Nat.ble (i + 1) c.n = true)
    (hA : tb k = .turn) (hS : SubS S E)
    (hp : Wy l pa = some vs) (ht : Kl c.P t = some e) (hz : QE c.P e = some z) (hs : KF c.P e = some sz) (hzs : z.cells.size = sz) (hb : Nat.ble (n * sz) 16777216 = true) (h0 : Nat.ble 1 (n * sz) = true)
    (hmk : (madeCells z.cells (n * sz)).toList = zs) (hf : Y8 (fun i => some (i * sz, sz)) zs (Qz vs) = some r)
    (h : ∀ q, HB c d ((i, .slice (some ⟨q, 0, none⟩) n n) :: l) ((q, .cells r.toArray e (0, 0)) :: E) X S ops tb rest T) : HB c d l E X S ops tb (k :: rest) T := fun a hfr => by
  refine ⟨_, QJ hk, ?_⟩; rw [hA]; refine .inl ⟨Nat, slV n, fun q => (q, .cells r.toArray e (0, 0)) :: E, ⟨JB hfr hg, fun w hst => ?_⟩, fun q => ⟨fun p hp => List.mem_cons_of_mem _ (hS p hp), h q _ (hfr.put (Nat.le_of_ble_eq_true hi))⟩⟩
  have h1 := Vh hfr hp
  have h2 : (pa.toArray.map fun (p : Nat × Operand) => (p.1, a.eval p.2)) = vs.toArray := by
    apply Array.toList_inj.1; rw [Array.toList_map]; simpa using h1
  rw [Qs] at hf; subst hmk
  have h3 := Vx ht hz hs hzs (Nat.le_of_ble_eq_true hb) (Nat.le_of_ble_eq_true h0) hf w
  rw [← h2] at h3
  have h4 : (Instr.buildSlice t n (pa.toArray.map fun (i, x) => (i, a.eval x))).run c.P w = .ok (.slice (some ⟨w.heap.size, 0, none⟩) n n) (w.alloc (.cells r.toArray e)) := h3
  refine Yt (v := .slice (some ⟨w.heap.size, 0, none⟩) n n) (w' := w.alloc (.cells r.toArray e)) ?_ ⟨w.heap.size, rfl, hst.alloc _⟩; simp only [execOp, Sem.run_bind]; rw [h4]; rfl
end
open Classical in
theorem Jvn {α : Type} (a b c d e : α) (Y A P E : List α) : (a :: (Y ++ (b :: c :: d :: e :: (A ++ (P ++ E))))).Perm (A ++ (a :: b :: c :: d :: e :: (Y ++ (P ++ E)))) := by
  rw [List.perm_iff_count]; intro x; simp only [List.count_append, List.count_cons]; omega
open Classical in
theorem Jvo {α : Type} (a b c d e f : α) (Y P E : List α) : (a :: b :: c :: d :: e :: f :: (Y ++ (P ++ E))).Perm (b :: c :: d :: e :: f :: (a :: (P ++ (Y ++ E)))) := by
  rw [List.perm_iff_count]; intro x; simp only [List.count_append, List.count_cons]; omega
theorem Xy {c : Cx} {d : List Deferred} {l : Kn} {L L' : Jr} {X : XP} {K : Act → World → Prop} (hp : L.Perm L') (h : HQ c d l L' X K) : HQ c d l L X K := fun a w hf hs => h a w hf (hs.perm hp)
theorem Joe {s : BS} {N j : Nat} (h : N + j < 8 * s.length) (hb : QW s (N + j) = true) : ((JM s (8 * s.length)).drop N).any id = true :=
  List.any_eq_true.2 ⟨_, List.mem_iff_getElem?.2 ⟨j, by rw [List.getElem?_drop]; exact Va s h⟩, by simpa using hb⟩
theorem Jvp {s : BS} {N : Nat} (h : ∀ j, j < 8 * s.length - N → QW s (N + j) = false) : ((JM s (8 * s.length)).drop N).any id = false := by
  rw [List.any_eq_false]; intro b hb
  obtain ⟨j, hj⟩ := List.getElem?_of_mem hb
  rw [List.getElem?_drop] at hj
  have hlt := (List.getElem?_eq_some_iff.1 hj).1
  rw [Ko] at hlt; rw [Va s hlt] at hj
  cases hj
  rw [h j (by omega)]; simp
theorem Jof {R : Jr} {k n : Int} {p : Pl} {ins : List Ty} {s : BS} (ht : Ty.In R (.mk k n p ins)) (hc : V6 (.mk k n p ins) 0 = 0) (hk3 : k = 3 ∨ k = 4 ∨ k = 7) (hl : s.length ≤ 100000) :
    PureX (α := { row : Vz // rowOk 5 (YD k n ins s).length (Xx (YD k n ins s)) row }) Tryz.prog 147 [Ty.val (.mk k n p ins), J2 s].toArray ((QY k n ins s).2 = 0) (fun v => (QY k n ins s).2 ≠ 0 ∧ v = zk (QY k n ins s).2) (fun x => KM (YD k n ins s).length (Vo x.1)) (fun x => JY 162 (Xx (YD k n ins s)) x.1) R :=
  (Jsd ht hc hk3 hl).map id (fun x => (We _ _ (fun h => by have := x.2; rw [h] at this; exact this.1)).symm) fun x => List.Sublist.refl _
theorem Jvq {k n : Int} {ins : List Ty} {s : BS} (hX : ∀ i, i < (JW k n ins s).1 → VY k 0 i < ins.length) {i : Nat} {q : Ty × Nat × Nat} (h : (YD k n ins s)[i]? = some q) : q.1 ∈ ins := by
  have h1 : ((YD k n ins s).map Prod.fst)[i]? = some q.1 := by rw [List.getElem?_map, h]; rfl
  unfold YD at h1
  rw [qn] at h1
  unfold Kx at h1
  rw [List.getElem?_map] at h1
  obtain ⟨j, hj, e⟩ := Option.map_eq_some_iff.1 h1
  have hj2 := List.mem_range.1 (List.mem_of_getElem? hj)
  rw [← e]; exact (Qn (hX j hj2)).2
theorem Jxd {k n : Int} {ins : List Ty} {s : BS} (h0 : (QY k n ins s).2 = 0) {q : Ty × Nat × Nat} (hq : q ∈ YD k n ins s) : (JW k n ins s).2 = 0 ∧ q.2.1 ≤ q.2.2 ∧ q.2.2 ≤ s.length := by
  by_cases hm : (JW k n ins s).2 ≠ 0
  · rw [jD hm] at h0; exact absurd h0 hm
  have hm0 := Decidable.not_not.1 hm
  refine ⟨hm0, ?_⟩
  have hb0 := Zz (Kx k ins (JW k n ins s).1)
  obtain ⟨H, hH⟩ : ∃ H : Nat, Kf (Kx k ins (JW k n ins s).1) = (H : Int) := ⟨_, (Int.toNat_of_nonneg hb0).symm⟩
  by_cases hl : s.length < H
  · rw [Jhp hm0 rfl hH hl] at h0; cases h0
  have ho := Jad hm0 rfl hH (by omega)
  cases e : QD s H (Kx k ins (JW k n ins s).1) 0 H false with
  | none => rw [e] at ho; rw [ho] at h0; cases h0
  | some os =>
    rw [e] at ho
    unfold YD at hq
    rw [ho] at hq; exact wS (by omega) e (by omega) (fun _ => rfl) (fun x _ hx => by have := jA hx; omega) (by rw [hH]; simp) q hq
set_option maxHeartbeats 4000000 in
theorem Jxe {R : Jr} {t : Ty} (ht : t.In R) : V6 t 0 = 0 → ∀ s : BS, s.length ≤ 100000 → PureX (α := VR (KK t s).1) Tryz.prog 95 [t.val, J2 s].toArray ((KK t s).2 = 0) (fun v => (KK t s).2 ≠ 0 ∧ v = zk (KK t s).2) (fun y => y.x.val) (fun y => y.L) R := by
  induction ht with
  | @mk k n p ins hk hn hil hs hi ih =>
  intro hc s hl
  have ht : Ty.In R (.mk k n p ins) := .mk hk hn hil hs hi
  obtain ⟨hk8, ho, _, _⟩ := QQ hc
  have hsub := XH hc
  have hF := xl ht
  have hZ := Jem ht
  unfold vT at hZ
  have hbl := Jjq (k := k) (p := p) (ins := ins) hl hn
  have hT := Jn5 (s := s) (n := 8 * s.length) (Nat.le_refl _) hl
  have hpl : ¬ (JJ (.mk k n p ins) = true ∧ (s.length : Int) ≠ JV (.mk k n p ins)) → k = 1 ∨ k = 2 ∨ k = 5 → (s.length : Int) = if k = 1 then n else if k = 2 then 1 else (n + 7) / 8 := fun hnf h => by
    have hi0 : ins = [] := by
      unfold Kk at ho
      rcases h with rfl | rfl | rfl <;> simp at ho <;> first | exact ho.1 | exact ho.1.1
    have hx : JJ (.mk k n p ins) = true := by
      rw [Jnm hc, W8, hi0, ZG]
      rcases h with rfl | rfl | rfl <;> rfl
    have e : (s.length : Int) = JV (.mk k n p ins) := Decidable.byContradiction fun h2 => hnf ⟨hx, h2⟩
    rw [e, JV]
    rcases h with rfl | rfl | rfl <;> simp
  have hn1 : k = 1 → 1 ≤ n ∧ n ≤ 32 := fun e => by subst e; unfold Kk at ho; simp at ho; omega
  have hn5 : k = 5 → 1 ≤ n ∧ n ≤ 512 := fun e => by subst e; unfold Kk at ho; simp at ho; omega
  have h16 : k = 8 → ins.length ≤ 8 := fun e => by subst e; unfold Kk at ho; simp at ho; omega
  refine XJ Tryz.func95 rfl rfl fun w => ?_; refine sR fun _ hK1 => ?_; refine LN rfl fun r1 => ?_; refine LN rfl fun r2 => ?_; refine nK hK1 (sR fun _ hK2 => ?_); refine LR rfl (Jx (vs := [_, _, _]) rfl (kn 1 rfl) rfl rfl rfl rfl) ?_; refine Jh rfl rfl rfl Jlk hF (fun q hq => Or.inr hq) ?_; refine LS 2 [] rfl rfl ?_
  refine JA 15 rfl (fun hb3 => ?_) (fun hb3 => ?_) <;> (try simp only [ZZ] at hb3) <;> first | (refine Ji rfl ?_) | (refine LK rfl ?_)
  all_goals first
    | (refine LR rfl (JT rfl rfl) ?_)
    | (refine LK rfl ?_)
  all_goals refine LW 1 [1] rfl rfl ?_
  all_goals first
    | (refine Jh rfl rfl rfl Jll hZ (fun q hq => Or.inr hq) ?_)
    | (refine LK rfl ?_)
  all_goals refine LW 2 [] rfl rfl ?_
  all_goals refine KQ rfl rfl rfl ZB (VF (_) 2) (fun q hq => nomatch hq) (fun hok _ => ?_) (fun v hv => by first | exact Bool.noConfusion hv.1 | exact Ql rfl rfl (Ww (by rw [g_w ⟨‹JJ _ = true›, fun e => absurd hv.1 (by rw [if_pos ‹JJ _ = true›, e, beq_self_eq_true]; decide)⟩]) (by decide) hv))
  all_goals refine Jg ?_
  all_goals (
   refine hK2 (sQ fun _ hK8 => ?_); refine sQ fun _ hK9 => ?_
   have hnf : ¬ (JJ (.mk k n p ins) = true ∧ (s.length : Int) ≠ JV (.mk k n p ins)) := by
     rintro ⟨hA, hB⟩
     first
     | (have e := Z3.1 hok; rw [if_pos hA] at e; exact hB e)
     | (have e : JJ (.mk k n p ins) = false := ‹_›; rw [e] at hA; cases hA)
   clear hok; refine Ja ?_
   refine LS 2 [1] rfl rfl (nK hK9 ?_); refine Ju (sR fun _ hK10 => (LS 2 [] rfl rfl ?_)); refine nK hK10 ?_; refine Jc rfl (fun h11 => ?_) (fun h11 => ?_)
   try simp only [ZZ] at h11
   refine sQ fun _ hK12 => ?_
   have hln := hpl hnf (.inl ‹k = 1›)
   rw [if_pos ‹k = 1›] at hln
   have hnn := hn1 ‹_›
   obtain ⟨a, b, c, d, hnm⟩ := Jfd s
   have hnu := zm (s := s) (by omega)
   rw [hnm] at hnu; refine Ja (Ji rfl (JD rfl rfl rfl (enters_of Tryz.func144 (by kernel_rfl) rfl) hnu ?_)); refine LR rfl (JI (r := [_, _, _, _, _, _, _]) rfl rfl) ?_
   refine LT 0 rfl rfl (nK hK12 ?_); refine Jb (Jn (Jd ?_)); refine Jv rfl rfl (.cons (J6 (vs := [_, _, _, _, _, _, _]) rfl (kn 0 rfl) rfl rfl) .nil) (fun w1 hs1 => ?_)
   (have e1 := g_1 hnf (s := s) ‹k = 1›
    refine .inl ⟨by rw [e1], ⟨.mk a b c d [] none [] none 0, [], Jod hnm, by rw [e1, Qc, Yi, hnm]; rfl⟩, rfl, hs1.weakL (List.nil_sublist _)⟩)
   · try simp only [ZZ] at h11
     refine sR fun _ hK13 => LS 2 [] rfl rfl (nK hK13 ?_); refine Jc rfl (fun h14 => ?_) (fun h14 => ?_)
     try simp only [ZZ] at h14
     refine sQ fun _ hK15 => ?_
     have hln := hpl hnf (.inr (.inl ‹k = 2›))
     rw [if_neg ‹k ≠ 1›, if_pos ‹k = 2›] at hln
     obtain ⟨a, b, c, d, hnm⟩ := Jfd s
     have hnu := zm (s := s) (by omega)
     rw [hnm] at hnu; refine Ja (Ji rfl (LR rfl (Wq (j := 0) rfl rfl rfl rfl (by omega) rfl) ?_)); refine JZ rfl ?_; refine KQ rfl rfl rfl ZB (VF (_) 2) (fun q hq => nomatch hq) (fun hok _ => ?_) (fun v hv => Ql rfl rfl (Ww (by rw [g_2 hnf ‹k ≠ 1› ‹k = 2›, if_pos (by have := Z2.1 hv.1; omega)]) (by decide) hv)); refine nK hK15 (sR fun _ hK16 => ?_); refine Ji rfl (JD rfl rfl rfl (enters_of Tryz.func144 (by kernel_rfl) rfl) hnu (LR rfl (JI (r := [_, _, _, _, _, _, _]) rfl rfl) ?_))
     refine LT 0 rfl rfl (nK hK16 ?_); refine Jb (Jn (Jd ?_)); refine Jv rfl rfl (.cons (J6 (vs := [_, _, _, _, _, _, _]) rfl (kn 0 rfl) rfl rfl) .nil) (fun w1 hs1 => ?_)
     (have e1 := g_2 hnf (s := s) ‹k ≠ 1› ‹k = 2›
      rw [if_neg (by have := Z1.mp hok; omega)] at e1
      refine .inl ⟨by rw [e1], ⟨.mk a b c d [] none [] none 0, [], Jod hnm, by rw [e1, Qc, Yi, hnm]; rfl⟩, rfl, hs1.weakL (List.nil_sublist _)⟩)
     · try simp only [ZZ] at h14
       refine sR fun _ hK17 => LS 2 [] rfl rfl (nK hK17 ?_); refine Jc rfl (fun h18 => ?_) (fun h18 => ?_)
       · try simp only [ZZ] at h18
         refine sQ fun _ hK19 => ?_
         have hln := hpl hnf (.inr (.inr ‹k = 5›))
         rw [if_neg ‹k ≠ 1›, if_neg ‹k ≠ 2›] at hln
         have hnn := hn5 ‹_›
         obtain ⟨N, hN⟩ : ∃ N, N = n.toNat := ⟨_, rfl⟩
         refine Ja (LS 2 [] rfl rfl (LR rfl (JT rfl rfl) ?_)); refine JZ rfl ?_; refine Jy (show _ = Value.int .i64 ((8 * s.length : Nat)) from congrArg (Value.int .i64) (by rw [wrap_i64 (by omega) (by omega)]; omega)) ?_; refine Qr rfl rfl rfl (enters_of Tryz.func145 (by kernel_rfl) rfl) hT (fun q hq => nomatch hq) fun x => ?_
         obtain ⟨row, hrow⟩ := x
         match row, hrow with | none, hrow => ?_ | some (ra, cap, sp), hrow => ?_
         all_goals first | exact absurd hrow.1 (by omega) | skip
         refine Ji rfl (nK hK19 ?_); refine sQ fun _ hK20 => sQ fun _ hK21 => ?_
         have hcap : 8 * s.length ≤ cap := by have := hrow.2; omega
         obtain ⟨off1, hoff⟩ : ∃ o, (if cap = N then 0 else 0 + N * 1) = o := ⟨_, rfl⟩
         refine Ja (Ji rfl ?_)
         refine LS 2 [2] rfl rfl ?_; refine Jy (show _ = Value.int .i64 ((N : Nat) : Int) from congrArg (Value.int .i64) (by omega)) ?_; refine LR rfl (JR (kl := some N) (kh := none) (km := none) (sz := 1) (m := N) (q := 8 * s.length) (z := cap) (off' := off1) rfl rfl rfl ⟨_, rfl⟩ trivial trivial rfl rfl rfl (by omega) (by omega) (Nat.le_refl _) (fun _ => rfl) hoff) ?_; refine LR rfl (KI rfl rfl) ?_; refine Ji rfl (nK hK21 ?_); refine Ju (JG (σ := Nat) (fun j => j ≤ 8 * s.length - N ∧ ∀ i, i < j → QW s (N + i) = false) (fun j => [(1, J2 s), (2, V9 r1), (4, V9 r2), (5, .slice (some ⟨ra, 0, none⟩) (8 * s.length) cap), (49, .slice (some ⟨ra, off1, none⟩) (8 * s.length - N) (cap - N)), (50, .int .i64 ((8 * s.length - N : Nat) : Int)), (51, .int .i64 (j : Int))]) (fun _ => [(ra, .cells (Qy (JM s (8 * s.length)) ++ sp).toArray 4 (0, 0)), WO r2 v0L, VK r1 (.mk k n p ins)]) (fun _ _ _ => True) (fun j => 8 * s.length - N - j) 0 ⟨Nat.zero_le _, fun i h => by omega⟩ (.cons rfl (.cons rfl (.cons rfl (.cons rfl (.cons rfl (.cons rfl (.cons rfl .nil))))))) (List.Sublist.refl _) (fun _ _ h => h) ?_); rintro j ⟨hj1, hbits⟩; change HC _ _ _ ((ra, _) :: (r2, _) :: (r1, _) :: []) _ _ _; refine sR fun _ hK22 => JZ rfl (nK hK22 ?_); refine sQ fun _ hK23 => ?_; refine Jc rfl (fun h24 => ?_) (fun h24 => ?_)
         try simp only [ZZ] at h24
         refine Jf (hK23 ?_); refine sB fun _ hK25 => sR fun _ hK26 => ?_; refine LR rfl (Ki (j := j) (m := 1) (off' := N + j) rfl rfl rfl rfl (by omega) (by omega) (by rw [← hoff, if_neg (by omega)]; omega)) ?_; refine LR rfl (Jm rfl (kn 0 rfl) rfl (Jhm s (i := N + j) (by omega) sp)) ?_; refine Ji rfl (nK hK26 ?_); refine Ja (LS 2 [] rfl rfl ?_); refine KQ rfl rfl rfl ZB (VF (_) 8) (fun q hq => nomatch hq) (fun hok _ => ?_) (fun v hv => Ql rfl rfl (Ww (by rw [g_5 hnf ‹k ≠ 1› ‹k ≠ 2› ‹k = 5›, ← hN, if_pos (Joe (by omega) (Z8.mp hv.1))]) (by decide) hv)); refine Jg (Jj (hK25 ?_)); refine Ja (JZ rfl (Jt (by omega) (by omega) ?_)); refine Ji rfl (Jg (J5 ?_)); exact J1 (j + 1) ⟨by omega, fun i hi => by by_cases e : i = j; (subst e; exact Z7.mp hok); exact hbits i (by omega)⟩ (by omega) (.cons rfl (.cons rfl (.cons rfl (.cons rfl (.cons rfl (.cons rfl (.cons rfl .nil))))))) (List.Sublist.refl _) (fun _ _ h => h)
         · try simp only [ZZ] at h24
           refine JE (Jl ?_); refine Jl (J0 (hK20 ?_)); refine sQ fun _ hK27 => ?_
           have hany := Jvp (s := s) (N := N) (fun i hi => hbits i (by omega))
           refine Ja (Ji rfl ?_)
           refine LS 2 [2] rfl rfl ?_; refine Jy (show _ = Value.int .i64 ((N : Nat) : Int) from congrArg (Value.int .i64) (by omega)) ?_
           refine LR rfl (JR (kl := none) (kh := some N) (km := none) (m := 0) (q := N) (z := cap) (off' := 0) (sz := 1) rfl rfl rfl trivial ⟨_, rfl⟩ trivial rfl rfl rfl (by omega) (by omega) (Nat.le_refl _) (fun e => nomatch e) (by split <;> omega)) ?_; refine LR rfl (JI (r := [_, _, _, _, _, _, _]) rfl rfl) ?_
           refine LT 1 rfl rfl (nK hK27 ?_); refine Jb (Jn (Jd ?_)); refine Jv rfl rfl (.cons (J6 (vs := [_, _, _, _, _, _, _]) rfl (kn 1 rfl) rfl rfl) .nil) (fun w1 hs1 => ?_)
           (have e1 := g_5 hnf (s := s) ‹k ≠ 1› ‹k ≠ 2› ‹k = 5›
            rw [← hN, hany, if_neg (by decide)] at e1
            refine .inl ⟨by rw [e1], ⟨.mk 0 0 0 0 (JM s N) (some (⟨ra, 0, none⟩, cap)) [] none 0, [(ra, .cells (Qy (JM s (8 * s.length)) ++ sp).toArray 4 (0, 0))], Jdb (by omega) (by omega) (by omega), by rw [e1, Qc, Yi]; rfl⟩, congrArg Ending.returned (Jhn s N ra cap).symm, hs1.weakL ((List.cons_sublist_cons).2 (List.nil_sublist _))⟩)
       · try simp only [ZZ] at h18
         refine sR fun _ hK28 => LS 2 [] rfl rfl (nK hK28 ?_); refine Jc rfl (fun h29 => ?_) (fun h29 => ?_)
         try simp only [ZZ] at h29
         refine sR fun _ hK30 => LS 2 [1] rfl rfl ?_; refine KQ rfl rfl rfl (enters_of Tryz.func146 (by kernel_rfl) rfl) hbl (fun q hq => nomatch hq) (fun hok y => ?_) (fun v hv => Ql rfl rfl (by rw [g_6 hnf ‹k ≠ 1› ‹k ≠ 2› ‹k ≠ 5› ‹k = 6›]; exact hv))
         obtain ⟨⟨ya, yb, yc, yd, ybits, ypb, yitems, ypi, ypick⟩, yL, yok, yer⟩ := y
         refine KH List.perm_append_comm ?_
         refine LT 0 rfl rfl (nK hK30 ?_); refine Jb (Jn (Jd ?_)); refine Jv rfl rfl (.cons (J6 (vs := [_, _, _, _, _, _, _]) rfl (kn 0 rfl) rfl rfl) .nil) (fun w1 hs1 => ?_)
         (have e1 := g_6 hnf (s := s) ‹k ≠ 1› ‹k ≠ 2› ‹k ≠ 5› ‹k = 6›
          refine .inl ⟨by rw [e1]; exact hok, ⟨.mk ya yb yc yd ybits ypb yitems ypi ypick, yL, yok, by rw [e1]; exact yer⟩, rfl, hs1.weakL (.cons _ (.cons _ (List.Sublist.refl _)))⟩)
         · try simp only [ZZ] at h29
           refine sR fun _ hK31 => LS 2 [] rfl rfl (nK hK31 ?_); refine Jc rfl (fun h32 => ?_) (fun h32 => ?_)
           · try simp only [ZZ] at h32
             refine sR fun _ hK33 => Ji rfl (LR rfl (Zj rfl rfl) ?_); refine KQ rfl rfl rfl ZB (VF (_) 2) (fun q hq => nomatch hq) (fun hok _ => ?_) (fun v hv => Ql rfl rfl (Ww (by rw [Jyn hnf ‹k ≠ 1› ‹k ≠ 2› ‹k ≠ 5› ‹k ≠ 6› ‹k = 8› (of_decide_eq_true (Z8.mp hv.1))]) (by decide) hv)); refine nK hK33 (sQ fun _ hK34 => ?_)
             have hsne : s ≠ [] := of_decide_eq_false (Z7.mp hok)
             have hpos : 0 < s.length := List.length_pos_iff.2 hsne
             refine Ja (Ji rfl (LR rfl (Wq (j := 0) rfl rfl rfl rfl (by omega) rfl) ?_)); refine JZ rfl ?_; refine Jy (show _ = Value.int .i64 (((s.getD 0 0).toNat : Nat)) from congrArg (Value.int .i64) (wrap_i64 (by omega) (by have := Vu (s.getD 0 0); omega))) ?_; refine Ji rfl (nK hK34 ?_); refine sR fun _ hK35 => Ji rfl ?_
             refine LS 2 [1] rfl rfl ?_; refine LR rfl (J3 rfl hs rfl) ?_; refine JZ rfl ?_; refine KQ rfl rfl rfl ZB (VF (_) 9) (fun q hq => nomatch hq) (fun hok _ => ?_) (fun v hv => Ql rfl rfl (Ww (by rw [Jyo hnf ‹k ≠ 1› ‹k ≠ 2› ‹k ≠ 5› ‹k ≠ 6› ‹k = 8› hsne (by have := Z2.1 hv.1; omega)]) (by decide) hv)); refine nK hK35 (sQ fun _ hK36 => ?_)
             obtain ⟨x, hx⟩ : ∃ x, ins[(s.getD 0 0).toNat]? = some x := ⟨_, List.getElem?_eq_getElem (by have := Z1.mp hok; omega)⟩
             have hxm := List.mem_of_getElem? hx
             have ihx := ih x hxm (hsub x hxm) (s.drop 1) (by rw [List.length_drop]; omega)
             by_cases hgo : (KK x (s.drop 1)).2 = 0 ∧ Nonempty (VR (KK x (s.drop 1)).1)
             rotate_left
             have hlt : (s.getD 0 0).toNat < ins.length := (List.getElem?_eq_some_iff.1 hx).1
             have hbadx : ∀ {v : Value}, (KK x (s.drop 1)).2 ≠ 0 ∧ v = zk (KK x (s.drop 1)).2 → (KK (.mk k n p ins) s).2 ≠ 0 ∧ v = zk (KK (.mk k n p ins) s).2 := fun hv => by rw [g_8 hnf ‹k ≠ 1› ‹k ≠ 2› ‹k ≠ 5› ‹k ≠ 6› ‹k = 8› hsne hx, if_pos hv.1]; exact hv
             exact Jhk [(0, .int .i64 ((s.getD 0 0).toNat : Int)), (1, .pointer (some ⟨r1, 2, none⟩)), (2, KM ins.length p), (3, .int .i64 ((s.getD 0 0).toNat : Int)), (4, .pointer (some ⟨plB p, XS p + (s.getD 0 0).toNat * 3, none⟩)), (5, x.val), (6, J2 s), (7, J2 (s.drop 1))] 8 (by kernel_rfl) rfl (by kernel_rfl) rfl (.cons rfl rfl (Jo rfl) <| .cons rfl rfl (JO rfl rfl rfl) <| .cons rfl rfl (Jm rfl (kn 1 rfl) rfl rfl) <| .cons rfl rfl (Jo rfl) <| .cons rfl rfl (Jp (j := (s.getD 0 0).toNat) rfl hs rfl rfl rfl rfl hlt) <| .cons rfl rfl (KV (fun q hq => Or.inr hq) rfl hs hx rfl rfl) <| .cons rfl rfl (Jo rfl) <| .cons rfl rfl (V8 (kl := some (.i64, 1)) (kh := none) (m := 1) (n := s.length) rfl rfl rfl rfl rfl rfl (by omega) (by omega) (show _ = s.drop 1 from by rw [List.take_length])) .nil) rfl rfl (wT rfl Jlf ihx (fun h y => hgo ⟨h, ⟨y⟩⟩) (fun q hq => Or.inr hq) (fun v hv => Ql rfl rfl (hbadx hv)))
             obtain ⟨hg0, ⟨x0⟩⟩ := hgo
             have hlt : (s.getD 0 0).toNat < ins.length := (List.getElem?_eq_some_iff.1 hx).1
             refine JS [VK r1 (.mk k n p ins)] [(0, .pure), (1, .pure), (2, .pure), (3, .pure), (4, .pure), (5, .pure), (6, .pure), (7, .pure), (8, .grow (Qt x0 (fun y => y.x.val) (fun y => y.L))), (9, .turn)] 10 [0, 1, 2, 3, 4, 5, 6, 7, 8, 9] (by kernel_rfl) (by kernel_rfl) (fun q hq => List.mem_cons_of_mem _ hq) ?_; refine Jw (k := 0) rfl rfl rfl rfl rfl (fun _ hS => (Jo rfl)) ?_
             refine Jw (k := 1) rfl rfl rfl rfl rfl (fun _ hS => (JL rfl rfl rfl)) ?_; refine Jw (k := 2) rfl rfl rfl rfl rfl (fun _ hS => (Jm rfl (.inl (hS _ (Ky (n := 0) rfl))) rfl rfl)) ?_; refine Jw (k := 3) rfl rfl rfl rfl rfl (fun _ hS => (Jo rfl)) ?_; refine Jw (k := 4) rfl rfl rfl rfl rfl (fun _ _ => Jp (j := (s.getD 0 0).toNat) rfl hs rfl rfl rfl rfl hlt) ?_; refine Jw (k := 5) rfl rfl rfl rfl rfl (fun _ _ => KV (fun q hq => Or.inr hq) rfl hs hx rfl rfl) ?_; refine Jw (k := 6) rfl rfl rfl rfl rfl (fun _ hS => (Jo rfl)) ?_; refine Jw (k := 7) rfl rfl rfl rfl rfl (fun _ _ => V8 (kl := some (.i64, 1)) (kh := none) (m := 1) (n := s.length) rfl rfl rfl rfl rfl rfl (by omega) (by omega) (show _ = s.drop 1 from by rw [List.take_length])) ?_; refine KZ (k := 8) rfl rfl rfl rfl rfl Jlf (ihx.toT (fun v hv => hv.1 hg0)) (fun q hq => Or.inr hq) fun y => ?_; obtain ⟨⟨ya, yb, yc, yd, ybits, ypb, yitems, ypi, ypick⟩, yL, yok, yer⟩ := y; refine Zc (k := 9) (n := 1) (sz := 7) (vs := [_]) (zs := [_, _, _, _, _, _, _]) (r := [_, _, _, _, _, _, _]) rfl rfl rfl rfl (fun q hq => List.mem_append_right _ (List.mem_cons_of_mem _ hq)) rfl rfl rfl rfl rfl rfl rfl (by rw [Kw]; exact rfl) rfl fun rv => ?_; refine KC ?_; refine KH (List.Perm.cons _ List.perm_append_comm) ?_; refine LR rfl (JI (r := [_, _, _, _, _, _, _]) rfl rfl) ?_
             refine LT 1 rfl rfl (nK hK36 ?_); refine Jb (Jn (Jd ?_)); refine Jv rfl rfl (.cons (J6 (vs := [_, _, _, _, _, _, _]) rfl (kn 1 rfl) rfl rfl) .nil) (fun w1 hs1 => ?_)
             (have e1 := g_8 hnf (s := s) ‹k ≠ 1› ‹k ≠ 2› ‹k ≠ 5› ‹k ≠ 6› ‹k = 8› hsne hx
              rw [if_neg (by rw [hg0]; decide)] at e1
              refine .inl ⟨by rw [e1], ⟨.mk 0 0 0 0 [] none [.mk ya yb yc yd ybits ypb yitems ypi ypick] (some (⟨rv, 0, none⟩, 1)) ((s.getD 0 0).toNat : Int), [(rv, _)] ++ yL, jF (by simp) ⟨Nat.le_refl _, fun _ => ⟨rfl, _, _, _, List.mem_singleton_self _, rfl⟩⟩ (fun z hz => by rw [List.mem_singleton.1 hz]; exact yok) (by have := Vu (s.getD 0 0); unfold jP; omega), by rw [e1, Qc, Yi, Yi, yer]; rfl⟩, rfl, hs1.weakL ((List.cons_sublist_cons).2 (.cons _ (.cons _ (List.Sublist.refl _))))⟩)
           · try simp only [ZZ] at h32
             refine Jf (Jj (hK8 ?_)); refine sR fun _ hK37 => ?_; refine LN rfl fun r3 => ?_; refine nK hK37 (sQ fun _ hK38 => ?_); refine sQ fun _ hK39 => ?_
             have hk3 : k = 3 ∨ k = 4 ∨ k = 7 := by have h1 : k ≠ 1 := ‹_›; have h2 : k ≠ 2 := ‹_›; have h5 : k ≠ 5 := ‹_›; have h6 : k ≠ 6 := ‹_›; have h8 : k ≠ 8 := ‹_›; omega
             have hmX := wG (s := s) hk8 ho hk3
             have hgr := (g_r (s := s) hnf ‹k ≠ 1› ‹k ≠ 2› ‹k ≠ 5› ‹k ≠ 6› ‹k ≠ 8›).trans (Jse hmX)
             have hpp := Jof (s := s) ht hc hk3 hl
             refine Ja (LS 2 [2] rfl rfl ?_); refine KQ rfl rfl rfl (enters_of Tryz.func147 (by kernel_rfl) rfl) hpp (fun q hq => Or.inr hq) (fun hp0 x => ?_) (fun v hv => Ql rfl rfl (by rw [hgr, if_pos hv.1]; exact hv))
             obtain ⟨prow, hprow⟩ := x
             refine KH List.perm_append_comm ?_
             have hsg := Qg (e := 162) hprow (by decide)
             have hmm0 : (JW k n ins s).2 = 0 := Decidable.byContradiction fun hm => hm (by rw [← jD hm]; exact hp0)
             have hPl : (YD k n ins s).length ≤ 512 := by unfold YD; rw [qm, Xu]; exact (vw hk8 ho hk3 hmm0).1
             refine LR rfl (J3 rfl hsg rfl) ?_; refine Ji rfl (nK hK39 ?_); refine Ju ?_; rw [if_neg (by rw [hp0]; decide)] at hgr; refine JG (σ := Nat × List Vl × Vz × Jr) (fun q => q.1 = q.2.1.length ∧ q.1 ≤ (YD k n ins s).length ∧ rowOk 7 q.1 (Qj q.2.1) q.2.2.1 ∧ (∀ x ∈ q.2.1, Vl.In q.2.2.2 x) ∧ VA (((YD k n ins s).take q.1).map (gq s)) = (q.2.1.map WN, 0)) (fun q => [(1, J2 s), (2, V9 r1), (4, V9 r2), (9, V9 r3), (96, KM (YD k n ins s).length (Vo prow)), (97, .int .i64 ((YD k n ins s).length : Int)), (98, .int .i64 (q.1 : Int))]) (fun q => (r3, .cells #[.int .u64 0, .int .u64 0, .int .u64 0, .int .u64 0, .slice none 0 0, JF q.1 q.2.2.1, .int .i64 0] 81 (0, 0)) :: WO r2 v0L :: VK r1 (.mk k n p ins) :: (JY 81 (Qj q.2.1) q.2.2.1 ++ (JY 162 (Xx (YD k n ins s)) prow ++ q.2.2.2))) (fun _ _ _ => True) (fun q => (YD k n ins s).length - q.1) (0, [], none, []) ⟨rfl, Nat.zero_le _, ⟨rfl, rfl⟩, fun x hx => (nomatch hx), rfl⟩ (.cons rfl (.cons rfl (.cons rfl (.cons rfl (.cons rfl (.cons rfl (.cons rfl .nil))))))) (by simp only [JY, List.nil_append, List.append_nil]; exact List.Sublist.refl _) (fun _ _ h => h) ?_; rintro ⟨i, vs, row, E⟩ ⟨hvl, him, hrow, hin, hrun⟩; simp only at hvl him hrow hin hrun; refine sR fun _ hK40 => JZ rfl (nK hK40 ?_); refine sQ fun _ hK41 => ?_; refine Jc rfl (fun h42 => ?_) (fun h42 => ?_)
             · try simp only [ZZ] at h42
               refine Jf (hK41 ?_); refine sB fun _ hK43 => sQ fun _ hK44 => ?_
               obtain ⟨⟨x, f, f2⟩, hq⟩ : ∃ q, (YD k n ins s)[i]? = some q := ⟨_, List.getElem?_eq_getElem (by omega)⟩
               obtain ⟨hmm, hft, htl⟩ := Jxd hp0 (List.mem_of_getElem? hq)
               have hxm := Jvq (hmX hmm) hq
               simp only at hft htl hxm
               have ihx := ih x hxm (hsub x hxm) ((s.take f2).drop f) (by rw [List.length_drop, List.length_take]; omega)
               obtain ⟨xk, xn, xp, xi⟩ := x
               refine Ja ?_
               refine LR rfl (Jp (j := i) rfl hsg rfl rfl rfl (by first | rfl | omega) (by omega)) ?_; refine LR rfl (WZ (vs := prC (.mk xk xn xp xi, f, f2)) (fun q hq => Or.inl (List.mem_cons_of_mem _ (List.mem_cons_of_mem _ (List.mem_cons_of_mem _ (List.mem_append_right _ (List.mem_append_left _ hq)))))) rfl hsg (by omega) rfl rfl (X9 Zy hq) (Zy _)) ?_; refine LN rfl fun r4 => ?_
               refine LT 0 rfl rfl (nK hK44 ?_)
               by_cases hgo : (KK (.mk xk xn xp xi) ((s.take f2).drop f)).2 = 0 ∧ Nonempty (VR (KK (.mk xk xn xp xi) ((s.take f2).drop f)).1)
               rotate_left
               have hbadx : ∀ {v : Value}, (KK (.mk xk xn xp xi) ((s.take f2).drop f)).2 ≠ 0 ∧ v = zk (KK (.mk xk xn xp xi) ((s.take f2).drop f)).2 → (KK (.mk k n p ins) s).2 ≠ 0 ∧ v = zk (KK (.mk k n p ins) s).2 := fun hv => by
                 have e1 : (YD k n ins s).map (gq s) = ((YD k n ins s).take i).map (gq s) ++ gq s (.mk xk xn xp xi, f, f2) :: ((YD k n ins s).drop (i + 1)).map (gq s) := by
                   rw [← List.map_cons, ← KL hq, ← List.map_append, List.take_append_drop]
                 have e2 := Jde (r := ((YD k n ins s).drop (i + 1)).map (gq s)) (f := KK (.mk xk xn xp xi)) (s := (s.take f2).drop f) hrun hv.1
                 have e3 : (VA ((YD k n ins s).map (gq s))).2 = (KK (.mk xk xn xp xi) ((s.take f2).drop f)).2 := by rw [e1]; exact e2
                 rw [hgr, if_pos (by rw [e3]; exact hv.1)]; exact ⟨by rw [e3]; exact hv.1, by rw [e3]; exact hv.2⟩
               exact Jhk [(0, .pointer (some ⟨r3, 5, none⟩)), (1, JF i row), (2, .pointer (some ⟨r4, 0, none⟩)), (3, Ty.val (.mk xk xn xp xi)), (4, J2 s), (5, .pointer (some ⟨r4, 3, none⟩)), (6, .int .i64 (f : Int)), (7, .pointer (some ⟨r4, 4, none⟩)), (8, .int .i64 (f2 : Int)), (9, J2 ((s.take f2).drop f))] 10 (by kernel_rfl) rfl (by kernel_rfl) rfl (.cons rfl rfl (JO rfl rfl rfl) <| .cons rfl rfl (Jm rfl (kn 1 rfl) rfl rfl) <| .cons rfl rfl (JO rfl rfl rfl) <| .cons rfl rfl (Jx (vs := [_, _, _]) rfl (kn 0 rfl) rfl rfl rfl rfl) <| .cons rfl rfl (Jo rfl) <| .cons rfl rfl (JO rfl rfl rfl) <| .cons rfl rfl (Jm rfl (kn 0 rfl) rfl rfl) <| .cons rfl rfl (JO rfl rfl rfl) <| .cons rfl rfl (Jm rfl (kn 0 rfl) rfl rfl) <| .cons rfl rfl (V8 (kl := some (.i64, (f : Int))) (kh := some (.i64, (f2 : Int))) (m := f) (n := f2) rfl rfl rfl rfl rfl rfl hft htl rfl) .nil) rfl rfl (wT rfl Jlf ihx (fun h y => hgo ⟨h, ⟨y⟩⟩) (fun q hq => Or.inr hq) (fun v hv => Ql rfl rfl (hbadx hv)))
               obtain ⟨hg0, ⟨x0⟩⟩ := hgo
               refine JS [(r3, .cells #[.int .u64 0, .int .u64 0, .int .u64 0, .int .u64 0, .slice none 0 0, JF i row, .int .i64 0] 81 (0, 0)), (r4, .cells (prC (.mk xk xn xp xi, f, f2)).toArray 162 (0, 0))] [(0, .pure), (1, .pure), (2, .pure), (3, .pure), (4, .pure), (5, .pure), (6, .pure), (7, .pure), (8, .pure), (9, .pure), (10, .grow (Qt x0 (fun y => y.x.val) (fun y => y.L))), (11, .turn)] 12 [0, 1, 2, 3, 4, 5, 6, 7, 8, 9, 10, 11] (by kernel_rfl) (by kernel_rfl) (fun q hq => by rcases List.mem_cons.1 hq with rfl | hq; exact List.mem_cons_of_mem _ List.mem_cons_self; rw [List.mem_singleton.1 hq]; exact List.mem_cons_self) ?_
               refine Jw (k := 0) rfl rfl rfl rfl rfl (fun _ hS => (JL rfl rfl rfl)) ?_; refine Jw (k := 1) rfl rfl rfl rfl rfl (fun _ hS => (Jm rfl (.inl (hS _ (Ky (n := 0) rfl))) rfl rfl)) ?_
               refine Jw (k := 2) rfl rfl rfl rfl rfl (fun _ hS => (JL rfl rfl rfl)) ?_; refine Jw (k := 3) rfl rfl rfl rfl rfl (fun _ hS => (Jx (vs := [_, _, _]) rfl (.inl (hS _ (Ky (n := 1) rfl))) rfl rfl rfl rfl)) ?_; refine Jw (k := 4) rfl rfl rfl rfl rfl (fun _ hS => (Jo rfl)) ?_
               refine Jw (k := 5) rfl rfl rfl rfl rfl (fun _ hS => (JL rfl rfl rfl)) ?_; refine Jw (k := 6) rfl rfl rfl rfl rfl (fun _ hS => (Jm rfl (.inl (hS _ (Ky (n := 1) rfl))) rfl rfl)) ?_
               refine Jw (k := 7) rfl rfl rfl rfl rfl (fun _ hS => (JL rfl rfl rfl)) ?_; refine Jw (k := 8) rfl rfl rfl rfl rfl (fun _ hS => (Jm rfl (.inl (hS _ (Ky (n := 1) rfl))) rfl rfl)) ?_; refine Jw (k := 9) rfl rfl rfl rfl rfl (fun _ _ => V8 (kl := some (.i64, (f : Int))) (kh := some (.i64, (f2 : Int))) (m := f) (n := f2) rfl rfl rfl rfl rfl rfl hft htl rfl) ?_; refine KZ (k := 10) rfl rfl rfl rfl rfl Jlf (ihx.toT (fun v hv => hv.1 hg0)) (fun q hq => Or.inr hq) fun y => ?_; obtain ⟨⟨ya, yb, yc, yd, ybits, ypb, yitems, ypi, ypick⟩, yL, yok, yer⟩ := y
               refine Zc (k := 11) (n := 1) (sz := 7) (vs := [_]) (zs := [_, _, _, _, _, _, _]) (r := [_, _, _, _, _, _, _]) rfl rfl rfl rfl (fun q hq => List.mem_append_right _ (by rcases List.mem_cons.1 hq with rfl | hq; exact List.mem_cons_of_mem _ List.mem_cons_self; rw [List.mem_singleton.1 hq]; exact List.mem_cons_self)) rfl rfl rfl rfl rfl rfl rfl (by rw [Kw]; exact rfl) rfl fun rv => ?_; refine KC ?_; refine KH (Jvn ..) ?_; refine Km (L0 := _ :: _ :: _ :: _ :: _ :: (yL ++ (JY 162 (Xx (YD k n ins s)) prow ++ E))) (xs := Qj vs) (row := row) (n := i) (sz := 7) (b := 88) (news := [_, _, _, _, _, _, _]) (List.Perm.refl _) rfl rfl rfl rfl (kn 0 rfl) rfl rfl rfl rfl rfl (by decide) rfl rfl rfl (by decide) hrow (by omega) (by omega) fun ra cap sp hra => ?_
               refine LS 1 [] rfl rfl ?_; refine Kz (k := 3) (cs' := #[.int .u64 0, .int .u64 0, .int .u64 0, .int .u64 0, .slice none 0 0, JF (i + 1) (some (ra, cap, sp)), .int .i64 0]) rfl rfl rfl rfl rfl rfl rfl rfl rfl rfl ?_; refine Jg (Jj (hK43 ?_)); refine Ja ?_
               refine JZ rfl ?_; refine Jy (show _ = Value.int .i64 ((i + 1 : Nat) : Int) from by rw [wrap_i64 (by omega) (by omega)]; congr 1 <;> omega) ?_; refine Ji rfl (Jg (J5 ?_))
               have hsn : ((YD k n ins s).take (i + 1)).map (gq s) = ((YD k n ins s).take i).map (gq s) ++ [gq s (.mk xk xn xp xi, f, f2)] := by rw [Ks hq, List.map_append]; rfl
               have hgy : KK (.mk xk xn xp xi) ((s.take f2).drop f) = (WN (.mk ya yb yc yd ybits ypb yitems ypi ypick), 0) := Prod.ext yer.symm hg0
               have hvc : Qj vs ++ Vl.cells (.mk ya yb yc yd ybits ypb yitems ypi ypick) = Qj (vs ++ [.mk ya yb yc yd ybits ypb yitems ypi ypick]) := by unfold Qj; rw [List.flatMap_append]; simp
               refine Xy (Jvo ..) ?_
               exact J1 (i + 1, vs ++ [.mk ya yb yc yd ybits ypb yitems ypi ypick], some (ra, cap, sp), yL ++ E) ⟨by simp only [List.length_append, List.length_singleton]; omega, by simp only; omega, by simp only; rw [← hvc]; exact hra, fun z hz => by rcases List.mem_append.1 hz with hz | hz; exact (hin z hz).mono (fun q hq => List.mem_append_right _ hq); rw [List.mem_singleton.1 hz]; exact yok.mono (fun q hq => List.mem_append_left _ hq), by simp only; rw [hsn, List.map_append]; exact zn hrun hgy⟩ (by simp only; omega) (.cons rfl (.cons rfl (.cons rfl (.cons rfl (.cons rfl (.cons rfl (.cons rfl .nil))))))) (by simp only; rw [← hvc]; exact .cons _ (.cons _ (List.Sublist.refl _))) (fun _ _ h => h)
             · try simp only [ZZ] at h42
               refine JE (Jl ?_); refine Jl (J0 (hK38 ?_)); refine sQ fun _ hK45 => ?_
               have honeV : ([.int .u64 0, .int .u64 0, .int .u64 0, .int .u64 0, .slice none 0 0, JF i row, .int .i64 0] : List Value).all QR = true := by cases row <;> rfl
               refine Ja (LR rfl (Jq (xs := [.int .u64 0, .int .u64 0, .int .u64 0, .int .u64 0, .slice none 0 0, JF i row, .int .i64 0]) (n := 7) rfl (kn 0 rfl) rfl rfl rfl) (Jz (k := 1) (n := 7) (ys := [.int .u64 0, .int .u64 0, .int .u64 0, .int .u64 0, .slice none 0 0, JF i row, .int .i64 0]) rfl rfl rfl rfl rfl rfl rfl honeV rfl ?_)); refine nK hK45 (Jb ?_); refine Jv rfl rfl (.cons (J6 (vs := [_, _, _, _, _, _, _]) rfl (kn 1 rfl) rfl rfl) .nil) (fun w1 hs1 => ?_)
               (have e1 := hgr
                have hiM : i = (YD k n ins s).length := by omega
                rw [hiM, List.take_length] at hrun; rw [hrun, if_neg (by simp)] at e1; rw [hiM] at hvl hrow; rw [hvl] at hrow
                have hvr : JF i row = KM vs.length (Vo row) := by rw [hiM, hvl]; exact (We _ _ (fun h => by rw [h] at hrow; exact hrow.1)).symm
                refine .inl ⟨by rw [e1], ⟨.mk 0 0 0 0 [] none vs (Vo row) 0, JY 81 (Qj vs) row ++ E, jF (by omega) (Qg hrow (by decide)) hin i0, by rw [e1, Qc, Wh]; rfl⟩, congrArg (fun z => Ending.returned (Value.agg #[.int .u64 0, .int .u64 0, .int .u64 0, .int .u64 0, .slice none 0 0, z, .int .i64 0])) hvr, hs1.weakL (.cons _ (.cons _ (.cons _ ((List.Sublist.refl _).append (List.sublist_append_right _ _)))))⟩)
   skip)
mutual
def Xf : Ty → Ty
  | .mk k n _ ins => .mk k n none (VG ins)
def VG : List Ty → List Ty
  | [] => []
  | x :: xs => Xf x :: VG xs
end
theorem wU : ∀ l : List Ty, VG l = l.map Xf
  | [] => by rw [VG]; rfl
  | x :: xs => by rw [VG, wU xs]; rfl
theorem Zd (l : List Ty) : (VG l).length = l.length := by rw [wU, List.length_map]
structure TR (t : Ty) : Type where
  x : Ty
  L : Jr
  ok : x.In L
  er : Xf x = t
def byT : Ty := .mk 1 1 none []
def WL (k n : Int) : Ty := .mk k n none [byT]
def qr : Ty := .mk 7 0 none [WL 3 32, WL 3 32]
def acT : Ty := .mk 7 0 none [WL 3 20, .mk 1 8 none [], .mk 1 32 none [], WL 4 512, .mk 4 16 none [qr]]
def QS : Ty := .mk 4 32 none [acT]
theorem Jog {k n : Int} (hk : jP k) (hn : jP n) : PureT (α := Nat) Tryz.prog 78 [.int .i64 k, .int .i64 n].toArray (fun r => .agg #[.int .i64 k, .int .i64 n, .slice (some ⟨r, 0, none⟩) 1 1]) [] (fun r => [(r, .cells #[.int .i64 1, .int .i64 1, .slice none 0 0] 76 (0, 0))]) [] := by
  refine JH Tryz.func78 rfl rfl fun w => ?_; refine sR fun _ hK1 => ?_; refine LN rfl fun r1 => ?_; refine nK hK1 (sR fun _ hK2 => ?_); refine LS 2 [] rfl rfl ?_; refine LR rfl (JI (r := [_, _, _]) rfl rfl) ?_; refine Kh (vs := [_]) (zs := [_, _, _]) (r := [_, _, _]) rfl rfl rfl rfl rfl rfl rfl rfl rfl (by rw [Kw]; exact rfl) rfl fun r2 => ?_; refine LR rfl (JI (r := [_, _, _]) rfl rfl) ?_
  refine LT 1 rfl rfl (nK hK2 ?_); refine Jb ?_; refine Jv rfl rfl (.cons (J6 (vs := [_, _, _]) rfl (kn 1 rfl) rfl rfl) .nil) (fun w1 hs1 => ?_); exact ⟨r2, rfl, hs1.weakL ((List.cons_sublist_cons).2 (List.nil_sublist _))⟩
abbrev Jjr (e : Nat) : Obj := .cells #[.int .i64 1, .int .i64 1, .slice none 0 0] e (0, 0)
def Jjs (k n : Int) (x : Nat) : Ty := .mk k n (some (⟨x, 0, none⟩, 1)) [byT]
def Jxf (x y r : Nat) : Ty := .mk 7 0 (some (⟨r, 0, none⟩, 2)) [Jjs 3 32 x, Jjs 3 32 y]
def acX (x y x2 x3 r s a : Nat) : Ty := .mk 7 0 (some (⟨a, 0, none⟩, 5)) [Jjs 3 20 x2, .mk 1 8 none [], .mk 1 32 none [], Jjs 4 512 x3, .mk 4 16 (some (⟨s, 0, none⟩, 1)) [Jxf x y r]]
def Joh (x y x2 x3 r s a z : Nat) : Ty := .mk 4 32 (some (⟨z, 0, none⟩, 1)) [acX x y x2 x3 r s a]
theorem Jdf {R : Jr} {k n : Int} {ins : List Ty} {r m e : Nat} {all : Array Value} (hk : jP k) (hn : jP n) (hm : (r, Obj.cells all e (0, 0)) ∈ R) (ha : all.toList = zR ins) (hl : ins.length = m) (hl2 : m ≤ 100) (hi : ∀ x ∈ ins, x.In R) : Ty.In R (.mk k n (some (⟨r, 0, none⟩, m)) ins) :=
  .mk hk hn (by omega) ⟨Nat.le_of_eq hl, fun _ => ⟨rfl, all, e, (0, 0), hm, by rw [List.drop_zero, ha, List.take_length]⟩⟩ hi
theorem Jae {R : Jr} {k n : Int} (hk : jP k) (hn : jP n) : Ty.In R (.mk k n none []) := .mk hk hn (by decide) rfl (fun x hx => nomatch hx)
theorem vz {R : Jr} {k n : Int} {x e : Nat} (hk : jP k) (hn : jP n) (h : (x, Jjr e) ∈ R) : (Jjs k n x).In R :=
  Jdf hk hn h rfl rfl (by decide) fun y hy => by rw [List.mem_singleton.1 hy]; exact Jae (by unfold jP; omega) (by unfold jP; omega)
theorem Yk {n : Int} (h0 : 0 ≤ n) (h : n ≤ 1000) : jP n := by unfold jP; omega
theorem Jhr {R : Jr} {x y x2 x3 r s a z e : Nat} (h1 : (x, Jjr e) ∈ R) (h2 : (y, Jjr e) ∈ R) (h3 : (x2, Jjr e) ∈ R) (h4 : (x3, Jjr e) ∈ R) (h5 : (r, Obj.cells #[.int .i64 3, .int .i64 32, .slice (some ⟨x, 0, none⟩) 1 1, .int .i64 3, .int .i64 32, .slice (some ⟨y, 0, none⟩) 1 1] e (0, 0)) ∈ R)
    (h6 : (s, Obj.cells #[.int .i64 7, .int .i64 0, .slice (some ⟨r, 0, none⟩) 2 2] e (0, 0)) ∈ R)
    (h7 : (a, Obj.cells #[.int .i64 3, .int .i64 20, .slice (some ⟨x2, 0, none⟩) 1 1, .int .i64 1, .int .i64 8, .slice none 0 0, .int .i64 1, .int .i64 32, .slice none 0 0, .int .i64 4, .int .i64 512, .slice (some ⟨x3, 0, none⟩) 1 1, .int .i64 4, .int .i64 16, .slice (some ⟨s, 0, none⟩) 1 1] e (0, 0)) ∈ R)
    (h8 : (z, Obj.cells #[.int .i64 7, .int .i64 0, .slice (some ⟨a, 0, none⟩) 5 5] e (0, 0)) ∈ R) : (Joh x y x2 x3 r s a z).In R := by
  refine Jdf (Yk (by decide) (by decide)) (Yk (by decide) (by decide)) h8 rfl rfl (by decide) fun q hq => ?_; rw [List.mem_singleton.1 hq]; refine Jdf (Yk (by decide) (by decide)) (Yk (by decide) (by decide)) h7 rfl rfl (by decide) fun q hq => ?_; simp only [List.mem_cons, List.not_mem_nil, or_false] at hq
  rcases hq with rfl | rfl | rfl | rfl | rfl
  · exact vz (Yk (by decide) (by decide)) (Yk (by decide) (by decide)) h3
  · exact Jae (Yk (by decide) (by decide)) (Yk (by decide) (by decide))
  · exact Jae (Yk (by decide) (by decide)) (Yk (by decide) (by decide))
  · exact vz (Yk (by decide) (by decide)) (Yk (by decide) (by decide)) h4
  · refine Jdf (Yk (by decide) (by decide)) (Yk (by decide) (by decide)) h6 rfl rfl (by decide) fun q hq => ?_
    rw [List.mem_singleton.1 hq]; refine Jdf (Yk (by decide) (by decide)) (Yk (by decide) (by decide)) h5 rfl rfl (by decide) fun q hq => ?_; simp only [List.mem_cons, List.not_mem_nil, or_false] at hq
    rcases hq with rfl | rfl
    · exact vz (Yk (by decide) (by decide)) (Yk (by decide) (by decide)) h1
    · exact vz (Yk (by decide) (by decide)) (Yk (by decide) (by decide)) h2
theorem Jhs (x y x2 x3 r s a z : Nat) : Xf (Joh x y x2 x3 r s a z) = QS := by
  simp only [Joh, acX, Jxf, Jjs, byT, Xf, VG, QS, acT, qr, WL]
theorem Jaf : PureT (α := TR QS) Tryz.prog 53 #[] (fun y => y.x.val) [] (fun y => y.L) [] := by
  refine JH Tryz.func53 rfl rfl fun w => ?_; refine sR fun _ hK1 => ?_; refine LN rfl fun r1 => ?_; refine nK hK1 (sR fun _ hK2 => ?_); refine Qr rfl rfl rfl Jus (Jog (by unfold jP; omega) (by unfold jP; omega)) (fun q hq => nomatch hq) fun x1 => ?_; refine LN rfl fun r2 => ?_
  refine LT 0 rfl rfl (nK hK2 ?_); refine sR fun _ hK3 => LS 2 [0, 0] rfl rfl ?_; refine Kh (vs := [_, _]) (zs := [_, _, _, _, _, _]) (r := [_, _, _, _, _, _]) rfl rfl rfl rfl rfl rfl rfl rfl rfl (by rw [Kw]; exact rfl) rfl fun r3 => ?_; refine LR rfl (JI (r := [_, _, _]) rfl rfl) ?_; refine LN rfl fun r4 => ?_
  refine LT 0 rfl rfl (nK hK3 ?_); refine sQ fun _ hK4 => ?_
  refine JS [(r4, .cells #[.int .i64 7, .int .i64 0, .slice (some ⟨r3, 0, none⟩) 2 2] 76 (0, 0))] [(0, .grow (Qt 0 (fun r => .agg #[.int .i64 3, .int .i64 20, .slice (some ⟨r, 0, none⟩) 1 1]) (fun r => [(r, .cells #[.int .i64 1, .int .i64 1, .slice none 0 0] 76 (0, 0))]))), (1, .pure), (2, .pure), (3, .grow (Qt 0 (fun r => .agg #[.int .i64 4, .int .i64 512, .slice (some ⟨r, 0, none⟩) 1 1]) (fun r => [(r, .cells #[.int .i64 1, .int .i64 1, .slice none 0 0] 76 (0, 0))]))), (4, .pure), (5, .grow (Wc (slV 1) (.cells #[.int .i64 7, .int .i64 0, .slice (some ⟨r3, 0, none⟩) 2 2] 76 (0, 0)))), (6, .pure), (7, .dep [9, 10, 11, 12, 15] (Jbk 5 76)), (8, .pure), (9, .grow (Wc zJ (.cells #[.int .i64 0, .int .i64 0, .slice none 0 0] 76 (0, 0))))] 10 [1, 2, 4, 5, 6, 0, 3, 7, 8, 9] (by kernel_rfl) (by kernel_rfl) (by first | exact (fun _ h => absurd h List.not_mem_nil) | simp [SubS] | (intro p hp; simp [hp])) ?_; refine Jw (k := 1) rfl rfl rfl rfl rfl (fun _ hS => (JI (r := [_, _, _]) rfl rfl)) ?_; refine Jw (k := 2) rfl rfl rfl rfl rfl (fun _ hS => (JI (r := [_, _, _]) rfl rfl)) ?_; refine Jw (k := 4) rfl rfl rfl rfl rfl (fun _ hS => (Jx (vs := [_, _, _]) rfl (.inl (hS _ (Ky (n := 0) rfl))) rfl rfl rfl rfl)) ?_; refine VN (k := 5) (n := 1) (sz := 3) (vs := [_]) (zs := [_, _, _]) (r := [.int .i64 7, .int .i64 0, .slice (some ⟨r3, 0, none⟩) 2 2]) rfl rfl rfl rfl rfl rfl rfl rfl rfl rfl rfl (by rw [Kw]; exact rfl) rfl fun s1 => ?_; refine Jw (k := 6) rfl rfl rfl rfl rfl (fun _ hS => (JI (r := [_, _, _]) rfl rfl)) ?_; refine KZ (k := 0) rfl rfl rfl rfl rfl Jus (Jog (by unfold jP; omega) (by unfold jP; omega)) (fun q hq => nomatch hq) fun x2 => ?_; refine KZ (k := 3) rfl rfl rfl rfl rfl Jus (Jog (by unfold jP; omega) (by unfold jP; omega)) (fun q hq => nomatch hq) fun x3 => ?_; refine V2 (k := 7) (dv := [_, _, _, _, _]) (n := 5) (sz := 3) (vs := [_, _, _, _, _]) (zs := [_, _, _, _, _, _, _, _, _, _, _, _, _, _, _]) (r := [.int .i64 3, .int .i64 20, .slice (some ⟨x2, 0, none⟩) 1 1, .int .i64 1, .int .i64 8, .slice none 0 0, .int .i64 1, .int .i64 32, .slice none 0 0, .int .i64 4, .int .i64 512, .slice (some ⟨x3, 0, none⟩) 1 1, .int .i64 4, .int .i64 16, .slice (some ⟨s1, 0, none⟩) 1 1]) rfl rfl rfl rfl rfl rfl rfl rfl rfl rfl rfl rfl rfl (by rw [Kw]; exact rfl) rfl fun s2 => ?_; refine Jw (k := 8) rfl rfl rfl rfl rfl (fun _ hS => (JI (r := [_, _, _]) rfl rfl)) ?_; refine Ya (k := 9) (cs := #[_, _, _]) rfl rfl rfl rfl rfl rfl fun r5 => ?_; refine KC ?_
  refine LT 0 rfl rfl (nK hK4 ?_); refine sR fun _ hK5 => ?_; refine LR rfl (Jx (vs := [_, _, _]) rfl (kn 0 rfl) rfl rfl rfl rfl) ?_; refine Kh (vs := [_]) (zs := [_, _, _]) (r := [_, _, _]) rfl rfl rfl rfl rfl rfl rfl rfl rfl (by rw [Kw]; exact rfl) rfl fun r6 => ?_; refine LR rfl (JI (r := [_, _, _]) rfl rfl) ?_
  refine LT 10 rfl rfl (nK hK5 ?_); refine Jb ?_; refine Jv rfl rfl (.cons (J6 (vs := [_, _, _]) rfl (kn 10 rfl) rfl rfl) .nil) (fun w1 hs1 => ?_); exact ⟨⟨Joh x1 x1 x2 x3 r3 s1 s2 r6, _, Jhr (e := 76) (by simp) (by simp) (by simp) (by simp) (by simp) (by simp) (by simp) (by simp), Jhs ..⟩, rfl, hs1⟩
def jG (b : UInt8) : Vl := .mk b.toNat 0 0 0 [] none [] none 0
def wW (s : BS) : Vl := KJ (s.map jG) 0
theorem Jxg (b : UInt8) : (jG b).cells = [uV b.toNat, uV 0, uV 0, uV 0, .slice none 0 0, .slice none 0 0, .int .i64 0] := rfl
theorem Jt0 (b : UInt8) : Vl.In [] (jG b) := .mk (by have := Vu b; unfold X5; omega) u0 u0 u0 (by decide) rfl (by decide) rfl i0 (fun x hx => nomatch hx)
theorem Jt1 (s : BS) (p : Pl) : WN (.mk 0 0 0 0 [] none (s.map jG) p 0) = wW s := by
  rw [Qc, Wh, List.map_map, show (WN ∘ jG) = jG from funext fun b => by show WN (jG b) = jG b; unfold jG; rw [Qc, Yi]]; rfl
theorem Jsg {s : BS} {i : Nat} (h : i < s.length) : Qj ((s.take i).map jG) ++ [uV (s.getD i 0).toNat, uV 0, uV 0, uV 0, .slice none 0 0, .slice none 0 0, .int .i64 0] = Qj ((s.take (i + 1)).map jG) := by
  have h1 : s[i]? = some (s.getD i 0) := by rw [List.getD_eq_getElem?_getD, List.getElem?_eq_getElem h]; rfl
  rw [Ks h1, List.map_append]
  unfold Qj
  rw [List.flatMap_append]; simp [Jxg]
theorem Jag {s : BS} (hl : s.length ≤ 100000) : PureT (α := VR (wW s)) Tryz.prog 79 [J2 s].toArray (fun y => y.x.val) [] (fun y => y.L) [] := by
  refine JH Tryz.func79 rfl rfl fun w => ?_; refine sR fun _ hK1 => ?_; refine LN rfl fun r1 => ?_; refine nK hK1 (sR fun _ hK2 => ?_); refine LN rfl fun r2 => ?_; refine nK hK2 (sQ fun _ hK3 => ?_); refine sR fun _ hK4 => Ji rfl (LR rfl (JT rfl rfl) (Ji rfl ?_)); refine nK hK4 ?_; refine Ju (JG (σ := Nat × Vz) (fun q => q.1 ≤ s.length ∧ rowOk 7 q.1 (Qj ((s.take q.1).map jG)) q.2) (fun q => [(0, J2 s), (2, V9 r1), (3, V9 r2), (6, .int .i64 (s.length : Int)), (7, .int .i64 (q.1 : Int))]) (fun q => (r2, .cells #[.int .u64 0, .int .u64 0, .int .u64 0, .int .u64 0, .slice none 0 0, JF q.1 q.2, .int .i64 0] 81 (0, 0)) :: (r1, .cells #[.int .u64 0, .int .u64 0, .int .u64 0, .int .u64 0, .slice none 0 0, .slice none 0 0, .int .i64 0] 81 (0, 0)) :: JY 81 (Qj ((s.take q.1).map jG)) q.2) (fun _ _ _ => True) (fun q => s.length - q.1) (0, none) ⟨Nat.zero_le _, rfl, rfl⟩ (.cons rfl (.cons rfl (.cons rfl (.cons rfl (.cons rfl .nil))))) (List.Sublist.refl _) (fun _ _ h => h) ?_); rintro ⟨i, row⟩ ⟨hi1, hrow⟩; simp only at hi1 hrow; change HC _ _ [(0, J2 s), (2, V9 r1), (3, V9 r2), (6, .int .i64 (s.length : Int)), (7, .int .i64 (i : Int))] ((r2, .cells #[.int .u64 0, .int .u64 0, .int .u64 0, .int .u64 0, .slice none 0 0, JF i row, .int .i64 0] 81 (0, 0)) :: (r1, .cells #[.int .u64 0, .int .u64 0, .int .u64 0, .int .u64 0, .slice none 0 0, .slice none 0 0, .int .i64 0] 81 (0, 0)) :: JY 81 (Qj ((s.take i).map jG)) row) _ _ _; refine sR fun _ hK5 => JZ rfl (nK hK5 ?_); refine sQ fun _ hK6 => ?_; refine Jc rfl (fun h7 => ?_) (fun h7 => ?_)
  · try simp only [ZZ] at h7
    refine Jf (hK6 ?_); refine sB fun _ hK8 => sR fun _ hK9 => ?_; refine LS 2 [] rfl rfl (nK hK9 ?_)
    refine JS [(r2, .cells #[.int .u64 0, .int .u64 0, .int .u64 0, .int .u64 0, .slice none 0 0, JF i row, .int .i64 0] 81 (0, 0))] [(0, .pure), (1, .pure), (2, .pure), (3, .pure), (4, .pure), (5, .pure), (6, .pure), (7, .pure), (8, .grow (Wc (slV 1) (.cells #[uV (s.getD i 0).toNat, uV 0, uV 0, uV 0, .slice none 0 0, .slice none 0 0, .int .i64 0] 81 (0, 0))))] 9 [0, 1, 2, 3, 4, 5, 6, 7, 8] (by kernel_rfl) (by kernel_rfl) (by first | exact (fun _ h => absurd h List.not_mem_nil) | simp [SubS] | (intro p hp; simp [hp])) ?_
    refine Jw (k := 0) rfl rfl rfl rfl rfl (fun _ hS => (JL rfl rfl rfl)) ?_; refine Jw (k := 1) rfl rfl rfl rfl rfl (fun _ hS => (Jm rfl (.inl (hS _ (Ky (n := 0) rfl))) rfl rfl)) ?_; refine Jw (k := 2) rfl rfl rfl rfl rfl (fun _ hS => (Jo rfl)) ?_; refine Jw (k := 3) rfl rfl rfl rfl rfl (fun _ hS => (Jo rfl)) ?_; refine Jw (k := 4) rfl rfl rfl rfl rfl (fun _ _ => Wq (j := i) rfl rfl rfl rfl (by omega) rfl) ?_; refine Jw (k := 5) rfl rfl rfl rfl rfl (fun _ _ => (J9 rfl rfl rfl)) ?_; refine W9 (show _ = uV (s.getD i 0).toNat from congrArg (Value.int .u64) (wrap_u64 (by omega) (by have := Vu (s.getD i 0); omega))) ?_; refine WA (k := 6) rfl rfl rfl rfl rfl Jle (XZ _) ?_; refine Jw (k := 7) rfl rfl rfl rfl rfl (fun _ hS => (JI (r := [_, _, _, _, _, _, _]) rfl rfl)) ?_; refine VN (k := 8) (n := 1) (sz := 7) (vs := [_]) (zs := [_, _, _, _, _, _, _]) (r := [uV (s.getD i 0).toNat, uV 0, uV 0, uV 0, .slice none 0 0, .slice none 0 0, .int .i64 0]) rfl rfl rfl rfl rfl rfl rfl rfl rfl rfl rfl (by rw [Kw]; exact rfl) rfl fun rb => ?_; refine KC ?_; refine Km (L0 := [_, _, _]) (xs := Qj ((s.take i).map jG)) (row := row) (n := i) (sz := 7) (b := 88) (news := [_, _, _, _, _, _, _]) (List.perm_append_comm (l₁ := [_, _, _])) rfl rfl rfl rfl (kn 0 rfl) rfl rfl rfl rfl rfl (by decide) rfl rfl rfl (by decide) hrow (by omega) (by omega) fun ra cap sp hra => ?_
    refine LS 1 [] rfl rfl ?_; refine Kz (k := 2) (cs' := #[.int .u64 0, .int .u64 0, .int .u64 0, .int .u64 0, .slice none 0 0, JF (i + 1) (some (ra, cap, sp)), .int .i64 0]) rfl rfl rfl rfl rfl rfl rfl rfl rfl rfl ?_; refine Jg (Jj (hK8 ?_)); refine Ja ?_
    refine JZ rfl ?_; refine Jy (show _ = Value.int .i64 ((i + 1 : Nat) : Int) from by rw [wrap_i64 (by omega) (by omega)]; congr 1 <;> omega) ?_; refine Ji rfl (Jg (J5 ?_)); rw [Jsg (by omega)] at hra ⊢; refine Vi [2, 3, 0] (L' := [_, _, _]) (by decide) rfl ?_; exact J1 (i + 1, some (ra, cap, sp)) ⟨by simp only; omega, hra⟩ (by simp only; omega) (.cons rfl (.cons rfl (.cons rfl (.cons rfl (.cons rfl .nil))))) (List.Sublist.refl _) (fun _ _ h => h)
  · try simp only [ZZ] at h7
    refine JE (Jl ?_); refine Jl (J0 (hK3 ?_)); refine sQ fun _ hK10 => ?_
    have honeV : ([.int .u64 0, .int .u64 0, .int .u64 0, .int .u64 0, .slice none 0 0, JF i row, .int .i64 0] : List Value).all QR = true := by cases row <;> rfl
    refine Ja (LR rfl (Jq (xs := [.int .u64 0, .int .u64 0, .int .u64 0, .int .u64 0, .slice none 0 0, JF i row, .int .i64 0]) (n := 7) rfl (kn 0 rfl) rfl rfl rfl) (Jz (k := 1) (n := 7) (ys := [.int .u64 0, .int .u64 0, .int .u64 0, .int .u64 0, .slice none 0 0, JF i row, .int .i64 0]) rfl rfl rfl rfl rfl rfl rfl honeV rfl ?_)); refine nK hK10 (Jb ?_); refine Jv rfl rfl (.cons (J6 (vs := [_, _, _, _, _, _, _]) rfl (kn 1 rfl) rfl rfl) .nil) (fun w1 hs1 => ?_)
    have hiM : i = s.length := by omega
    rw [hiM, List.take_length] at hrow hs1
    have hrow2 : rowOk 7 (s.map jG).length (Qj (s.map jG)) row := by rw [List.length_map]; exact hrow
    have hvr : JF i row = KM (s.map jG).length (Vo row) := by rw [hiM, List.length_map]; exact (We _ _ (fun h => by rw [h] at hrow; exact hrow.1)).symm
    exact ⟨⟨.mk 0 0 0 0 [] none (s.map jG) (Vo row) 0, JY 81 (Qj (s.map jG)) row ++ [], jF (by rw [List.length_map]; omega) (Qg hrow2 (by decide)) (fun x hx => by obtain ⟨b, _, rfl⟩ := List.mem_map.1 hx; exact Jt0 b) i0, Jt1 s _⟩, congrArg (fun z => Ending.returned (Value.agg #[.int .u64 0, .int .u64 0, .int .u64 0, .int .u64 0, .slice none 0 0, z, .int .i64 0])) hvr, hs1.weakL (.cons _ (.cons _ (by simp only [List.append_nil]; exact List.Sublist.refl _)))⟩
section
variable {c : Cx} {l : Kn} {L : Jr} {X : XP} {Q : Exit → Act → List Frame → World → Prop} {d : List Deferred} {cs : List Frame}
variable {ops : Array Oper} {rest : List Nat} {k : Nat} {o : Oper}
theorem vB (h : HS c d l L X ops rest cs Q) : HQ c d l L X ((fun e a w => e = Exit.normal ∧ wpOpsSIn (FW none) 0 c.P ops Q rest a cs w) .normal) := fun a w hf hs => ⟨rfl, h a w hf hs⟩
theorem Jah (ho : Wl ops.toList k = some o) (hp : ∀ (ρ : Operand → Value) w x w', (execOp ρ o).run c.P w = .ok x w' → (∃ v, x = .value v) ∨ x = .skip) (hn : Kp o.op = true) (hro : c.ro = none) (h : HL c d l L X ops [o] (fun e a w => e = Exit.normal ∧ wpOpsSIn (FW none) 0 c.P ops Q rest a cs w)) : HS c d l L X ops (k :: rest) cs Q := fun a w hf hs => by
  have hk : ops[k]? = some o := by rw [← QJ ho]
  have h1 := h a w hf hs
  unfold wpListIn at h1
  simp only [wpOpsSIn, hk]; refine ⟨KR, ?_⟩
  by_cases hw : Region.wanted o (yielded ops a.tmps) = true
  · rw [if_pos hw] at h1 ⊢
    obtain ⟨_, h2⟩ := h1
    rw [Oper.semAt_eq _ _ _ (Wn hn)] at h2
    cases e : (execOp a.eval o).run c.P w with
    | ok x w' =>
      rw [e] at h2
      rcases hp a.eval w x w' e with ⟨v, rfl⟩ | rfl
      · exact h2.2
      · exact h2.2
    | halt x w' =>
      rw [e] at h2
      cases x with
      | panic v => exact absurd h2.1 (by simp)
      | _ => exact h2.elim
  · rw [if_neg hw] at h1 ⊢
    exact h1.2.2
theorem qJ {P : Program} {dst : Option Nat} {t ty : TypeId} {ps : String} {af : Array Edge} {gd : Option (Nat × Bool)} (ρ : Operand → Value) (w : World) (x : Next) (w' : World) (h : (execOp ρ ⟨dst, .alloc t, ty, ps, af, gd⟩).run P w = .ok x w') : (∃ v, x = .value v) ∨ x = .skip := by
  simp only [execOp, Sem.run_bind] at h
  cases e : (Instr.alloc t true (.tuple #[])).run P w with
  | ok v w2 => rw [e] at h; simp [Result.andThen] at h; exact .inl ⟨v, h.1.symm⟩
  | halt v w2 => rw [e] at h; simp [Result.andThen] at h
theorem qK {P : Program} {dst : Option Nat} {t ty : TypeId} {a b : Operand} {ps : String} {af : Array Edge} {gd : Option (Nat × Bool)} (ρ : Operand → Value) (w : World) (x : Next) (w' : World) (h : (execOp ρ ⟨dst, .store t a b, ty, ps, af, gd⟩).run P w = .ok x w') : (∃ v, x = .value v) ∨ x = .skip := by
  simp only [execOp, Sem.run_bind] at h
  cases e : (Instr.storeAt t (ρ a) (ρ b)).run P w with
  | ok v w2 => rw [e] at h; simp [Result.andThen] at h; exact .inr h.1.symm
  | halt v w2 => rw [e] at h; simp [Result.andThen] at h
end
def gT (rv re : Nat) (V : Array Value) (e : Int) : Jr := [(rv, .cells V 81 (0, 0)), (re, .cells #[.int .i64 e] 27 (0, 0))]
abbrev VZ0 : Array Value := #[.int .u64 0, .int .u64 0, .int .u64 0, .int .u64 0, .slice none 0 0, .slice none 0 0, .int .i64 0]
theorem Jxh (rv re : Nat) (hne : rv ≠ re) (V : Array Value) (hV : V.size = 7) (e0 : Int) (w : World) (hT : jT (gT rv re V e0) w) : CallsDIn (FW none) 0 Tryz.prog 92 [V9 rv, V9 re].toArray .returning w (fun e u' w' => (∃ x, e = .returned x) ∧ settle u' = .returning ∧ Keep [rv, re] w w' ∧ jT (gT rv re V e0) w') := by
  refine jB (cxT Tryz.prog w (gT rv re V e0) [] Tryz.f92.ntmps) Tryz.func92 rfl rfl rfl rfl (L := gT rv re V e0) (X := fun _ _ => True) (St.startT hT (fun p hp => nomatch hp) (List.pairwise_pair.2 hne) (fun p hp => nomatch hp)) fun c₀ cs hu => ?_
  obtain ⟨hrv, hrc⟩ := Jn1 (cs := cs) hu
  refine Jhj fun K hK => ?_; refine wI ?_; change HS _ _ _ _ _ _ [0, 1, 2, 3, 4, 5, 6, 7] _ _; refine wJ rfl rfl rfl rfl (fun a w hf => rfl) hrv hrc ?_; refine yt rfl rfl rfl rfl (J9 rfl rfl rfl) ?_; refine yt rfl rfl rfl rfl (Jo rfl) ?_; refine yt rfl rfl rfl rfl (Qh rfl rfl) ?_; refine yt rfl rfl rfl rfl (Qh rfl rfl) ?_; refine Jah rfl qJ rfl rfl (LN rfl fun r2 => Jg (vB ?_)); refine Jah rfl qK rfl rfl (QV (k := 0) (n := 1) (cs' := #[_]) (vs := #[_]) rfl rfl rfl rfl rfl rfl rfl (by exact Nat.le_of_ble_eq_true rfl) rfl rfl (Jg (vB ?_))); refine yt rfl rfl rfl rfl (JN rfl) ?_; refine Jny ?_; refine hK _ _ _ _ _ (Jnx rfl ?_); clear hK K; refine sR fun _ hK1 => Ji rfl (nK hK1 ?_); refine Jc rfl (fun h2 => ?_) (fun h2 => ?_)
  try exact Bool.noConfusion h2
  · try simp only [ZZ] at h2
    refine Jf ?_; refine zi (u' := .returning) rfl rfl rfl .nil (fun w1 hs1 => ?_); refine ⟨⟨_, rfl⟩, rfl, by have := hs1.keep; simpa [cxT, gT] using this, fun p hp => ?_⟩; exact (hs1.own p (List.mem_cons_of_mem _ hp)).2.2
theorem Jxi (rv re : Nat) (hne : rv ≠ re) (V : Array Value) (hV : V.size = 7) (e0 : Int) (e1 : Int) (w : World) (hT : jT (gT rv re V e0) w) : CallsDIn (FW none) 0 Tryz.prog 92 [V9 rv, V9 re].toArray (.panicking (wH (zk e1))) w (fun e u' w' => (∃ x, e = .returned x) ∧ settle u' = .returning ∧ Keep [rv, re] w w' ∧ jT (gT rv re VZ0 e1) w') := by
  refine jB (cxT Tryz.prog w (gT rv re V e0) [] Tryz.f92.ntmps) Tryz.func92 rfl rfl rfl rfl (L := gT rv re V e0) (X := fun _ _ => True) (St.startT hT (fun p hp => nomatch hp) (List.pairwise_pair.2 hne) (fun p hp => nomatch hp)) fun c₀ cs hu => ?_
  obtain ⟨hrv, hrc⟩ := Jn0 (cs := cs) hu
  refine Jhj fun K hK => ?_; refine wI ?_; change HS _ _ _ _ _ _ [0, 1, 2, 3, 4, 5, 6, 7] _ _; refine wJ rfl rfl rfl rfl (fun a w hf => rfl) hrv hrc ?_; refine yt rfl rfl rfl rfl (J9 rfl rfl rfl) ?_; refine yt rfl rfl rfl rfl (Jo rfl) ?_; refine yt rfl rfl rfl rfl (Qh rfl rfl) ?_; refine yt rfl rfl rfl rfl (Qh rfl rfl) ?_; refine Jah rfl qJ rfl rfl (LN rfl fun r2 => Jg (vB ?_)); refine Jah rfl qK rfl rfl (QV (k := 0) (n := 1) (cs' := #[_]) (vs := #[_]) rfl rfl rfl rfl rfl rfl rfl (by exact Nat.le_of_ble_eq_true rfl) rfl rfl (Jg (vB ?_))); refine yt rfl rfl rfl rfl (JN rfl) ?_; refine Jny ?_; refine hK _ _ _ _ _ (Jnx rfl ?_); clear hK K; refine sR fun _ hK1 => Ji rfl (nK hK1 ?_); refine Jc rfl (fun h2 => ?_) (fun h2 => ?_)
  try simp only [ZZ] at h2
  refine JS [(r2, .cells #[.int .i64 e1] 113 (0, 0))] [(0, .pure), (1, .pure), (2, .pure), (3, .turn), (4, .turn)] 5 [0, 1, 2, 3, 4] (by kernel_rfl) (by kernel_rfl) (by first | exact (fun _ h => absurd h List.not_mem_nil) | simp [SubS] | (intro p hp; simp [hp])) ?_; refine Jw (k := 0) rfl rfl rfl rfl rfl (fun _ hS => (JI (r := [_, _, _, _, _, _, _]) rfl rfl)) ?_
  refine Jw (k := 1) rfl rfl rfl rfl rfl (fun _ hS => (JL rfl rfl rfl)) ?_; refine Jw (k := 2) rfl rfl rfl rfl rfl (fun _ hS => (Jm rfl (.inl (hS _ (Ky (n := 0) rfl))) rfl rfl)) ?_; refine q7 (k := 3) (q := 1) (n := 7) (ys := [.int .u64 0, .int .u64 0, .int .u64 0, .int .u64 0, .slice none 0 0, .slice none 0 0, .int .i64 0]) rfl rfl rfl rfl rfl rfl rfl rfl hV rfl rfl (by simp [SubS]) ?_
  refine WB (k := 4) (q := 2) rfl rfl rfl rfl rfl rfl rfl rfl rfl (by first | (simp only [List.setIfInBounds_toArray, List.set_cons_zero, List.set_cons_succ]; exact rfl) | exact rfl) (by first | (simp only [List.set_cons_zero, List.set_cons_succ]; exact rfl) | exact rfl) (by first | exact (fun _ h => absurd h List.not_mem_nil) | simp [SubS] | (intro p hp; simp [hp])) ?_; refine KC ?_; refine Jg ?_; refine zi (u' := .panicking [{ v := zk e1, recovered := true }]) rfl rfl rfl .nil (fun w1 hs1 => ?_); refine ⟨⟨_, rfl⟩, rfl, by have := hs1.keep; simpa [cxT, gT] using this, fun p hp => ?_⟩; exact (hs1.own p (List.mem_cons_of_mem _ hp)).2.2
  · try exact Bool.noConfusion h2
theorem Joi (t : Ty) (s : BS) : (KK t s).2 ≠ 0 → (KK t s).1 = v0L := by
  obtain ⟨k, n, p, ins⟩ := t
  rw [KK]
  unfold ZN xW
  dsimp only
  repeat' split
  all_goals first | (intro _; rfl) | (intro h; exact absurd rfl h)
def getR (t : Ty) (s : BS) : Vl × Int := if V6 t 0 ≠ 0 then (v0L, V6 t 0) else if 65536 < s.length then (v0L, 5) else KK t s
theorem Joj : Vl.In [] v0L := .mk u0 u0 u0 u0 (by decide) rfl (by decide) rfl i0 (fun x hx => nomatch hx)
section
variable {c : Cx} {l : Kn} {L L0 : Jr} {X : XP} {d : List Deferred} {fn : Func} {R : Ending → World → Prop} {rv re : Nat} {V : Array Value} {e0 e1 : Int}
theorem wX {w : World} (hs : St c (gT rv re V e0 ++ L0) X w) : jT (gT rv re V e0) w ∧ rv ≠ re := ⟨fun p hp => (hs.own p (List.mem_append_left _ hp)).2.2, by
  have := (List.pairwise_append.1 hs.distinct).1
  exact (List.pairwise_cons.1 this).1 _ (List.mem_singleton_self _)⟩
theorem Jht {V' : Array Value} {w w' : World} (hs : St c (gT rv re V e0 ++ L0) X w) (hk : Keep [rv, re] w w') (hT : jT (gT rv re V' e1) w') : St c (gT rv re V' e1 ++ L0) X w' := by
  obtain ⟨_, hne⟩ := wX hs
  refine hs.turnT (by simpa [gT] using hk) (fun p hp => ⟨.inl ?_, hT p hp⟩) (List.pairwise_pair.2 hne)
  rcases List.mem_cons.1 hp with rfl | hp
  · simp [gT]
  · rw [List.mem_singleton.1 hp]; simp [gT]
theorem Jt2 (hP : c.P = Tryz.prog) (hp : L.Perm (gT rv re V e0 ++ L0)) (hV : V.size = 7) (h : HQ c d l (gT rv re V e0 ++ L0) X (bodyPostM (FW none) 0 Tryz.prog fn R .ret)) : HQ c (dF 92 [V9 rv, V9 re] :: d) l L X (bodyPostM (FW none) 0 Tryz.prog fn R .ret) :=
  Xy hp (Jvh (enters_of Tryz.func92 (by kernel_rfl) rfl) (fun w hs => CallsDIn.mono (Jxh rv re (wX hs).2 V hV e0 w (wX hs).1) fun _ _ _ ⟨h1, h2, h3, h4⟩ => ⟨h1, h2, Jht hs h3 h4⟩) h)
theorem Jt3 (hP : c.P = Tryz.prog) (hd : d = []) (hp : L.Perm (gT rv re V e0 ++ L0)) (hV : V.size = 7) (h : HQ c d l (gT rv re VZ0 e1 ++ L0) X (bodyPostM (FW none) 0 Tryz.prog fn R .ret)) : HQ c (dF 92 [V9 rv, V9 re] :: d) l L X (bodyPostM (FW none) 0 Tryz.prog fn R (.panic (wH (zk e1)))) :=
  Xy hp (Jr8 (enters_of Tryz.func92 (by kernel_rfl) rfl) (fun w hs => CallsDIn.mono (Jxi rv re (wX hs).2 V hV e0 e1 w (wX hs).1) fun _ _ _ ⟨h1, h2, h3, h4⟩ => ⟨h1, h2, Jht hs h3 h4⟩) h)
end
set_option maxHeartbeats 1000000 in
theorem Jxj {R : Jr} {t : Ty} (ht : t.In R) (s : BS) : PureT (α := VR (getR t s).1) Tryz.prog 60 [t.val, J2 s].toArray (fun y => .tuple #[y.x.val, .int .i64 (getR t s).2]) [] (fun y => y.L) R := by
  have hC := xh ht
  have hG := Jxe ht (s := s)
  have hbd := Joi t s
  have hg0 : V6 t 0 ≠ 0 → getR t s = (v0L, V6 t 0) := fun h => by unfold getR; rw [if_pos h]
  have hg1 : V6 t 0 = 0 → 65536 < s.length → getR t s = (v0L, 5) := fun h h2 => by unfold getR; rw [if_neg (by rw [h]; decide), if_pos h2]
  have hg2 : V6 t 0 = 0 → ¬ 65536 < s.length → getR t s = KK t s := fun h h2 => by unfold getR; rw [if_neg (by rw [h]; decide), if_neg h2]
  generalize hcz : V6 t 0 = z at hC hG hg0 hg1 hg2
  obtain ⟨k, n, p, ins⟩ := t
  refine JH Tryz.func60 rfl rfl fun w => ?_; refine sR fun _ hK1 => ?_; refine LN rfl fun r1 => ?_; refine LN rfl fun r2 => ?_; refine LN rfl fun r3 => ?_; refine nK hK1 (sR fun _ hK2 => ?_); refine LR rfl (Kv rfl rfl) ?_; refine Jnv (caps := [V9 r2, V9 r3]) rfl rfl rfl ?_ rfl; refine nK hK2 (sQ fun _ hK3 => ?_); refine sR fun _ hK4 => ?_; refine LR rfl (Jx (vs := [_, _, _]) rfl (kn 2 rfl) rfl rfl rfl rfl) ?_; refine Jh rfl rfl rfl Jut hC (fun q hq => Or.inr hq) ?_; refine Ji rfl (nK hK4 ?_); refine sR fun _ hK5 => LS 2 [] rfl rfl (nK hK5 ?_); refine Jc rfl (fun h6 => ?_) (fun h6 => ?_)
  · try simp only [ZZ] at h6
    refine sR fun _ hK7 => ?_; refine LR rfl (JI (r := [_, _, _, _, _, _, _]) rfl rfl) ?_; refine Ji rfl ?_
    refine LT 1 rfl rfl ?_
    refine LT 0 rfl rfl (nK hK7 ?_); refine Jb (Jd ?_)
    (refine Jt2 (L0 := [_]) rfl (List.Perm.swap _ _ _) rfl ?_
     refine Jv rfl rfl (.cons (J6 (vs := [_, _, _, _, _, _, _]) rfl (kn 0 rfl) rfl rfl) (.cons (KN rfl (kn 1 rfl) rfl rfl) .nil)) (fun w1 hs1 => ?_)
     exact ⟨⟨v0L, [], Joj, by rw [hg0 (by assumption)]; rfl⟩, congrArg (fun z => Ending.returned (Value.tuple #[v0L.val, .int .i64 z])) (congrArg Prod.snd (hg0 (by assumption))).symm, hs1.weakL (List.nil_sublist _)⟩)
  · try simp only [ZZ] at h6
    refine Jf (hK3 ?_); refine sQ fun _ hK8 => ?_
    have hz : z = 0 := by assumption
    refine Ja (Ji rfl (LR rfl (JT rfl rfl) ?_)); refine JZ rfl ?_; refine KQ rfl rfl rfl ZB (VF (_) 5) (fun q hq => nomatch hq) (fun hok _ => ?_) (fun v hv => by obtain ⟨hvb, rfl⟩ := hv; refine Jt3 (e1 := 5) (L0 := [_]) rfl rfl (List.Perm.swap _ _ _) rfl ?_; refine Jv rfl rfl (.cons (J6 (vs := [_, _, _, _, _, _, _]) rfl (kn 0 rfl) rfl rfl) (.cons (KN rfl (kn 1 rfl) rfl rfl) .nil)) (fun w1 hs1 => ?_); exact ⟨⟨v0L, [], Joj, by rw [hg1 hz (by have := Z2.1 hvb; omega)]; rfl⟩, congrArg (fun z => Ending.returned (Value.tuple #[v0L.val, .int .i64 z])) (congrArg Prod.snd (hg1 hz (by have := Z2.1 hvb; omega))).symm, hs1.weakL (List.nil_sublist _)⟩)
    have hl : ¬ 65536 < s.length := by have := Z1.mp hok; omega
    refine nK hK8 (sR fun _ hK9 => ?_); refine LS 2 [2] rfl rfl ?_; refine KQ rfl rfl rfl Jlf (hG hz (by omega)) (fun q hq => Or.inr hq) (fun hok y => ?_) (fun v hv => by obtain ⟨hvb, rfl⟩ := hv; refine Jt3 (e1 := (KK (.mk k n p ins) s).2) (L0 := [_]) rfl rfl (List.Perm.swap _ _ _) rfl ?_; refine Jv rfl rfl (.cons (J6 (vs := [_, _, _, _, _, _, _]) rfl (kn 0 rfl) rfl rfl) (.cons (KN rfl (kn 1 rfl) rfl rfl) .nil)) (fun w1 hs1 => ?_); exact ⟨⟨v0L, [], Joj, by rw [hg2 hz hl, hbd hvb]; rfl⟩, congrArg (fun z => Ending.returned (Value.tuple #[v0L.val, .int .i64 z])) (congrArg Prod.snd (hg2 hz hl)).symm, hs1.weakL (List.nil_sublist _)⟩)
    obtain ⟨⟨ya, yb, yc, yd, ybits, ypb, yitems, ypi, ypick⟩, yL, yok, yer⟩ := y
    refine KH List.perm_append_comm ?_
    refine LT 1 rfl rfl ?_
    refine LT 0 rfl rfl (nK hK9 ?_); refine Jb ?_
    (refine Jt2 (L0 := _ :: yL) rfl (List.Perm.swap _ _ _) rfl ?_
     refine Jv rfl rfl (.cons (J6 (vs := [_, _, _, _, _, _, _]) rfl (kn 0 rfl) rfl rfl) (.cons (KN rfl (kn 1 rfl) rfl rfl) .nil)) (fun w1 hs1 => ?_)
     exact ⟨⟨.mk ya yb yc yd ybits ypb yitems ypi ypick, yL, yok, by rw [hg2 hz hl]; exact yer⟩, congrArg (fun z => Ending.returned (Value.tuple #[Vl.val (.mk ya yb yc yd ybits ypb yitems ypi ypick), .int .i64 z])) ((congrArg Prod.snd (hg2 hz hl)).trans hok).symm, hs1.weakL (.cons _ (.cons _ (.cons _ (List.Sublist.refl _))))⟩)
section
variable {c : Cx} {l : Kn} {L E : Jr} {X : XP} {Q : Exit → Act → World → Prop} {d : List Deferred}
variable {ops : Array Oper} {rest : List Nat} {i k : Nat} {v : Value} {o : Oper} {tb : jp} {S : Jr} {T : Jr → Act → Prop}
theorem Jok {α : Type} {T0 L0 Rl : Jr} {f : Operand} {args : Array Operand} {at_ : Array TypeId} {g : FuncId} {vs : List Value} {V : α → Value} {LL : α → Jr} {ty : TypeId} {ps : String} {af : Array Edge} {gd : Option (Nat × Bool)}
    (hp : E.Perm (T0 ++ L0)) (hk : Wl ops.toList k = some ⟨some i, .call ⟨.value f, args, at_⟩, ty, ps, af, gd⟩) (hg : Kj l ops ⟨some i, .call ⟨.value f, args, at_⟩, ty, ps, af, gd⟩ = some true) (hi : Nat.ble (i + 1) c.n = true) (hA : tb k = .turn) (hca : KA l f args = some (g, vs)) (eg : Enters c.P g)
    (hpt : PureT c.P g vs.toArray V T0 LL Rl) (hR : ∀ p ∈ Rl, known c L0 p.1 p.2) (hS : ∀ x, SubS S (LL x ++ L0)) (h : ∀ x, HB c d ((i, V x) :: l) (LL x ++ L0) X S ops tb rest T) : HB c d l E X S ops tb (k :: rest) T := fun a hf => by
  refine ⟨_, QJ hk, ?_⟩; rw [hA]; refine .inl ⟨α, V, fun x => LL x ++ L0, ⟨JB hf hg, fun w hs => ?_⟩, fun x => ⟨hS x, h x _ (hf.put (Nat.le_of_ble_eq_true hi))⟩⟩
  have hs := hs.perm hp
  obtain ⟨hd1, _, hd3⟩ := List.pairwise_append.1 hs.distinct
  refine Xl hf hca eg ((hpt.run w (fun p hp => (hs.own p (List.mem_append_left _ hp)).2.2) (fun p hp => ?_) hd1 (fun p hp q hq => ?_)).mono fun _ _ ⟨x, he, hk, h1, h2⟩ => ⟨V x, he, x, rfl, hs.turnT hk h1 h2⟩)
  · exact (hR p hp).elim (fun h => (hs.own _ (List.mem_append_right _ h)).2.2) hs.readR
  · rcases hR p hp with h | h
    · exact fun e => hd3 q hq _ h e.symm
    · rintro e
      obtain ⟨h1, _, h3⟩ := hs.ext _ h
      have h3 := Js h3
      rcases (hs.own q (List.mem_append_left _ hq)).1 with h4 | h4
      · exact h1 (e ▸ h4)
      · simp only at h3 e; omega
end
theorem Jxk {n : Nat} {xs : List Value} (h : xs.length = n) : rowOk 1 n xs (some (0, n, [])) := ⟨by rw [h, Nat.mul_one], by simp⟩
theorem Jol {R : Jr} {k n : Int} {p : Pl} {ins : List Ty} {items : List Vl} {pi : Pl} (ht : Ty.In R (.mk k n p ins)) (h8 : k ≠ 8) (hs : Seg R items.length (Qj items) pi) (hl : items.length ≤ 600) (hx : ∀ i, i < items.length → VY k 0 i < ins.length)
    (hb : ∀ (i : Nat) x, items[i]? = some x → PureR Tryz.prog 85 [(JK k 0 ins i).val, x.val].toArray (J2 (KB x (JK k 0 ins i))) R) :
    PureT (α := { row : Vz // rowOk 1 items.length (W3 (Kg items k 0 ins 0)) row }) Tryz.prog 135 [Ty.val (.mk k n p ins), KM items.length pi].toArray (fun x => JF items.length x.1) [] (fun x => JY 9 (W3 (Kg items k 0 ins 0)) x.1) R := by
  cases ht with
  | @mk k n p ins hk hn hlt hst hit =>
  have hRL := Wv items k 0 ins 0
  obtain ⟨RS, hRS⟩ : ∃ x, x = Kg items k 0 ins 0 := ⟨_, rfl⟩
  have htk := fun i x (h : items[i]? = some x) => wB k ins (i := 0) h
  simp only [← hRS, Nat.zero_add] at htk; rw [← hRS] at hRL ⊢; refine JH Tryz.func135 rfl rfl fun w => ?_; refine sR fun _ hK1 => ?_; refine LN rfl fun r1 => ?_; refine Ji rfl (nK hK1 ?_); refine sR fun _ hK2 => Ji rfl (nK hK2 ?_); refine sQ fun _ hK3 => sR fun _ hK4 => ?_; refine Ji rfl (LR rfl (J3 rfl hs rfl) (Ji rfl ?_)); refine nK hK4 (Ju ?_); refine JG (σ := Nat × Vz) (fun q => q.1 ≤ items.length ∧ rowOk 1 q.1 (W3 (RS.take q.1)) q.2) (fun q => [(2, V9 r1), (5, JF q.1 q.2), (9, KM items.length pi), (10, .int .i64 (items.length : Int)), (11, .int .i64 (q.1 : Int))]) (fun q => VK r1 (.mk k n p ins) :: JY 9 (W3 (RS.take q.1)) q.2) (fun _ _ _ => True) (fun q => items.length - q.1) (0, none) ⟨Nat.zero_le _, by rw [List.take_zero]; exact ⟨rfl, rfl⟩⟩ (.cons rfl (.cons rfl (.cons rfl (.cons rfl (.cons rfl .nil))))) (List.Sublist.refl _) (fun _ _ h => h) ?_; rintro ⟨i, row⟩ ⟨hi1, hrow⟩; simp only at hi1 hrow; change HC _ _ [(2, _), (5, JF i row), (9, _), (10, _), (11, .int .i64 (i : Int))] ((r1, _) :: JY _ (W3 (RS.take i)) row) _ _ _; refine sR fun _ hK5 => JZ rfl (nK hK5 ?_); refine sQ fun _ hK6 => ?_; refine Jc rfl (fun h7 => ?_) (fun h7 => ?_)
  · try simp only [ZZ] at h7
    refine Jf (hK6 ?_); refine sB fun _ hK8 => sQ fun _ hK9 => ?_
    have hil : i < items.length := by omega
    have hix := XD hil
    have hbi := hb i _ hix.1
    have hty := Qn (hx i hil)
    have hi0 : 0 < ins.length := Nat.lt_of_le_of_lt (Nat.zero_le _) (hx i hil)
    have hy0 : ins[0]? = some (ins.getD 0 default) := by rw [List.getD_eq_getElem?_getD, List.getElem?_eq_getElem hi0]; rfl
    have htki := htk i _ hix.1
    obtain ⟨sv, hsv⟩ : ∃ x, x = KB (XC items i) (JK k 0 ins i) := ⟨_, rfl⟩
    rw [← hsv] at hbi htki; refine Ja (Ji rfl ?_)
    refine LR rfl (Jp (j := i) rfl hs rfl rfl rfl (by first | rfl | omega) (by omega)) ?_; refine LR rfl (QI (fun q hq => Or.inr hq) rfl hs hix.1 rfl rfl) ?_; refine QF (cs := #[.int .u64 0, .int .u64 0, .int .u64 0, .int .u64 0, .slice none 0 0, .slice none 0 0, .int .i64 0]) rfl rfl rfl rfl fun rv => ?_; refine Ji rfl (Jz (k := 0) (n := 7) (ys := (XC items i).cells) rfl rfl rfl rfl rfl (XC items i).len rfl (XC items i).one rfl ?_); refine nK hK9 (sR fun _ hK10 => ?_)
    refine LS 2 [1] rfl rfl ?_; refine LR rfl (Jp (j := 0) rfl hst rfl rfl rfl rfl (by omega)) ?_; refine LR rfl (KV (fun q hq => Or.inr hq) rfl hst hy0 rfl rfl) ?_; refine QF (cs := #[.int .i64 0, .int .i64 0, .slice none 0 0]) rfl rfl rfl rfl fun rt => ?_; refine Jz (k := 0) (n := 3) (ys := (ins.getD 0 default).cells) rfl rfl rfl rfl rfl (ins.getD 0 default).len rfl (ins.getD 0 default).one rfl ?_; refine nK hK10 (sQ fun _ hK11 => ?_); refine sR fun _ hK12 => ?_
    refine LS 3 [2] rfl rfl (nK hK12 ?_); refine Jc rfl (fun h13 => ?_) (fun h13 => ?_)
    · try simp only [ZZ] at h13
      refine Ja ?_
      refine LS 3 [2] rfl rfl ?_; refine LR rfl (Jp (j := VY k 0 i) rfl hst rfl rfl rfl (by unfold VY; rw [if_pos (by assumption)]) (hx i hil)) ?_; refine LR rfl (KV (fun q hq => Or.inr hq) rfl hst hty.1 rfl rfl) ?_; refine Jz (k := 0) (n := 3) (ys := (JK k 0 ins i).cells) rfl rfl rfl rfl rfl (JK k 0 ins i).len (by rw [List.size_toArray]; exact Ty.len _) (JK k 0 ins i).one rfl ?_; refine nK hK11 ?_
      (have h7 : k = 7 := by assumption
       skip)
      refine Ja (Ji rfl (LR rfl (Jq (xs := (JK k 0 ins i).cells) (n := 3) rfl (kn 0 rfl) rfl rfl (JK k 0 ins i).len) ?_)); refine LR rfl (Jq (xs := (XC items i).cells) (n := 7) rfl (kn 1 rfl) rfl rfl (XC items i).len) ?_; refine Jh rfl rfl rfl Jqo hbi (fun q hq => Or.inr hq) ?_; refine Kh (vs := [_]) (zs := [_]) (r := [_]) rfl rfl rfl rfl rfl rfl rfl rfl rfl (by show (madeCells #[_] _).toList = _; rw [VJ]; exact rfl) rfl fun r2 => ?_; refine Km (L0 := [_, _, _, _]) (xs := W3 (RS.take i)) (row := row) (n := i) (sz := 1) (b := 16) (news := [J2 sv]) (List.perm_append_comm (l₁ := [_, _, _, _])) rfl rfl rfl rfl (kn 0 rfl) rfl rfl rfl rfl rfl (by decide) rfl rfl rfl (by decide) hrow (by omega) (by omega) fun ra cap sp hra => ?_; refine Ji rfl (Jg ?_); refine Jj (hK8 ?_); refine Ja ?_
      refine JZ rfl ?_; refine Jy (show _ = Value.int .i64 ((i + 1 : Nat) : Int) from by rw [wrap_i64 (by omega) (by omega)]; congr 1 <;> omega) ?_; refine Ji rfl (Jg (J5 ?_)); refine Vi [4, 0] (L' := [_, _]) (by decide) rfl ?_; exact J1 (i + 1, some (ra, cap, sp)) ⟨by simp only; omega, by simp only; rw [htki, YW]; exact hra⟩ (by simp only; omega) (.cons rfl (.cons rfl (.cons rfl (.cons rfl (.cons rfl .nil))))) (by simp only; rw [htki, YW]; exact List.Sublist.refl _) (fun _ _ h => h)
    · try simp only [ZZ] at h13
      refine Jf (hK11 ?_)
      (have h7 : ¬ k = 7 := by assumption
       have e : ins.getD 0 default = JK k 0 ins i := by unfold JK VY; rw [if_neg h7, if_neg h8]
       rw [e])
      refine Ja (Ji rfl (LR rfl (Jq (xs := (JK k 0 ins i).cells) (n := 3) rfl (kn 0 rfl) rfl rfl (JK k 0 ins i).len) ?_)); refine LR rfl (Jq (xs := (XC items i).cells) (n := 7) rfl (kn 1 rfl) rfl rfl (XC items i).len) ?_; refine Jh rfl rfl rfl Jqo hbi (fun q hq => Or.inr hq) ?_; refine Kh (vs := [_]) (zs := [_]) (r := [_]) rfl rfl rfl rfl rfl rfl rfl rfl rfl (by show (madeCells #[_] _).toList = _; rw [VJ]; exact rfl) rfl fun r3 => ?_; refine Km (L0 := [_, _, _, _]) (xs := W3 (RS.take i)) (row := row) (n := i) (sz := 1) (b := 16) (news := [J2 sv]) (List.perm_append_comm (l₁ := [_, _, _, _])) rfl rfl rfl rfl (kn 0 rfl) rfl rfl rfl rfl rfl (by decide) rfl rfl rfl (by decide) hrow (by omega) (by omega) fun ra cap sp hra => ?_; refine Ji rfl (Jg ?_); refine Jj (hK8 ?_); refine Ja ?_
      refine JZ rfl ?_; refine Jy (show _ = Value.int .i64 ((i + 1 : Nat) : Int) from by rw [wrap_i64 (by omega) (by omega)]; congr 1 <;> omega) ?_; refine Ji rfl (Jg (J5 ?_)); refine Vi [4, 0] (L' := [_, _]) (by decide) rfl ?_; exact J1 (i + 1, some (ra, cap, sp)) ⟨by simp only; omega, by simp only; rw [htki, YW]; exact hra⟩ (by simp only; omega) (.cons rfl (.cons rfl (.cons rfl (.cons rfl (.cons rfl .nil))))) (by simp only; rw [htki, YW]; exact List.Sublist.refl _) (fun _ _ h => h)
  · try simp only [ZZ] at h7
    refine JE (Jl ?_); refine Jl (J0 (hK3 ?_)); refine sQ fun _ hK14 => ?_
    obtain rfl : i = items.length := by omega
    rw [List.take_of_length_le (by omega)] at hrow ⊢; refine Ja (LS 2 [] rfl rfl ?_); refine nK hK14 (Jb ?_); refine pT rfl rfl rfl fun w1 hs1 => ?_; exact ⟨⟨row, hrow⟩, rfl, hs1.weakL (.cons _ (List.Sublist.refl _))⟩
abbrev jH (l : List BS) : Type := { row : Vz // rowOk 1 l.length (W3 l) row }
def Jhu (l : List BS) : jH l := ⟨some (0, l.length, []), Jxk (by unfold W3; rw [List.length_map])⟩
abbrev rV {l : List BS} (x : jH l) : Value := KM l.length (Vo x.1)
abbrev rL {l : List BS} (x : jH l) : Jr := JY 9 (W3 l) x.1
theorem Jxl {l : List BS} (x : jH l) : rV x = JF l.length x.1 := We _ _ fun h => by
  have h2 := x.2
  rw [h] at h2; exact h2.1
theorem Jom (l : List BS) : (fun x : jH l => rV x) = fun x => JF l.length x.1 := funext fun x => Jxl x
theorem Jon {s : BS} (hl : s.length ≤ 1000000) : PureT (α := jH (Y4 s)) Tryz.prog 172 [J2 s].toArray (fun x => rV x) [] (fun x => rL x) [] := by
  have h := Jw8 hl
  rw [← YX] at h; rw [Jom]; exact h
theorem zo {R : Jr} {k n : Int} {p : Pl} {ins : List Ty} {items : List Vl} {pi : Pl} (ht : Ty.In R (.mk k n p ins)) (h8 : k ≠ 8) (hs : Seg R items.length (Qj items) pi) (hl : items.length ≤ 600) (hx : ∀ i, i < items.length → VY k 0 i < ins.length)
    (hb : ∀ (i : Nat) x, items[i]? = some x → PureR Tryz.prog 85 [(JK k 0 ins i).val, x.val].toArray (J2 (KB x (JK k 0 ins i))) R) :
    PureT (α := jH (Kg items k 0 ins 0)) Tryz.prog 135 [Ty.val (.mk k n p ins), KM items.length pi].toArray (fun x => rV x) [] (fun x => rL x) R := by
  have h := Jol ht h8 hs hl hx hb
  rw [Jom]
  have e := Wv items k 0 ins 0
  generalize Kg items k 0 ins 0 = RS at h e ⊢
  rw [← e] at h; rw [← e]; exact h
theorem Joo (t : Ty) : Pure Tryz.prog 171 [t.val].toArray (.bool (Xw t)) := by
  obtain ⟨k, n, p, ins⟩ := t
  refine JC Tryz.func171 rfl rfl fun w => ?_; refine sR fun K1 hK1 => ?_; refine LN rfl fun r1 => ?_; refine Ji rfl (nK hK1 ?_); clear hK1 K1; refine sR fun K2 hK2 => LS 4 [0] rfl rfl ?_
  refine JA 6 rfl (fun hb3 => ?_) (fun hb3 => ?_) <;> (try simp only [ZZ] at hb3) <;> first | (refine LR rfl (JL rfl rfl rfl) ?_) | (refine LK rfl ?_)
  all_goals refine LW 4 [0] rfl rfl ?_
  all_goals refine Jg ?_
  all_goals (
   refine hK2 ?_; clear hK2 K2; refine Jb (pT rfl rfl rfl fun w1 hs1 => ?_); refine ⟨?_, hs1.keep⟩
   simp_all [JP, Xw, Ty.k]
   all_goals first | done | rfl
   skip)
theorem Jvr (n : Nat) : ((n + 7) / 8 + 31) / 32 = (n + 255) / 256 := by omega
theorem Jhv {R : Jr} {l : List Bool} {k : Int} {n : Nat} {p pb : Pl} {ins : List Ty} (hl : l.length ≤ n) (hn : n ≤ 512) (hs : Seg R l.length (Qy l) pb) :
    PureR Tryz.prog 131 [Ty.val (.mk k (n : Int) p ins), KM l.length pb].toArray (J2 (Ve (Y4 (VB l)) ((n + 255) / 256))) R := by
  obtain ⟨N, hN⟩ : ∃ N, N = (l.length + 7) / 8 := ⟨_, rfl⟩
  have hpB : VB l = KP l N l.length := by rw [hN]; rfl
  have hnb := qi (bits := l) (n := (n : Int)) (by omega)
  rw [Int.toNat_natCast] at hnb
  have hc32 := Zw (VB l)
  have hcut := Jon (s := VB l) (by rw [Xc]; omega)
  rw [hpB] at hnb hc32 hcut ⊢; refine Je Tryz.func131 rfl rfl fun w => ?_; refine sR fun K1 hK1 => ?_; refine LN rfl fun r1 => ?_; refine Ji rfl (nK hK1 ?_); clear hK1 K1; refine sR fun K2 hK2 => Ji rfl (LR rfl (J3 rfl hs rfl) ?_)
  refine JZ rfl ?_; refine Jy (show _ = Value.int .i64 ((l.length + 8 : Nat) : Int) from by rw [wrap_i64 (by omega) (by omega)]; congr 1 <;> omega) ?_
  refine JZ rfl ?_; refine Jy (show _ = Value.int .i64 ((l.length + 7 : Nat) : Int) from by rw [wrap_i64 (by omega) (by omega)]; congr 1 <;> omega) ?_; refine JZ rfl ?_; refine Jy (show _ = Value.int .i64 ((N : Nat) : Int) from congrArg (Value.int .i64) (by rw [QM (by omega) (by decide) (by omega), hN]; rfl)) ?_; refine Wz (n := N) (b := 1) rfl rfl rfl rfl rfl rfl rfl rfl rfl (by omega) (by omega) fun rm => ?_; rw [show List.replicate N (Value.int .u8 0) = (KP l N 0).map bV from by rw [KP, List.map_replicate]; rfl]; refine Ji rfl (nK hK2 ?_); clear hK2 K2; refine sQ fun K3 hK3 => sR fun K4 hK4 => ?_; refine Ji rfl (LR rfl (J3 rfl hs rfl) (Ji rfl ?_)); refine nK hK4 ?_; clear hK4 K4; refine Ju (JG (σ := Nat) (fun i => i ≤ l.length) (fun i => [(2, V9 r1), (5, .slice (some ⟨rm, 0, none⟩) N N), (14, KM l.length pb), (15, .int .i64 (l.length : Int)), (16, .int .i64 (i : Int))]) (fun i => [(rm, .cells ((KP l N i).map bV).toArray 5 (0, 0)), VK r1 (.mk k (n : Int) p ins)]) (fun _ _ _ => True) (fun i => l.length - i) 0 (Nat.zero_le _) (.cons rfl (.cons rfl (.cons rfl (.cons rfl (.cons rfl .nil))))) (List.Sublist.refl _) (fun _ _ h => h) ?_); intro i hi1; change HC _ _ _ ((rm, _) :: (r1, _) :: []) _ _ _; refine sR fun K5 hK5 => JZ rfl (nK hK5 ?_); clear hK5 K5; refine sQ fun K6 hK6 => ?_; refine Jc rfl (fun h7 => ?_) (fun h7 => ?_)
  · try simp only [ZZ] at h7
    refine Jf (hK6 ?_); clear hK6 K6; refine sB fun K8 hK8 => sQ fun K9 hK9 => ?_
    have hil : i < l.length := by omega
    have hi8 : i / 8 < N := by omega
    have hyb : l[i]? = some (l.getD i false) := by rw [List.getD_eq_getElem?_getD, List.getElem?_eq_getElem hil]; rfl
    refine Ja (Ji rfl ?_)
    refine LR rfl (Jp (j := i) rfl hs rfl rfl rfl (by first | rfl | omega) (by omega)) ?_; refine LR rfl (XY (fun q hq => Or.inr hq) rfl hs hyb rfl) ?_; refine LS 2 [] rfl rfl (nK hK9 ?_); clear hK9 K9; refine sR fun K10 hK10 => Ji rfl (nK hK10 ?_); clear hK10 K10; refine Jc rfl (fun h11 => ?_) (fun h11 => ?_)
    · try simp only [ZZ] at h11
      have hbt : l.getD i false = true := by assumption
      have hst1 : KP l N (i + 1) = (KP l N i).set (i / 8) (UInt8.ofNat (((KP l N i).getD (i / 8) 0).toNat ||| 2 ^ (i % 8))) := by rw [KP, if_pos hbt]
      obtain ⟨Y, hY⟩ : ∃ Y, Y = KP l N i := ⟨_, rfl⟩
      have hYl : Y.length = N := by rw [hY]; exact Vr l N i
      rw [← hY] at hst1 ⊢
      refine JS [] [(0, .pure), (1, .pure), (2, .pure), (3, .pure), (5, .pure), (6, .pure), (7, .pure), (8, .pure), (9, .pure), (10, .turn)] 11 [0, 1, 2, 3, 4, 5, 6, 7, 8, 9, 10] (by kernel_rfl) (by kernel_rfl) (by first | exact (fun _ h => absurd h List.not_mem_nil) | simp [SubS] | (intro p hp; simp [hp])) ?_; refine Jw (k := 0) rfl rfl rfl rfl rfl (fun _ hS => (Jo rfl)) ?_; refine Jw (k := 1) rfl rfl rfl rfl rfl (fun _ hS => (Jo rfl)) ?_
      refine Jw (k := 2) rfl rfl rfl rfl rfl (fun _ _ => (J9 rfl rfl rfl)) ?_; refine W9 (show _ = Value.int .i64 ((i / 8 : Nat) : Int) from congrArg (Value.int .i64) (by first | exact W0 _ _ | exact QM (by omega) (by decide) (by omega) | (rw [wrap_i64 (by omega) (by omega)]; omega))) ?_; refine Jw (k := 3) rfl rfl rfl rfl rfl (fun _ _ => Ki (j := (i / 8)) (m := 1) (off' := (i / 8)) rfl rfl rfl rfl (by omega) (by omega) (by omega)) ?_; refine KW (k := 4) rfl rfl rfl rfl rfl (Jm rfl (kn 0 rfl) rfl (by rw [Vf]; exact Ye (by omega))) ?_; refine Jw (k := 5) rfl rfl rfl rfl rfl (fun _ hS => (Jo rfl)) ?_
      refine Jw (k := 6) rfl rfl rfl rfl rfl (fun _ _ => (J9 rfl rfl rfl)) ?_; refine W9 (show _ = Value.int .i64 ((i % 8 : Nat) : Int) from congrArg (Value.int .i64) (by first | exact W0 _ _ | exact QM (by omega) (by decide) (by omega) | (rw [wrap_i64 (by omega) (by omega)]; omega))) ?_; refine Jw (k := 7) rfl rfl rfl rfl rfl (fun _ _ => yz (n := i % 8) (b := ((2 ^ (i % 8) : Nat) : Int)) rfl rfl rfl (show _ ≤ 8 from by omega) (Jnd (by omega))) ?_; refine Jw (k := 8) rfl rfl rfl rfl rfl (fun _ _ => vh (op := .or) (m := (Y.getD (i / 8) 0).toNat) (n := 2 ^ (i % 8)) rfl rfl rfl (Vu _) (Nat.pow_lt_pow_right (by decide) (by omega) : 2 ^ (i % 8) < 2 ^ 8) rfl) ?_; refine W9 (Jha _ (by omega)) ?_; refine Jw (k := 9) rfl rfl rfl rfl rfl (fun _ _ => Ki (j := (i / 8)) (m := 1) (off' := (i / 8)) rfl rfl rfl rfl (by omega) (by omega) (by omega)) ?_; refine WB (k := 10) (q := 0) (cs' := ((KP l N (i + 1)).map bV).toArray) rfl rfl rfl rfl rfl rfl rfl rfl (by simp; omega) (by rw [yZ, hst1]) rfl (fun _ h => nomatch h) ?_; refine KC ?_; refine Jg (Jj (hK8 ?_)); clear hK8 K8; refine Ja ?_
      refine JZ rfl ?_; refine Jy (show _ = Value.int .i64 ((i + 1 : Nat) : Int) from by rw [wrap_i64 (by omega) (by omega)]; congr 1 <;> omega) ?_; refine Ji rfl (Jg (J5 ?_)); exact J1 (i + 1) (by omega) (by omega) (.cons rfl (.cons rfl (.cons rfl (.cons rfl (.cons rfl .nil))))) (List.Sublist.refl _) (fun _ _ h => h)
    · try simp only [ZZ] at h11
      refine Jf (Jj (hK8 ?_)); clear hK8 K8; refine Ja ?_
      refine JZ rfl ?_; refine Jy (show _ = Value.int .i64 ((i + 1 : Nat) : Int) from by rw [wrap_i64 (by omega) (by omega)]; congr 1 <;> omega) ?_; refine Ji rfl (Jg (J5 ?_))
      (have hst0 : KP l N (i + 1) = KP l N i := by rw [KP, if_neg (by simp_all)]
       exact J1 (i + 1) (by omega) (by omega) (.cons rfl (.cons rfl (.cons rfl (.cons rfl (.cons rfl .nil))))) (by rw [hst0]; exact List.Sublist.refl _) (fun _ _ h => h))
  · try simp only [ZZ] at h7
    refine JE (Jl ?_); clear hK6 K6; refine Jl (J0 (hK3 ?_)); clear hK3 K3; refine sQ fun K12 hK12 => ?_
    obtain rfl : i = l.length := by omega
    refine JS [] [(0, .pure), (2, .grow (Qt (Jhu (Y4 (KP l N l.length))) (fun x => rV x) (fun x => rL x))), (3, .pure), (5, .pure), (6, .pure), (7, .pure), (8, .pure), (10, .pure)] 11 [0, 1, 3, 4, 5, 6, 7, 2, 8, 9, 10] (by kernel_rfl) (by kernel_rfl) (by first | exact (fun _ h => absurd h List.not_mem_nil) | simp [SubS] | (intro p hp; simp [hp])) ?_; refine Jw (k := 0) rfl rfl rfl rfl rfl (fun _ hS => (Jo rfl)) ?_; refine KW (k := 1) rfl rfl rfl rfl rfl (QH (b := KP l N l.length) (row := some (rm, N, [])) (e := 5) (show _ = some (JF (KP l N l.length).length _) from by rw [Vr]; rfl) ⟨by rw [List.length_map]; omega, by rw [Vr]; simp⟩ (fun p hp => .inl (by rw [List.mem_singleton.1 hp, List.append_nil]; exact List.mem_cons_self)) rfl rfl rfl) ?_
    refine Jw (k := 3) rfl rfl rfl rfl rfl (fun _ hS => (JL rfl rfl rfl)) ?_; refine KW (k := 4) rfl rfl rfl rfl rfl (Jm rfl (kn 1 rfl) rfl rfl) ?_
    refine Jw (k := 5) rfl rfl rfl rfl rfl (fun _ _ => (J9 rfl rfl rfl)) ?_; refine W9 (show _ = Value.int .i64 ((n + 8 : Nat) : Int) from congrArg (Value.int .i64) (by first | exact W0 _ _ | exact QM (by omega) (by decide) (by omega) | (rw [wrap_i64 (by omega) (by omega)]; omega))) ?_
    refine Jw (k := 6) rfl rfl rfl rfl rfl (fun _ _ => (J9 rfl rfl rfl)) ?_; refine W9 (show _ = Value.int .i64 ((n + 7 : Nat) : Int) from congrArg (Value.int .i64) (by first | exact W0 _ _ | exact QM (by omega) (by decide) (by omega) | (rw [wrap_i64 (by omega) (by omega)]; omega))) ?_
    refine Jw (k := 7) rfl rfl rfl rfl rfl (fun _ _ => (J9 rfl rfl rfl)) ?_; refine W9 (show _ = Value.int .i64 (((n + 7) / 8 : Nat) : Int) from congrArg (Value.int .i64) (by first | exact W0 _ _ | exact QM (by omega) (by decide) (by omega) | (rw [wrap_i64 (by omega) (by omega)]; omega))) ?_; refine KZ (k := 2) rfl rfl rfl rfl rfl (enters_of Tryz.func172 (by kernel_rfl) rfl) hcut (fun q hq => nomatch hq) fun x => ?_; refine WA (k := 8) rfl rfl rfl rfl rfl (enters_of Tryz.func173 (by kernel_rfl) rfl) (Jnl (n := (n + 7) / 8) (by omega)) ?_; rw [Jvr]; refine Qp (k := 9) rfl rfl rfl rfl rfl Jf4 (vn hnb (by omega) (Qg x.2 (by decide)) hc32) (fun q hq => .inl (List.mem_append_left _ hq)) ?_; refine Jw (k := 10) rfl rfl rfl rfl rfl (fun _ hS => (JN rfl)) ?_; refine KC ?_; refine nK hK12 ?_; clear hK12 K12; refine Jb (pT rfl rfl rfl fun w1 hs1 => ?_); exact ⟨rfl, hs1.keep⟩
section
variable {c : Cx} {l : Kn} {L E : Jr} {X : XP} {Q : Exit → Act → World → Prop} {d : List Deferred}
variable {ops : Array Oper} {rest : List Nat} {i k : Nat} {v : Value} {o : Oper} {tb : jp} {S : Jr} {T : Jr → Act → Prop}
theorem Jjt {f : Operand} {args : Array Operand} {at_ : Array TypeId} {g : FuncId} {vs : List Value} {Rl : Jr} {ty : TypeId} {ps : String} {af : Array Edge} {gd : Option (Nat × Bool)}
    (hk : Wl ops.toList k = some ⟨some i, .call ⟨.value f, args, at_⟩, ty, ps, af, gd⟩) (hg : Kj l ops ⟨some i, .call ⟨.value f, args, at_⟩, ty, ps, af, gd⟩ = some true) (hi : Nat.ble (i + 1) c.n = true) (hA : tb k = .pure) (hca : KA l f args = some (g, vs)) (eg : Enters c.P g)
    (hp : PureR c.P g vs.toArray v Rl) (hR : ∀ p ∈ Rl, p ∈ S ∨ p ∈ c.R) (h : HB c d ((i, v) :: l) E X S ops tb rest T) : HB c d l E X S ops tb (k :: rest) T := fun a hf => by
  refine ⟨_, QJ hk, ?_⟩; rw [hA]; exact ⟨v, .inl ⟨JB hf hg, fun E' hE' w hs => Xl hf hca eg ((hp.run w fun p hp => (hR p hp).elim (fun h => (hs.own _ (hE' p h)).2.2) hs.readR).mono fun _ _ ⟨he, hk⟩ => ⟨v, he, rfl, hk⟩)⟩, h _ (hf.put (Nat.le_of_ble_eq_true hi))⟩
end
theorem Ze {k : Int} (h7 : k ≠ 7) (h8 : k ≠ 8) (x : Ty) (i : Nat) : JK k 0 [x] i = x := by unfold JK VY; rw [if_neg h7, if_neg h8]; rfl
theorem Jju {l : List Vl} {x : Ty} {i : Nat} {v : Vl} (h : l[i]? = some v) : WX (l.take (i + 1)) x = WX (l.take i) x ++ Vt v x := by
  unfold WX
  rw [List.take_add_one, h]
  simp
theorem Jhw {x : Ty} : ∀ {l : List Vl}, (∀ v ∈ l, (Vt v x).length ≤ 32) → (WX l x).length ≤ 32 * l.length
  | [], _ => by unfold WX; simp
  | v :: l, h => by
    have ih := Jhw (l := l) fun y hy => h y (List.mem_cons_of_mem _ hy)
    have h1 := h v List.mem_cons_self
    unfold WX at ih ⊢
    rw [List.map_cons, List.flatten_cons, List.length_append, List.length_cons]; omega
theorem wY {x : Ty} {v : Vl} (hc : V6 x 0 = 0) (hp : Xw x = true) (hf : Kq v x = 0) : jt x v = (Vt v x, 0) ∧ (Vt v x).length ≤ 32 := by
  obtain ⟨f1, f2, f3, f4⟩ := Zx hc hp
  have h1 := f4 v hf
  have h2 : (Vt v x).length ≤ 32 := by omega
  have h3 : Vv x v = 0 := by unfold Vv; rw [if_pos hc]; exact hf
  unfold jt
  rw [if_neg (by rw [h3]; simp), if_neg (by omega)]; exact ⟨rfl, h2⟩
set_option maxHeartbeats 1000000 in
theorem Jvs {R : Jr} {k : Int} {n : Nat} {p pi : Pl} {x0 : Ty} {items : List Vl} (ht : Ty.In R (.mk k (n : Int) p [x0])) (h7 : k ≠ 7) (h8 : k ≠ 8) (hc : V6 x0 0 = 0) (hs : Seg R items.length (Qj items) pi) (hl : items.length ≤ n) (hn : n ≤ 512)
    (hfit : ∀ v ∈ items, Kq v x0 = 0) (hw : ∀ v ∈ items, wV v ≤ 20000) (hIn : ∀ v ∈ items, v.In R)
    (hb : ∀ (i : Nat) x, items[i]? = some x → PureR Tryz.prog 85 [x0.val, x.val].toArray (J2 (KB x x0)) R) :
    PureR Tryz.prog 127 [Ty.val (.mk k (n : Int) p [x0]), KM items.length pi].toArray (J2 (WS k (n : Int) [x0] items (Kg items k 0 [x0] 0))) R := by
  have hro := zo ht h8 hs (by omega) (fun i _ => by unfold VY; rw [if_neg h7, if_neg h8]; exact Nat.lt_succ_self 0) (fun i x hx => by rw [Ze h7 h8]; exact hb i x hx)
  have hrl := Wv items k 0 [x0] 0
  have hr32 : ∀ s ∈ Kg items k 0 [x0] 0, s.length = 32 := fun s hs => by
    obtain ⟨j, x, h1, rfl⟩ := Yg hs
    rw [Ze h7 h8]; exact Yh x x0 0 hc (hfit x (List.mem_of_getElem? h1))
  have hrt := fun (x : jH (Kg items k 0 [x0] 0)) => vn (m := n) (by omega) (by omega) (Qg (e := 9) x.2 (by decide)) hr32
  have hM : WS k (n : Int) [x0] items (Kg items k 0 [x0] 0) = if Xw x0 = true then Ve (Y4 (WX items x0)) ((n * (JV x0).toNat + 31) / 32) else Ve (Kg items k 0 [x0] 0) n := by
    unfold WS
    rw [if_neg h7]; rfl
  rw [hM]
  have hx0 := ht.sub x0 List.mem_cons_self
  have ht2 := ht
  cases ht with
  | @mk k n p ins hk hn2 hlt hst hit =>
  have hpl := Joo x0
  refine Je Tryz.func127 rfl rfl fun w => ?_; refine sR fun _ hK1 => ?_; refine LN rfl fun r1 => ?_; refine Ji rfl (nK hK1 ?_); refine sQ fun _ hK2 => sR fun _ hK3 => ?_; refine LS 2 [0] rfl rfl ?_
  refine LR rfl (Jp (j := 0) rfl hst rfl rfl rfl (by first | rfl | omega) (Nat.lt_succ_self 0)) ?_; refine LR rfl (KV (fun q hq => Or.inr hq) rfl hst (show [x0][0]? = some x0 from rfl) rfl rfl) ?_; refine JD rfl rfl rfl (enters_of Tryz.func171 (by kernel_rfl) rfl) hpl ?_; refine JZ rfl (nK hK3 ?_); refine Jc rfl (fun h4 => ?_) (fun h4 => ?_)
  try simp only [ZZ] at h4
  refine sQ fun _ hK5 => ?_
  refine JS [] [(1, .pure), (2, .grow (Qt (Jhu (Kg items k 0 [x0] 0)) (fun x => rV x) (fun x => rL x))), (3, .pure), (6, .pure)] 7 [0, 1, 3, 4, 2, 5, 6] (by kernel_rfl) (by kernel_rfl) (by first | exact (fun _ h => absurd h List.not_mem_nil) | simp [SubS] | (intro p hp; simp [hp])) ?_; refine KW (k := 0) rfl rfl rfl rfl rfl (Jq (xs := (Ty.mk k (n : Int) p [x0]).cells) (n := 3) rfl (kn 0 rfl) rfl rfl (Ty.mk k (n : Int) p [x0]).len) ?_; refine Jw (k := 1) rfl rfl rfl rfl rfl (fun _ hS => (Jo rfl)) ?_
  refine Jw (k := 3) rfl rfl rfl rfl rfl (fun _ hS => (JL rfl rfl rfl)) ?_; refine KW (k := 4) rfl rfl rfl rfl rfl (Jm rfl (kn 0 rfl) rfl rfl) ?_; refine KZ (k := 2) rfl rfl rfl rfl rfl (enters_of Tryz.func135 (by kernel_rfl) rfl) hro (fun q hq => .inr hq) fun x => ?_; refine Qp (k := 5) rfl rfl rfl rfl rfl Jf4 (hrt x) (fun q hq => .inl (List.mem_append_left _ hq)) ?_; refine Jw (k := 6) rfl rfl rfl rfl rfl (fun _ hS => (JN rfl)) ?_; refine KC ?_; refine nK hK5 (Jb (Jd ?_)); refine pT rfl rfl rfl fun w1 hs1 => ?_; refine ⟨?_, hs1.keep⟩; rw [if_neg (by rw [Bool.not_eq_true]; assumption)]; rfl
  · try simp only [ZZ] at h4
    refine Jf (hK2 ?_); refine sQ fun _ hK6 => ?_
    have hp : Xw x0 = true := by assumption
    obtain ⟨f1, f2, f3, f4⟩ := Zx hc hp
    obtain ⟨z, hz⟩ : ∃ z, z = (JV x0).toNat := ⟨_, rfl⟩
    have hSz := Jem hx0
    have hsz : vT x0 = (z : Int) := by unfold vT; rw [if_pos f1]; omega
    rw [hsz] at hSz
    have hnz : n * z ≤ 16384 := by
      have := Nat.mul_le_mul hn (show z ≤ 32 by omega)
      omega
    obtain ⟨C, hC⟩ : ∃ C, C = WX items x0 := ⟨_, rfl⟩
    have hCl : C.length = items.length * z := by rw [hC]; exact j9 fun v hv => by have := f4 v (hfit v hv); omega
    have hCn : C.length ≤ n * z := by rw [hCl]; exact Nat.mul_le_mul_right _ hl
    have hcn : (Y4 C).length ≤ (n * z + 31) / 32 := by rw [YX]; unfold xT; omega
    refine Ja (LN rfl fun r2 => ?_); refine nK hK6 (sQ fun _ hK7 => ?_); refine sR fun _ hK8 => Ji rfl (LR rfl (J3 rfl hs rfl) (Ji rfl ?_)); refine nK hK8 ?_; refine Ju (JG (σ := Nat × Vz × Bool) (fun q => q.1 ≤ items.length ∧ bOk (WX (items.take q.1) x0) q.2.1) (fun q => [(2, V9 r1), (5, V9 r2), (22, KM items.length pi), (23, .int .i64 (items.length : Int)), (24, .int .i64 (q.1 : Int))]) (fun q => WR r2 (WX (items.take q.1) x0) q.2.1 q.2.2 ++ [VK r1 (Ty.mk k (n : Int) p [x0])]) (fun _ _ _ => True) (fun q => items.length - q.1) (0, none, false) ⟨Nat.zero_le _, xR⟩ (.cons rfl (.cons rfl (.cons rfl (.cons rfl (.cons rfl .nil))))) (List.Sublist.refl _) (fun _ _ h => h) ?_); rintro ⟨i, row, own⟩ ⟨hi1, hb1⟩; simp only at hi1 hb1; change HC _ _ [(2, _), (5, _), (22, _), (23, _), (24, .int .i64 (i : Int))] (WR r2 (WX (items.take i) x0) row own ++ [VK r1 (Ty.mk k (n : Int) p [x0])]) _ _ _; refine sR fun _ hK9 => JZ rfl (nK hK9 ?_); refine sQ fun _ hK10 => ?_; refine Jc rfl (fun h11 => ?_) (fun h11 => ?_)
    · try simp only [ZZ] at h11
      refine Jf (hK10 ?_); refine sB fun _ hK12 => sQ fun _ hK13 => ?_
      have hil : i < items.length := by omega
      have hix := XD hil
      have hpr := wY hc hp (hfit _ hix.2)
      have hput := Jng hx0 (hIn _ hix.2) (hw _ hix.2)
      rw [hpr.1] at hput
      have hsn := Jju (x := x0) hix.1
      have hcl := Jhw (x := x0) (l := items.take i) fun v hv => (wY hc hp (hfit v (List.mem_of_mem_take hv))).2
      rw [List.length_take] at hcl
      have hp2 := hpr.2
      refine Ja ?_
      refine LR rfl (Jp (j := i) rfl hs rfl rfl rfl (by first | rfl | omega) (by omega)) ?_; refine LR rfl (QI (fun q hq => Or.inr hq) rfl hs hix.1 rfl rfl) ?_; refine QF (cs := #[.int .u64 0, .int .u64 0, .int .u64 0, .int .u64 0, .slice none 0 0, .slice none 0 0, .int .i64 0]) rfl rfl rfl rfl fun rv => ?_; refine Jz (k := 0) (n := 7) (ys := (XC items i).cells) rfl rfl rfl rfl rfl (XC items i).len rfl (XC items i).one rfl ?_; refine nK hK13 (sQ fun _ hK14 => ?_); refine Ka 11 (by kernel_rfl) (by kernel_rfl) ?_
      refine Jk rfl rfl rfl (JL rfl rfl rfl) ?_; refine Jk rfl rfl rfl (Jm (v := KM 1 p) rfl (.inl (List.mem_cons_of_mem _ (List.mem_append_right _ List.mem_cons_self))) rfl rfl) ?_
      refine Jk rfl rfl rfl (Jp (j := 0) rfl hst rfl rfl rfl (by first | rfl | omega) (Nat.lt_succ_self 0)) ?_; refine Jk rfl rfl rfl (KV (fun q hq => Or.inr hq) rfl hst (show [x0][0]? = some x0 from rfl) rfl rfl) ?_; refine Jk rfl rfl rfl (Jq (xs := (XC items i).cells) (n := 7) rfl (kn 0 rfl) rfl rfl (XC items i).len) ?_; refine Xn rfl rfl rfl (enters_of Tryz.func52 (by kernel_rfl) rfl) hput (fun q hq => Or.inr hq) ?_; refine Jk rfl rfl rfl (Jo rfl) ?_; refine Jk rfl rfl rfl (Qh rfl rfl) ?_; refine Jk rfl rfl rfl (Qh rfl rfl) ?_; refine Jk rfl rfl rfl (JN rfl) ?_; refine Jk rfl rfl rfl (JN rfl) ?_; refine Kt ?_; refine nK hK14 ?_; refine Ja (Ji rfl (Vn (T := WR r2 (WX (items.take i) x0) row own) (L0 := _ :: [VK r1 (Ty.mk k (n : Int) p [x0])]) (Rl := []) List.perm_middle.symm rfl rfl rfl Jf2 (vo hb1 (s2 := Vt (XC items i) x0) (by omega)) (fun q hq => nomatch hq) fun x => ?_))
      obtain ⟨rowx, hbx⟩ := x
      refine Jg (Jj (hK12 ?_)); refine Ja ?_
      refine JZ rfl ?_; refine Jy (show _ = Value.int .i64 ((i + 1 : Nat) : Int) from by rw [wrap_i64 (by omega) (by omega)]; congr 1 <;> omega) ?_; refine Ji rfl (Jg (J5 ?_)); refine j3 (L' := WR r2 (WX (items.take (i + 1)) x0) rowx true ++ [VK r1 (Ty.mk k (n : Int) p [x0])]) (by rw [hsn]; exact (List.Sublist.refl _).append (.cons _ (List.Sublist.refl _))) ?_; exact J1 (i + 1, rowx, true) ⟨by simp only; omega, by simp only; rw [hsn]; exact hbx⟩ (by simp only; omega) (.cons rfl (.cons rfl (.cons rfl (.cons rfl (.cons rfl .nil))))) (List.Sublist.refl _) (fun _ _ h => h)
    · try simp only [ZZ] at h11
      refine JE (Jl ?_); refine Jl (J0 (hK7 ?_)); refine sQ fun _ hK15 => ?_
      obtain rfl : i = items.length := by omega
      rw [List.take_length, ← hC] at hb1; rw [List.take_length, ← hC]; refine JS [VK r1 (Ty.mk k (n : Int) p [x0])] [(0, .turn), (1, .grow (Qt (Jhu (Y4 C)) (fun x => rV x) (fun x => rL x))), (2, .pure), (3, .pure), (4, .pure), (5, .pure), (6, .pure), (7, .pure), (8, .pure), (9, .pure), (10, .pure)] 11 [2, 3, 4, 5, 6, 7, 0, 1, 8, 9, 10] (by kernel_rfl) (by kernel_rfl) (fun p hp => List.mem_append_right _ hp) ?_
      refine Jw (k := 2) rfl rfl rfl rfl rfl (fun _ hS => (JL rfl rfl rfl)) ?_; refine Jw (k := 3) rfl rfl rfl rfl rfl (fun E' hS => Jm (v := .int .i64 (n : Int)) rfl (.inl (hS _ List.mem_cons_self)) rfl rfl) ?_
      refine Jw (k := 4) rfl rfl rfl rfl rfl (fun _ hS => (JL rfl rfl rfl)) ?_; refine Jw (k := 5) rfl rfl rfl rfl rfl (fun E' hS => Jm (v := KM 1 p) rfl (.inl (hS _ List.mem_cons_self)) rfl rfl) ?_
      refine Jw (k := 6) rfl rfl rfl rfl rfl (fun E' hS => Jp (j := 0) rfl hst rfl rfl rfl (by first | rfl | omega) (Nat.lt_succ_self 0)) ?_; refine Jw (k := 7) rfl rfl rfl rfl rfl (fun E' hS => KV (fun q hq => Or.inr hq) rfl hst (show [x0][0]? = some x0 from rfl) rfl rfl) ?_; refine Jok (k := 0) (T0 := WR r2 C row own) (L0 := [VK r1 (Ty.mk k (n : Int) p [x0])]) (Rl := []) (List.Perm.refl _) rfl rfl rfl rfl rfl Jlg (Jfa hb1 (by omega)) (fun q hq => nomatch hq) (fun _ p hp => hp) fun u => ?_; refine KZ (k := 1) rfl rfl rfl rfl rfl (enters_of Tryz.func172 (by kernel_rfl) rfl) (Jon (s := C) (by omega)) (fun q hq => nomatch hq) fun x => ?_; refine Jjt (k := 8) rfl rfl rfl rfl rfl Jll hSz (fun q hq => .inr hq) ?_; refine Jw (k := 9) rfl rfl rfl rfl rfl (fun _ _ => (J9 rfl rfl rfl)) ?_; refine W9 (show _ = Value.int .i64 ((n * z : Nat) : Int) from congrArg (Value.int .i64) (by rw [← Int.natCast_mul]; exact wrap_i64 (by omega) (by omega))) ?_; refine WA (k := 10) rfl rfl rfl rfl rfl (enters_of Tryz.func173 (by kernel_rfl) rfl) (Jnl (n := n * z) (by omega)) ?_; refine KC ?_; refine Jh rfl rfl rfl Jf4 (vn hcn (by omega) (Qg x.2 (by decide)) (Zw _)) (fun q hq => .inl (List.mem_append_left _ hq)) ?_; refine Ji rfl (nK hK15 ?_); refine Jb (pT rfl rfl rfl fun w1 hs1 => ?_); refine ⟨?_, hs1.keep⟩; rw [if_pos hp, ← hz, ← hC]; rfl
section
variable {R : Jr} {k n : Int} {p : Pl} {ins : List Ty} {a b c d : Nat} {bits : List Bool} {pb : Pl} {items : List Vl} {pi : Pl} {pick : Int} {s : BS}
theorem Jyp (h : PureR Tryz.prog 127 [Ty.val (.mk k n p ins), KM items.length pi].toArray (J2 s) R) : PureR Tryz.prog 126 [Ty.val (.mk k n p ins), Vl.val (.mk a b c d bits pb items pi pick)].toArray (J2 s) R := by
  refine Je Tryz.func126 rfl rfl fun w => ?_; refine sR fun _ hK1 => ?_; refine LN rfl fun r1 => ?_; refine LN rfl fun r2 => ?_; refine Ji rfl (nK hK1 ?_); refine sR fun _ hK2 => ?_; refine LR rfl (Jq (xs := (Ty.mk k n p ins).cells) (n := 3) rfl (kn 1 rfl) rfl rfl (Ty.mk k n p ins).len) ?_
  refine LS 2 [0] rfl rfl ?_; refine Jh rfl rfl rfl (enters_of Tryz.func127 (by kernel_rfl) rfl) h (fun q hq => Or.inr hq) ?_; refine Ji rfl (nK hK2 ?_); refine Jb (pT rfl rfl rfl fun w1 hs1 => ?_); exact ⟨rfl, hs1.keep⟩
theorem Jyq (hs : Seg R items.length (Qj items) pi) (h32 : s.length = 32) (hl : items.length ≤ 512) (h : PureR Tryz.prog 127 [Ty.val (.mk k n p ins), KM items.length pi].toArray (J2 s) R) : PureR Tryz.prog 128 [Ty.val (.mk k n p ins), Vl.val (.mk a b c d bits pb items pi pick)].toArray (J2 (XQ s items.length)) R := by
  refine Je Tryz.func128 rfl rfl fun w => ?_; refine sR fun _ hK1 => ?_; refine LN rfl fun r1 => ?_; refine LN rfl fun r2 => ?_; refine Ji rfl (nK hK1 ?_); refine sQ fun _ hK2 => ?_
  refine JS [] [(1, .pure), (4, .pure), (6, .pure), (7, .pure), (8, .pure)] 9 [0, 1, 2, 4, 5, 6, 3, 7, 8] (by kernel_rfl) (by kernel_rfl) (by first | exact (fun _ h => absurd h List.not_mem_nil) | simp [SubS] | (intro p hp; simp [hp])) ?_; refine KW (k := 0) rfl rfl rfl rfl rfl (Jq (xs := (Ty.mk k n p ins).cells) (n := 3) rfl (kn 1 rfl) rfl rfl (Ty.mk k n p ins).len) ?_
  refine Jw (k := 1) rfl rfl rfl rfl rfl (fun _ hS => (JL rfl rfl rfl)) ?_; refine KW (k := 2) rfl rfl rfl rfl rfl (Jm rfl (kn 0 rfl) rfl rfl) ?_
  refine Jw (k := 4) rfl rfl rfl rfl rfl (fun _ hS => (JL rfl rfl rfl)) ?_; refine KW (k := 5) rfl rfl rfl rfl rfl (Jm rfl (kn 0 rfl) rfl rfl) ?_; refine Jw (k := 6) rfl rfl rfl rfl rfl (fun _ hS => (J3 rfl hs rfl)) ?_; refine Qp (k := 3) rfl rfl rfl rfl rfl (enters_of Tryz.func127 (by kernel_rfl) rfl) h (fun q hq => Or.inr hq) ?_; refine WA (k := 7) rfl rfl rfl rfl rfl Jlj (Jm9 (by omega) (by omega)) ?_; refine Jw (k := 8) rfl rfl rfl rfl rfl (fun _ hS => (JN rfl)) ?_; refine KC ?_; refine nK hK2 (Jb ?_); refine pT rfl rfl rfl fun w1 hs1 => ?_; exact ⟨rfl, hs1.keep⟩
theorem Jyr (h : PureR Tryz.prog 131 [Ty.val (.mk k n p ins), KM bits.length pb].toArray (J2 s) R) : PureR Tryz.prog 130 [Ty.val (.mk k n p ins), Vl.val (.mk a b c d bits pb items pi pick)].toArray (J2 s) R := by
  refine Je Tryz.func130 rfl rfl fun w => ?_; refine sR fun _ hK1 => ?_; refine LN rfl fun r1 => ?_; refine LN rfl fun r2 => ?_; refine Ji rfl (nK hK1 ?_); refine sR fun _ hK2 => ?_; refine LR rfl (Jq (xs := (Ty.mk k n p ins).cells) (n := 3) rfl (kn 1 rfl) rfl rfl (Ty.mk k n p ins).len) ?_
  refine LS 2 [0] rfl rfl ?_; refine Jh rfl rfl rfl (enters_of Tryz.func131 (by kernel_rfl) rfl) h (fun q hq => Or.inr hq) ?_; refine Ji rfl (nK hK2 ?_); refine Jb (pT rfl rfl rfl fun w1 hs1 => ?_); exact ⟨rfl, hs1.keep⟩
theorem Jys (hs : Seg R bits.length (Qy bits) pb) (h32 : s.length = 32) (hl : bits.length ≤ 512) (h : PureR Tryz.prog 131 [Ty.val (.mk k n p ins), KM bits.length pb].toArray (J2 s) R) : PureR Tryz.prog 132 [Ty.val (.mk k n p ins), Vl.val (.mk a b c d bits pb items pi pick)].toArray (J2 (XQ s bits.length)) R := by
  refine Je Tryz.func132 rfl rfl fun w => ?_; refine sR fun _ hK1 => ?_; refine LN rfl fun r1 => ?_; refine LN rfl fun r2 => ?_; refine Ji rfl (nK hK1 ?_); refine sQ fun _ hK2 => ?_
  refine JS [] [(1, .pure), (4, .pure), (6, .pure), (7, .pure), (8, .pure)] 9 [0, 1, 2, 4, 5, 6, 3, 7, 8] (by kernel_rfl) (by kernel_rfl) (by first | exact (fun _ h => absurd h List.not_mem_nil) | simp [SubS] | (intro p hp; simp [hp])) ?_; refine KW (k := 0) rfl rfl rfl rfl rfl (Jq (xs := (Ty.mk k n p ins).cells) (n := 3) rfl (kn 1 rfl) rfl rfl (Ty.mk k n p ins).len) ?_
  refine Jw (k := 1) rfl rfl rfl rfl rfl (fun _ hS => (JL rfl rfl rfl)) ?_; refine KW (k := 2) rfl rfl rfl rfl rfl (Jm rfl (kn 0 rfl) rfl rfl) ?_
  refine Jw (k := 4) rfl rfl rfl rfl rfl (fun _ hS => (JL rfl rfl rfl)) ?_; refine KW (k := 5) rfl rfl rfl rfl rfl (Jm rfl (kn 0 rfl) rfl rfl) ?_; refine Jw (k := 6) rfl rfl rfl rfl rfl (fun _ hS => (J3 rfl hs rfl)) ?_; refine Qp (k := 3) rfl rfl rfl rfl rfl (enters_of Tryz.func131 (by kernel_rfl) rfl) h (fun q hq => Or.inr hq) ?_; refine WA (k := 7) rfl rfl rfl rfl rfl Jlj (Jm9 (by omega) (by omega)) ?_; refine Jw (k := 8) rfl rfl rfl rfl rfl (fun _ hS => (JN rfl)) ?_; refine KC ?_; refine nK hK2 (Jb ?_); refine pT rfl rfl rfl fun w1 hs1 => ?_; exact ⟨rfl, hs1.keep⟩
theorem Jyt {l : List BS} (hst : Seg R ins.length (zR ins) p) (hl : l.length ≤ ins.length) (hn : ins.length ≤ 16) (h32 : ∀ s ∈ l, s.length = 32) (h : PureT (α := jH l) Tryz.prog 135 [Ty.val (.mk k n p ins), KM items.length pi].toArray (fun x => rV x) [] (fun x => rL x) R) :
    PureR Tryz.prog 133 [Ty.val (.mk k n p ins), Vl.val (.mk a b c d bits pb items pi pick)].toArray (J2 (Ve l ins.length)) R := by
  refine Je Tryz.func133 rfl rfl fun w => ?_; refine sR fun _ hK1 => ?_; refine LN rfl fun r1 => ?_; refine LN rfl fun r2 => ?_; refine Ji rfl (nK hK1 ?_); refine sQ fun _ hK2 => ?_
  refine JS [] [(1, .pure), (3, .grow (Qt (Jhu l) (fun x => rV x) (fun x => rL x))), (4, .pure), (6, .pure), (8, .pure)] 9 [0, 1, 2, 4, 5, 6, 3, 7, 8] (by kernel_rfl) (by kernel_rfl) (by first | exact (fun _ h => absurd h List.not_mem_nil) | simp [SubS] | (intro p hp; simp [hp])) ?_; refine KW (k := 0) rfl rfl rfl rfl rfl (Jq (xs := (Ty.mk k n p ins).cells) (n := 3) rfl (kn 1 rfl) rfl rfl (Ty.mk k n p ins).len) ?_
  refine Jw (k := 1) rfl rfl rfl rfl rfl (fun _ hS => (JL rfl rfl rfl)) ?_; refine KW (k := 2) rfl rfl rfl rfl rfl (Jm rfl (kn 0 rfl) rfl rfl) ?_
  refine Jw (k := 4) rfl rfl rfl rfl rfl (fun _ hS => (JL rfl rfl rfl)) ?_; refine KW (k := 5) rfl rfl rfl rfl rfl (Jm rfl (kn 1 rfl) rfl rfl) ?_; refine Jw (k := 6) rfl rfl rfl rfl rfl (fun _ hS => (J3 rfl hst rfl)) ?_; refine KZ (k := 3) rfl rfl rfl rfl rfl (enters_of Tryz.func135 (by kernel_rfl) rfl) h (fun q hq => .inr hq) fun x => ?_; refine Qp (k := 7) rfl rfl rfl rfl rfl Jf4 (vn hl (by omega) (Qg x.2 (by decide)) h32) (fun q hq => .inl (List.mem_append_left _ hq)) ?_; refine Jw (k := 8) rfl rfl rfl rfl rfl (fun _ hS => (JN rfl)) ?_; refine KC ?_; refine nK hK2 (Jb ?_); refine pT rfl rfl rfl fun w1 hs1 => ?_; exact ⟨rfl, hs1.keep⟩
theorem Jyu {m : Nat} {y : Ty} {x : Vl} (hst : Seg R ins.length (zR ins) p) (hs : Seg R items.length (Qj items) pi) (hm : m ≤ 8) (hy : ins[m]? = some y) (hx : items[0]? = some x) (h32 : s.length = 32) (h : PureR Tryz.prog 85 [y.val, x.val].toArray (J2 s) R) :
    PureR Tryz.prog 136 [Ty.val (.mk k n p ins), Vl.val (.mk a b c d bits pb items pi (m : Int))].toArray (J2 (XQ s m)) R := by
  have hm1 := (List.getElem?_eq_some_iff.1 hy).1
  have hm2 := (List.getElem?_eq_some_iff.1 hx).1
  refine Je Tryz.func136 rfl rfl fun w => ?_; refine sR fun _ hK1 => ?_; refine LN rfl fun r1 => ?_; refine LN rfl fun r2 => ?_; refine Ji rfl (nK hK1 ?_); refine sQ fun _ hK2 => ?_
  refine JS [] [(0, .pure), (2, .pure), (4, .pure), (6, .pure), (8, .pure), (11, .pure), (13, .pure), (14, .pure)] 15 [0, 1, 2, 3, 4, 5, 6, 7, 8, 9, 11, 12, 10, 13, 14] (by kernel_rfl) (by kernel_rfl) (by first | exact (fun _ h => absurd h List.not_mem_nil) | simp [SubS] | (intro p hp; simp [hp])) ?_
  refine Jw (k := 0) rfl rfl rfl rfl rfl (fun _ hS => (JL rfl rfl rfl)) ?_; refine KW (k := 1) rfl rfl rfl rfl rfl (Jm rfl (kn 1 rfl) rfl rfl) ?_
  refine Jw (k := 2) rfl rfl rfl rfl rfl (fun _ hS => (JL rfl rfl rfl)) ?_; refine KW (k := 3) rfl rfl rfl rfl rfl (Jm rfl (kn 0 rfl) rfl rfl) ?_; refine Jw (k := 4) rfl rfl rfl rfl rfl (fun E' hS => Jp (j := m) rfl hst rfl rfl rfl rfl hm1) ?_; refine KW (k := 5) rfl rfl rfl rfl rfl (KV (fun q hq => Or.inr hq) rfl hst hy rfl rfl) ?_
  refine Jw (k := 6) rfl rfl rfl rfl rfl (fun _ hS => (JL rfl rfl rfl)) ?_; refine KW (k := 7) rfl rfl rfl rfl rfl (Jm rfl (kn 0 rfl) rfl rfl) ?_
  refine Jw (k := 8) rfl rfl rfl rfl rfl (fun E' hS => Jp (j := 0) rfl hs rfl rfl rfl (by first | rfl | omega) hm2) ?_; refine KW (k := 9) rfl rfl rfl rfl rfl (QI (fun q hq => Or.inr hq) rfl hs hx rfl rfl) ?_
  refine Jw (k := 11) rfl rfl rfl rfl rfl (fun _ hS => (JL rfl rfl rfl)) ?_; refine KW (k := 12) rfl rfl rfl rfl rfl (Jm rfl (kn 0 rfl) rfl rfl) ?_; refine Qp (k := 10) rfl rfl rfl rfl rfl Jqo h (fun q hq => Or.inr hq) ?_; refine WA (k := 13) rfl rfl rfl rfl rfl Jlj (Jm9 (by omega) (by omega)) ?_; refine Jw (k := 14) rfl rfl rfl rfl rfl (fun _ hS => (JN rfl)) ?_; refine KC ?_; refine nK hK2 (Jb ?_); refine pT rfl rfl rfl fun w1 hs1 => ?_; exact ⟨rfl, hs1.keep⟩
theorem XK {g : FuncId} (hlk : QP YB (.int .i64 k) (rootM.toList.map XL) = some (.func (.func g) #[] #[])) (eg : Enters Tryz.prog g) (hg : PureR Tryz.prog g [Ty.val (.mk k n p ins), Vl.val (.mk a b c d bits pb items pi pick)].toArray (J2 s) R) :
    PureR Tryz.prog 85 [Ty.val (.mk k n p ins), Vl.val (.mk a b c d bits pb items pi pick)].toArray (J2 s) R := by
  refine Je Tryz.func85 rfl rfl fun w => ?_; refine sR fun _ hK1 => ?_; refine LN rfl fun r1 => ?_; refine LN rfl fun r2 => ?_; refine Ji rfl (nK hK1 ?_); refine sR fun _ hK2 => ?_; refine vV rfl rfl fun rm => ?_; refine KY (q := 0) (key := .int .i64 1) (val := .func (.func 125) #[] #[]) (X6 (t := 3) (by kernel_rfl)) rfl rfl rfl rfl rfl rfl ⟨_, rfl⟩ (by intro e he; simp at he) rfl rfl ?_
  refine KY (q := 0) (key := .int .i64 2) (val := .func (.func 125) #[] #[]) (X6 (t := 3) (by kernel_rfl)) rfl rfl rfl rfl rfl rfl ⟨_, rfl⟩ (by intro e he; simp at he; rcases he with rfl <;> exact ⟨_, rfl⟩) rfl rfl ?_
  refine KY (q := 0) (key := .int .i64 3) (val := .func (.func 126) #[] #[]) (X6 (t := 3) (by kernel_rfl)) rfl rfl rfl rfl rfl rfl ⟨_, rfl⟩ (by intro e he; simp at he; rcases he with rfl | rfl <;> exact ⟨_, rfl⟩) rfl rfl ?_
  refine KY (q := 0) (key := .int .i64 4) (val := .func (.func 128) #[] #[]) (X6 (t := 3) (by kernel_rfl)) rfl rfl rfl rfl rfl rfl ⟨_, rfl⟩ (by intro e he; simp at he; rcases he with rfl | rfl | rfl <;> exact ⟨_, rfl⟩) rfl rfl ?_
  refine KY (q := 0) (key := .int .i64 5) (val := .func (.func 130) #[] #[]) (X6 (t := 3) (by kernel_rfl)) rfl rfl rfl rfl rfl rfl ⟨_, rfl⟩ (by intro e he; simp at he; rcases he with rfl | rfl | rfl | rfl <;> exact ⟨_, rfl⟩) rfl rfl ?_
  refine KY (q := 0) (key := .int .i64 6) (val := .func (.func 132) #[] #[]) (X6 (t := 3) (by kernel_rfl)) rfl rfl rfl rfl rfl rfl ⟨_, rfl⟩ (by intro e he; simp at he; rcases he with rfl | rfl | rfl | rfl | rfl <;> exact ⟨_, rfl⟩) rfl rfl ?_
  refine KY (q := 0) (key := .int .i64 7) (val := .func (.func 133) #[] #[]) (X6 (t := 3) (by kernel_rfl)) rfl rfl rfl rfl rfl rfl ⟨_, rfl⟩ (by intro e he; simp at he; rcases he with rfl | rfl | rfl | rfl | rfl | rfl <;> exact ⟨_, rfl⟩) rfl rfl ?_
  refine KY (q := 0) (key := .int .i64 8) (val := .func (.func 136) #[] #[]) (X6 (t := 3) (by kernel_rfl)) rfl rfl rfl rfl rfl rfl ⟨_, rfl⟩ (by intro e he; simp at he; rcases he with rfl | rfl | rfl | rfl | rfl | rfl | rfl <;> exact ⟨_, rfl⟩) rfl rfl ?_; change HL _ _ _ ((rm, .map rootM 8) :: _) _ _ _ _; refine LS 2 [] rfl rfl (nK hK2 ?_); refine sR fun _ hK3 => Ji rfl ?_
  refine LS 2 [2] rfl rfl ?_; refine LR rfl (XW (v := .func (.func g) #[] #[]) (X6 (t := 3) (by kernel_rfl)) rfl rfl (kn 0 rfl) rfl rfl ⟨_, rfl⟩ Jja (by show (QP YB (.int .i64 k) (rootM.toList.map XL)).getD _ = _; rw [hlk]; rfl)) ?_; refine LS 2 [2, 1] rfl rfl ?_; refine Jh rfl rfl rfl eg hg (fun q hq => Or.inr hq) ?_; refine Ji rfl (nK hK3 ?_); refine Jb (pT rfl rfl rfl fun w1 hs1 => ?_); exact ⟨rfl, hs1.keep⟩
end
theorem Jjv {l : List Vl} {k pick : Int} {ins : List Ty} (h : l.length = 1) : (Kg l k pick ins 0).headD [] = KB (XC l 0) (JK k pick ins 0) := by
  match l, h with
  | [x], _ => rw [Kg]; rfl
theorem Jop {a b c d : Nat} {bits : List Bool} {pb : Pl} {items : List Vl} {pi : Pl} {pick k n : Int} {p : Pl} {ins : List Ty} (hcz : V6 (.mk k n p ins) 0 = 0) (hfit : Kq (.mk a b c d bits pb items pi pick) (.mk k n p ins) = 0) (hk : k = 3 ∨ k = 4 ∨ k = 7) : (WS k n ins items (Kg items k 0 ins 0)).length = 32 := by
  obtain ⟨q1, q2, q3⟩ := wD hcz hfit
  have hrow := fun (j : Nat) x (h : items[j]? = some x) => Jhc hcz hfit (by omega) h
  have hrs : ∀ s ∈ Kg items k 0 ins 0, s.length = 32 := fun s hs => by
    obtain ⟨j, x, h1, rfl⟩ := Yg hs
    rw [Nat.zero_add]
    obtain ⟨_, r1, r2, r3⟩ := hrow j x h1
    exact Yh x _ 0 r2 r3
  have hrl := Wv items k 0 ins 0
  unfold WS
  by_cases h7 : k = 7
  · rw [if_pos h7]
    exact VW (by have := q3 h7; omega) hrs
  · rw [if_neg h7]
    obtain ⟨w1, w2, w3, w4⟩ := q1 (by omega)
    match ins, w4 with
    | [x0], _ =>
    rw [show [x0].getD 0 default = x0 from rfl]
    by_cases hp : Xw x0 = true
    · rw [if_pos hp]
      have hc0 := XH hcz _ List.mem_cons_self
      obtain ⟨f1, f2, f3, f4⟩ := Zx hc0 hp
      refine VW ?_ (Zw _); rw [YX]
      unfold xT
      have hz : ∀ v ∈ items, (Vt v x0).length = (JV x0).toNat := fun v hv => by
        obtain ⟨j, hj⟩ := List.getElem?_of_mem hv
        have hg := (hrow j v hj).2.2.2
        rw [Ze h7 (by omega)] at hg
        have := f4 v hg
        omega
      rw [j9 hz]
      have hm : items.length * (JV x0).toNat ≤ n.toNat * (JV x0).toNat := Nat.mul_le_mul_right _ (by omega)
      omega
    · rw [if_neg hp]
      exact VW (by omega) hrs
set_option maxHeartbeats 1000000 in
theorem Jvt {R : Jr} {v : Vl} (hv : v.In R) : ∀ (t : Ty) (dp : Nat), t.In R → V6 t (dp : Int) = 0 → Kq v t = 0 → wV v ≤ 20000 → PureR Tryz.prog 85 [t.val, v.val].toArray (J2 (KB v t)) R := by
  have hv0 := hv
  induction hv with
  | @mk a b c d bits pb items pi pick ha hb hcc hd hlb hsb hl hs hp hi ih =>
  intro t dp ht hck hfit hw
  obtain ⟨k, n, p, ins⟩ := t
  have ht0 := ht
  cases ht with
  | mk hk hn hlt hst hit =>
  obtain ⟨hk8, ho, h6, hci⟩ := QQ hck
  obtain ⟨hf1, hf2, hf3⟩ := Xd hfit
  obtain ⟨m1, m2, m3, m4⟩ := Jc0 hck hfit
  obtain ⟨q1, q2, q3⟩ := wD hck hfit
  have hcz := wC hck
  have hrow := fun (h8 : k ≠ 8) (j : Nat) x (h : items[j]? = some x) => Jhc hcz hfit h8 h
  have hwi : ∀ x ∈ items, wV x ≤ 20000 := fun x hx => Nat.le_trans (Jfb hx) hw
  have hrec : k ≠ 8 → ∀ (i : Nat) x, items[i]? = some x → PureR Tryz.prog 85 [(JK k 0 ins i).val, x.val].toArray (J2 (KB x (JK k 0 ins i))) R := fun h8 i x hx => by
    obtain ⟨_, r1, r2, r3⟩ := hrow h8 i x hx
    have hm := List.mem_of_getElem? hx
    exact ih x hm (hi x hm) _ 0 (hit _ r1) r2 r3 (hwi x hm)
  have hlen := Yh _ _ dp hck hfit
  rw [WJ] at hlen ⊢
  by_cases h1 : k = 1
  · subst h1
    rw [if_pos (.inl rfl)]; exact XK rfl (enters_of Tryz.func125 (by kernel_rfl) rfl) (Jcq _ hv0).toR
  by_cases h2 : k = 2
  · subst h2
    rw [if_pos (.inr rfl)]; exact XK rfl (enters_of Tryz.func125 (by kernel_rfl) rfl) (Jcq _ hv0).toR
  rw [if_neg (by omega)] at hlen ⊢
  have hone : k ≠ 7 → k ≠ 8 → ∀ x0, ins = [x0] → ∀ N : Nat, n = (N : Int) → N ≤ 512 → items.length ≤ N → PureR Tryz.prog 127 [Ty.val (.mk k n p ins), KM items.length pi].toArray (J2 (WS k n ins items (Kg items k 0 ins 0))) R := fun h7 h8 x0 e N en hN hle => by
    subst e; subst en; refine Jvs ht0 h7 h8 (XH hcz _ List.mem_cons_self) hs hle hN (fun v hv => ?_) hwi hi fun i x hx => ?_
    · obtain ⟨j, hj⟩ := List.getElem?_of_mem hv
      have := (hrow h8 j v hj).2.2.2
      rwa [Ze h7 h8] at this
    · have := hrec h8 i x hx
      rwa [Ze h7 h8] at this
  by_cases h4 : k = 4
  · subst h4
    obtain ⟨w1, w2, w3, w4⟩ := q1 (.inr rfl)
    rw [if_pos rfl, wA (by decide)] at hlen ⊢
    have hrl : (WS 4 n ins items (Kg items 4 0 ins 0)).length = 32 := Jop hcz hfit (.inr (.inl rfl))
    obtain ⟨x0, hx0⟩ := List.length_eq_one_iff.1 w4
    exact XK rfl (enters_of Tryz.func128 (by kernel_rfl) rfl) (Jyq hs hrl m1 (hone (by decide) (by decide) x0 hx0 n.toNat (by omega) (by omega) (by omega)))
  rw [if_neg h4] at hlen ⊢
  by_cases h5 : k = 5
  · subst h5
    obtain ⟨w1, w2, w3⟩ := q2 (.inl rfl)
    rw [if_pos rfl] at hlen ⊢; refine XK rfl (enters_of Tryz.func130 (by kernel_rfl) rfl) (Jyr ?_)
    have := Jhv (k := 5) (p := p) (ins := ins) (l := bits) (n := n.toNat) (by omega) (by omega) hsb
    rwa [show ((n.toNat : Nat) : Int) = n by omega] at this
  rw [if_neg h5] at hlen ⊢
  by_cases h6 : k = 6
  · subst h6
    obtain ⟨w1, w2, w3⟩ := q2 (.inr rfl)
    rw [if_pos rfl] at hlen ⊢; refine XK rfl (enters_of Tryz.func132 (by kernel_rfl) rfl) (Jys hsb (VW (qi w3) (Zw _)) m2 ?_)
    have := Jhv (k := 6) (p := p) (ins := ins) (l := bits) (n := n.toNat) (by omega) (by omega) hsb
    rwa [show ((n.toNat : Nat) : Int) = n by omega] at this
  rw [if_neg h6] at hlen ⊢
  by_cases h8 : k = 8
  · subst h8
    obtain ⟨w1, w2, w3, w4⟩ := m4 rfl
    obtain ⟨m, rfl⟩ : ∃ m : Nat, pick = (m : Int) := ⟨pick.toNat, by omega⟩
    have hx8 := XD (l := items) (i := 0) (by omega)
    have hg := Wf (j := 0) hf3 hx8.1
    have hin := qc (v := .mk a b c d bits pb items pi (m : Int)) (i := 0) hcz hf2 (show 0 < items.length by omega)
    have hty := Qn hin
    have hX := ih _ hx8.2 (hi _ hx8.2) _ 0 (hit _ hty.2) (XH hcz _ hty.2) hg (hwi _ hx8.2)
    have hXl := Yh _ _ 0 (XH hcz _ hty.2) hg
    rw [if_pos rfl, Jjv w1, Int.toNat_natCast]; exact XK rfl (enters_of Tryz.func136 (by kernel_rfl) rfl) (Jyu hst hs (by omega) (show ins[m]? = some _ from hty.1) hx8.1 hXl hX)
  rw [if_neg h8, wA h8] at hlen ⊢
  by_cases h3 : k = 3
  · subst h3
    obtain ⟨w1, w2, w3, w4⟩ := q1 (.inl rfl)
    obtain ⟨x0, hx0⟩ := List.length_eq_one_iff.1 w4
    exact XK rfl (enters_of Tryz.func126 (by kernel_rfl) rfl) (Jyp (hone (by decide) (by decide) x0 hx0 n.toNat (by omega) (by omega) (by omega)))
  have h7 : k = 7 := by omega
  subst h7
  obtain ⟨w1, w2, w3⟩ := q3 rfl
  have hM : WS 7 n ins items (Kg items 7 0 ins 0) = Ve (Kg items 7 0 ins 0) ins.length := by unfold WS; rw [if_pos rfl]
  rw [hM]
  have hrl := Wv items 7 0 ins 0
  refine XK rfl (enters_of Tryz.func133 (by kernel_rfl) rfl) (Jyt hst (by omega) w3 (fun s hs => ?_) (zo ht0 (by decide) hs (by omega) (fun i hi => ?_) (hrec (by decide))))
  · obtain ⟨j, x, h1, rfl⟩ := Yg hs
    rw [Nat.zero_add]
    obtain ⟨_, r1, r2, r3⟩ := hrow (by decide) j x h1
    exact Yh x _ 0 r2 r3
  · show i < ins.length
    omega
def Yl (t : Ty) (v : Vl) : BS × Int := if Vv t v ≠ 0 then ([], Vv t v) else (KB v t, 0)
theorem Jsh {R : Jr} {t : Ty} {v : Vl} (ht : t.In R) (hv : v.In R) (hw : wV v ≤ 20000) : PureR Tryz.prog 58 [t.val, v.val].toArray (ZI (Yl t v)) R := by
  have h1 := Jl7 ht hv
  have h2 := fun h => Jvt hv t 0 ht (Y3 (t := t) (v := v) h).1 (Y3 h).2 hw
  unfold Yl
  generalize Vv t v = e at h1 h2 ⊢
  generalize KB v t = s at h2 ⊢
  obtain ⟨k, n, p, ins⟩ := t
  obtain ⟨a, b, c, d, bits, pb, items, pi, pick⟩ := v
  refine Je Tryz.func58 rfl rfl fun w => ?_; refine sR fun _ hK1 => ?_; refine LN rfl fun r1 => ?_; refine LN rfl fun r2 => ?_; refine LS 2 [] rfl rfl (nK hK1 ?_); refine sQ fun _ hK2 => sR fun _ hK3 => ?_; refine LS 2 [1, 0] rfl rfl ?_; refine Jh rfl rfl rfl (enters_of Tryz.func76 (by kernel_rfl) rfl) h1 (fun q hq => Or.inr hq) ?_; refine Ji rfl (nK hK3 ?_); refine sR fun _ hK4 => LS 2 [] rfl rfl (nK hK4 ?_); refine Jc rfl (fun h5 => ?_) (fun h5 => ?_)
  try simp only [ZZ] at h5
  refine sR fun _ hK6 => LS 3 [] rfl rfl (nK hK6 ?_); refine Jb (Jd ?_); refine Jv rfl rfl (.cons (J4 rfl) (.cons (J4 rfl) .nil)) (fun w1 hs1 => ?_); refine ⟨?_, hs1.keep⟩; rw [if_pos (by omega)]; rfl
  · try simp only [ZZ] at h5
    refine Jf (hK2 ?_); refine sR fun _ hK7 => LS 2 [1, 0] rfl rfl ?_; refine Jh rfl rfl rfl Jqo (h2 (by omega)) (fun q hq => Or.inr hq) ?_; refine LS 2 [] rfl rfl (nK hK7 ?_); refine Jb ?_; refine Jv rfl rfl (.cons (J4 rfl) (.cons (J4 rfl) .nil)) (fun w1 hs1 => ?_); refine ⟨?_, hs1.keep⟩; rw [if_neg (by omega)]; rfl
section
variable {c : Cx} {l : Kn} {L : Jr} {X : XP} {d : List Deferred} {i : Nat} {ps : String} {af : Array Edge} {gd : Option (Nat × Bool)} {ty : TypeId}
end
section
variable {a b c d : Nat} {bits : List Bool} {pb : Pl} {items : List Vl} {pi : Pl} {pick n : Int} {p : Pl} {ins : List Ty}
end
theorem Jhx (l : List Vl) : (Yi l).length = l.length := by rw [Wh, List.length_map]
theorem Jt4 : ∀ l : List Vl, (∀ x ∈ l, wV (WN x) = wV x) → wL (Yi l) = wL l
  | [], _ => by rw [Yi]
  | x :: xs, h => by rw [Yi, wL, wL, h x List.mem_cons_self, Jt4 xs fun y hy => h y (List.mem_cons_of_mem _ hy)]
theorem Jt5 (v : Vl) : wV (WN v) = wV v := by
  induction v using Vl.ind with
  | h a b c d bits pb items pi pick ih => rw [Qc, wV, wV, Jt4 items ih]
theorem Jhy (k pick : Int) (ins : List Ty) : ∀ (l : List Vl), (∀ x ∈ l, ∀ t, Kq (WN x) t = Kq x t) → ∀ i : Nat, Qq (Yi l) k pick ins i = Qq l k pick ins i
  | [], _, i => by rw [Yi]
  | x :: xs, h, i => by rw [Yi, Qq, Qq, h x List.mem_cons_self, Jhy k pick ins xs fun y hy => h y (List.mem_cons_of_mem _ hy)]
theorem Jvu (k n : Int) (m : Nat) (v : Vl) : yC k n m (WN v) = yC k n m v := by
  obtain ⟨a, b, c, d, bits, pb, items, pi, pick⟩ := v
  rw [Qc]; rw [Qo k n m a b c d bits none (Yi items) none pick _ rfl, Qo k n m a b c d bits pb items pi pick _ rfl]; simp only [Qe, Jhx]
theorem Jfe (v : Vl) : ∀ t, Kq (WN v) t = Kq v t := by
  induction v using Vl.ind with
  | h a b c d bits pb items pi pick ih =>
  intro t
  obtain ⟨k, n, p, ins⟩ := t
  have hl := Jhx items
  have ho := Jvu k n ins.length (.mk a b c d bits pb items pi pick)
  rw [Qc] at ho ⊢; rw [Kq, Kq, hl, Jhy k pick ins items ih, ho]
abbrev b8c (r3 : Nat) : Nat × Obj := (r3, .cells #[.int .i64 1, .int .i64 2, .slice none 0 0, .int .i64 6, .int .i64 8, .slice none 0 0, .int .i64 2, .int .i64 0, .slice none 0 0] 76 (0, 0))
abbrev d8c (r5 : Nat) : Nat × Obj := (r5, .cells #[.int .u64 258, .int .u64 0, .int .u64 0, .int .u64 0, .slice none 0 0, .slice none 0 0, .int .i64 0, .int .u64 0, .int .u64 0, .int .u64 0, .int .u64 0, .slice none 0 0, .slice none 0 0, .int .i64 0, .int .u64 1, .int .u64 0, .int .u64 0, .int .u64 0, .slice none 0 0, .slice none 0 0, .int .i64 0] 81 (0, 0))
section
variable {a b c d : Nat} {bits : List Bool} {pb : Pl} {items : List Vl} {pi : Pl} {pick n : Int} {p p' : Pl} {ins : List Ty}
end
structure OInv (s : BS) (H : Nat) (TY : List Ty) (i A la : Nat) (pre : List Nat) : Prop where
  le : i ≤ TY.length
  at_ : (A : Int) = Kf (TY.take i)
  off : QD s H TY 0 H false = (QD s H (TY.drop i) A la (decide (0 < pre.length))).map (pre ++ ·)
section
variable {s : BS} {H : Nat} {TY : List Ty} {i A la : Nat} {pre : List Nat} {x : Ty}
theorem OInv.start : OInv s H TY 0 0 H [] := ⟨Nat.zero_le _, rfl, by rw [List.drop_zero, show decide (0 < ([] : List Nat).length) = false from rfl]; cases QD s H TY 0 H false <;> rfl⟩
theorem OInv.bound (h : OInv s H TY i A la pre) (hx : TY[i]? = some x) (hH : Kf TY = (H : Int)) : (A : Int) + WE x ≤ H := by
  have e : TY = TY.take i ++ (x :: TY.drop (i + 1)) := by rw [← KL hx, List.take_append_drop]
  rw [e, V4, Kf] at hH
  have := Zz (TY.drop (i + 1))
  have := h.at_
  omega
theorem OInv.fix (h : OInv s H TY i A la pre) (hx : TY[i]? = some x) (hf : JJ x = true) (h0 : 0 ≤ JV x) : OInv s H TY (i + 1) (A + (JV x).toNat) la pre := by
  have h1 := h.off
  rw [KL hx, QD, if_pos hf] at h1; refine ⟨(List.getElem?_eq_some_iff.1 hx).1, ?_, h1⟩; rw [Ks hx, V4, Kf, Kf, WE, if_pos hf, ← h.at_]; omega
theorem OInv.bad (h : OInv s H TY i A la pre) (hx : TY[i]? = some x) (hf : JJ x = false) {v : Nat} (hv : v = W7 ((s.drop A).take 4)) (hb : (¬ 0 < pre.length ∧ v ≠ H) ∨ v < la ∨ s.length < v) : QD s H TY 0 H false = none := by
  subst hv
  rw [h.off, KL hx, QD, if_neg (by rw [hf]; decide), if_pos (by
    rcases hb with ⟨h1, h2⟩ | h1
    · exact .inl ⟨decide_eq_false h1, h2⟩
    · exact .inr h1)]
  rfl
theorem OInv.var (h : OInv s H TY i A la pre) (hx : TY[i]? = some x) (hf : JJ x = false) {v : Nat} (hv : v = W7 ((s.drop A).take 4)) (h1 : 0 < pre.length ∨ v = H) (h2 : la ≤ v) (h3 : v ≤ s.length) : OInv s H TY (i + 1) (A + 4) v (pre ++ [v]) := by
  have hn : ¬ JJ x = true := by rw [hf]; decide
  have hlv : W7 ((s.drop A).take 4) = v := hv.symm
  have ho := h.off
  rw [KL hx, QD, if_neg hn, hlv, if_neg (by
    rintro (⟨g1, g2⟩ | g | g)
    · simp only [decide_eq_false_iff_not] at g1; omega
    · omega
    · omega), Option.map_map] at ho
  refine ⟨(List.getElem?_eq_some_iff.1 hx).1, ?_, ?_⟩
  · rw [Ks hx, V4, Kf, Kf, WE, if_neg hn, ← h.at_]; omega
  · rw [ho, show decide (0 < (pre ++ [v]).length) = true by simp]
    congr 1
    funext r
    simp
theorem OInv.done (h : OInv s H TY TY.length A la pre) : QD s H TY 0 H false = if ¬ 0 < pre.length ∧ H ≠ s.length then none else some (pre ++ [s.length]) := by
  rw [h.off, List.drop_length, QD]
  by_cases hc : ¬ 0 < pre.length ∧ H ≠ s.length
  · rw [if_pos hc, if_pos ⟨decide_eq_false hc.1, hc.2⟩]; rfl
  · rw [if_neg hc, if_neg (by rintro ⟨g1, g2⟩; exact hc ⟨of_decide_eq_false g1, g2⟩)]; rfl
end
theorem Jhz {s : BS} {H : Nat} : ∀ {ts : List Ty} {a la : Nat} {op : Bool} {os : List Nat}, QD s H ts a la op = some os → 0 < os.length
  | [], _, _, _, _, h => by
    rw [QD] at h
    split at h
    · cases h
    · cases h; exact Nat.one_pos
  | x :: xs, a, la, op, os, h => by
    rw [QD] at h
    split at h
    · exact Jhz h
    · split at h
      · cases h
      · obtain ⟨r, h2, rfl⟩ := Option.map_eq_some_iff.1 h
        exact Nat.succ_pos _
structure RInv (s : BS) (H : Nat) (TY : List Ty) (ps : List (Ty × Nat × Nat)) (os : List Nat) (i A m : Nat) : Prop where
  le : i ≤ TY.length
  at_ : (A : Int) = Kf (TY.take i)
  tl : ps.drop i = KD (TY.drop i) A (os.drop m)
  off : ∃ la op, QD s H (TY.drop i) A la op = some (os.drop m)
section
variable {s : BS} {H : Nat} {TY : List Ty} {ps : List (Ty × Nat × Nat)} {os : List Nat} {i A m : Nat} {x : Ty}
theorem RInv.start (h : QD s H TY 0 H false = some os) : RInv s H TY (KD TY 0 os) os 0 0 0 := ⟨Nat.zero_le _, rfl, rfl, ⟨H, false, h⟩⟩
theorem Jt6 {α : Type} {l r : List α} {i : Nat} {q : α} (h : l.drop i = q :: r) : l[i]? = some q ∧ l.drop (i + 1) = r := by
  have h1 : (l.drop i)[0]? = some q := by rw [h]; rfl
  rw [List.getElem?_drop, Nat.add_zero] at h1; exact ⟨h1, by rw [KL h1] at h; exact (List.cons.inj h).2⟩
theorem RInv.bound (h : RInv s H TY ps os i A m) (hx : TY[i]? = some x) (hH : Kf TY = (H : Int)) : (A : Int) + WE x ≤ H := by
  have e : TY = TY.take i ++ (x :: TY.drop (i + 1)) := by rw [← KL hx, List.take_append_drop]
  rw [e, V4, Kf] at hH
  have := Zz (TY.drop (i + 1))
  have := h.at_
  omega
theorem RInv.fix (h : RInv s H TY ps os i A m) (hx : TY[i]? = some x) (hf : JJ x = true) (h0 : 0 ≤ JV x) : ps[i]? = some (x, A, A + (JV x).toNat) ∧ RInv s H TY ps os (i + 1) (A + (JV x).toNat) m := by
  have h1 := h.tl
  obtain ⟨la, op, h2⟩ := h.off
  rw [KL hx, KD, if_pos hf] at h1; rw [KL hx, QD, if_pos hf] at h2
  obtain ⟨g1, g2⟩ := Jt6 h1
  refine ⟨g1, (List.getElem?_eq_some_iff.1 hx).1, ?_, g2, ⟨la, op, h2⟩⟩; rw [Ks hx, V4, Kf, Kf, WE, if_pos hf, ← h.at_]; omega
theorem RInv.var (h : RInv s H TY ps os i A m) (hx : TY[i]? = some x) (hf : JJ x = false) : m + 1 < os.length ∧ ps[i]? = some (x, os.getD m 0, os.getD (m + 1) 0) ∧ RInv s H TY ps os (i + 1) (A + 4) (m + 1) := by
  have hn : ¬ JJ x = true := by rw [hf]; decide
  have h1 := h.tl
  obtain ⟨la, op, h2⟩ := h.off
  rw [KL hx, KD, if_neg hn] at h1; rw [KL hx, QD, if_neg hn] at h2
  split at h2
  · cases h2
  · obtain ⟨r, h3, h4⟩ := Option.map_eq_some_iff.1 h2
    have hp := Jhz h3
    have hlen : (os.drop m).length = r.length + 1 := by rw [← h4]; rfl
    rw [List.length_drop] at hlen
    have ht : (os.drop m).tail = os.drop (m + 1) := by rw [List.tail_drop]
    have e0 : (os.drop m).getD 0 0 = os.getD m 0 := by rw [List.getD_eq_getElem?_getD, List.getD_eq_getElem?_getD, List.getElem?_drop, Nat.add_zero]
    have e1 : (os.drop m).getD 1 0 = os.getD (m + 1) 0 := by rw [List.getD_eq_getElem?_getD, List.getD_eq_getElem?_getD, List.getElem?_drop]
    rw [ht, e0, e1] at h1
    obtain ⟨g1, g2⟩ := Jt6 h1
    refine ⟨by omega, g1, (List.getElem?_eq_some_iff.1 hx).1, ?_, g2, ⟨W7 ((s.drop A).take 4), true, ?_⟩⟩
    · rw [Ks hx, V4, Kf, Kf, WE, if_neg hn, ← h.at_]; omega
    · rw [h3, ← ht, ← h4]; rfl
end
theorem Joq (t : Ty) : (Xf t).k = t.k := by cases t; rw [Xf]; rfl
theorem Jt7 (t : Ty) : (Xf t).n = t.n := by cases t; rw [Xf]; rfl
theorem Jh0 (t : Ty) : (Xf t).ins = VG t.ins := by cases t; rw [Xf]; rfl
theorem erT_def : Xf default = default := by show Xf (.mk 0 0 none []) = .mk 0 0 none []; rw [Xf, VG]
mutual
theorem vC : ∀ (t : Ty) (d : Int), V6 (Xf t) d = V6 t d
  | .mk k n p ins, d => by rw [Xf, V6, V6, Jdg ins, Zd]
theorem Jdg : ∀ (l : List Ty) (d : Int), XM (VG l) d = XM l d
  | [], _ => by rw [VG]
  | x :: xs, d => by rw [VG, XM, XM, vC x, Jdg xs]
end
mutual
theorem Jdh : ∀ (t : Ty), W8 (Xf t) = W8 t
  | .mk k n p ins => by rw [Xf, W8, W8, Jdi ins]
theorem Jdi : ∀ (l : List Ty), ZG (VG l) = ZG l
  | [] => by rw [VG]
  | x :: xs => by rw [VG, ZG, ZG, Jdh x, Jdi xs]
end
mutual
theorem Xz : ∀ (t : Ty), JV (Xf t) = JV t
  | .mk k n p ins => by rw [Xf, JV, JV, Jdj ins]
theorem Jdj : ∀ (l : List Ty), Wj (VG l) = Wj l
  | [] => by rw [VG]
  | x :: xs => by rw [VG, Wj, Wj, Xz x, Jdj xs]
end
theorem Xg (t : Ty) : JJ (Xf t) = JJ t := by unfold JJ; rw [vC, Jdh]
theorem Jor (t : Ty) : WE (Xf t) = WE t := by unfold WE; rw [Xg, Xz]
theorem wZ : ∀ l : List Ty, Kf (l.map Xf) = Kf l
  | [] => rfl
  | x :: xs => by rw [List.map_cons, Kf, Kf, Jor, wZ xs]
theorem Jdk (ins : List Ty) (i : Nat) : (VG ins).getD i default = Xf (ins.getD i default) := by
  rw [wU, List.getD_eq_getElem?_getD, List.getD_eq_getElem?_getD, List.getElem?_map]
  cases ins[i]? with
  | none => exact erT_def.symm
  | some x => rfl
theorem Zf (k pick : Int) (ins : List Ty) (i : Nat) : JK k pick (VG ins) i = Xf (JK k pick ins i) := by unfold JK; exact Jdk ins _
mutual
theorem Jh1 : ∀ (v : Vl) (t : Ty), Kq v (Xf t) = Kq v t
  | .mk a b c d bits pb items pi pick, .mk k n p ins => by rw [Xf, Kq, Kq, Zd, Jdl items]
theorem Jdl : ∀ (l : List Vl) (k pick : Int) (ins : List Ty) (i : Nat), Qq l k pick (VG ins) i = Qq l k pick ins i
  | [], _, _, _, _ => by rw [Qq, Qq]
  | x :: xs, k, pick, ins, i => by rw [Qq, Qq, Zf, Jh1 x, Jdl xs]
end
theorem Jdm (t : Ty) (v : Vl) : Vv (Xf t) v = Vv t v := by unfold Vv; rw [vC, Jh1]
theorem yf (h : Nat) : ∀ (l : List (Ty × BS)) (f th : BS), Yx h (l.map fun p => (Xf p.1, p.2)) f th = Yx h l f th
  | [], f, th => rfl
  | (x, s) :: l, f, th => by rw [List.map_cons, Yx, Yx, Xg, yf h l, yf h l]
mutual
theorem Jai : ∀ (v : Vl) (t : Ty), Vt v (Xf t) = Vt v t
  | .mk a b c d bits pb items pi pick, t => by
    have h1 : ((Qa items t.k pick t.ins 0).map fun p => (Xf p.1, p.2)).headD (default, []) = (fun p : Ty × BS => (Xf p.1, p.2)) ((Qa items t.k pick t.ins 0).headD (default, [])) := by
      cases Qa items t.k pick t.ins 0 with
      | nil => show (default, []) = (Xf default, []); rw [erT_def]
      | cons x l => rfl
    have h2 : (((Qa items t.k pick t.ins 0).map fun p => (Xf p.1, p.2)).map Prod.fst) = ((Qa items t.k pick t.ins 0).map Prod.fst).map Xf := by rw [List.map_map, List.map_map]; rfl
    rw [Vt, Vt, Joq, Jt7, Jh0, Jdn items, yf, h1, h2, wZ]
theorem Jdn : ∀ (l : List Vl) (k pick : Int) (ins : List Ty) (i : Nat), Qa l k pick (VG ins) i = (Qa l k pick ins i).map fun p => (Xf p.1, p.2)
  | [], _, _, _, _ => by rw [Qa, Qa]; rfl
  | x :: xs, k, pick, ins, i => by rw [Qa, Qa, Zf, Jai x, Jdn xs]; rfl
end
theorem Jos (t : Ty) (v : Vl) : jt (Xf t) v = jt t v := by unfold jt; rw [Jdm, Jai]
theorem Jot (k : Int) (ins : List Ty) (m : Nat) : Kx k (VG ins) m = (Kx k ins m).map Xf := by
  unfold Kx
  rw [List.map_map]; exact List.map_congr_left fun i _ => Zf k 0 ins i
theorem yg (s : BS) (h : Nat) : ∀ (l : List Ty) (a la : Nat) (op : Bool), QD s h (l.map Xf) a la op = QD s h l a la op
  | [], _, _, _ => rfl
  | x :: xs, a, la, op => by rw [List.map_cons, QD, QD, Xg, Xz, yg s h xs, yg s h xs]
theorem qt (s : BS) : ∀ (l : List Ty) (a : Nat) (os : List Nat), V5 s (l.map Xf) a os = V5 s l a os
  | [], _, _ => rfl
  | x :: xs, a, os => by rw [List.map_cons, V5, V5, Xg, Xz, qt s xs, qt s xs]
theorem Jou (k n : Int) (ins : List Ty) (s : BS) : JW k n (VG ins) s = JW k n ins s := by
  unfold JW
  rw [Zd, Zf, Xg, Xz]
theorem Jov (k n : Int) (ins : List Ty) (fs : List Gf) (s : BS) : xW k n (VG ins) fs s = xW k n ins fs s := by
  unfold xW
  rw [Jou, Jot, wZ, yg]
  split
  · rfl
  · split
    · rfl
    · cases QD s (Kf (Kx k ins (JW k n ins s).1)).toNat (Kx k ins (JW k n ins s).1) 0 (Kf (Kx k ins (JW k n ins s).1)).toNat false with
      | none => rfl
      | some os => simp only [qt]
theorem Jsi (k n : Int) (p : Pl) (ins : List Ty) (fs : List Gf) (s : BS) : ZN k n none (VG ins) fs s = ZN k n p ins fs s := by
  have h1 : JJ (.mk k n none (VG ins)) = JJ (.mk k n p ins) := by have := Xg (.mk k n p ins); rw [Xf] at this; exact this
  have h2 : JV (.mk k n none (VG ins)) = JV (.mk k n p ins) := by have := Xz (.mk k n p ins); rw [Xf] at this; exact this
  unfold ZN
  rw [h1, h2, Zd, Jov]
mutual
theorem Jh2 : ∀ (t : Ty), KK (Xf t) = KK t
  | .mk k n p ins => by funext s; rw [Xf, KK, KK, Jdo ins, Jsi k n p]
theorem Jdo : ∀ (l : List Ty), YC (VG l) = YC l
  | [] => by rw [VG]
  | x :: xs => by rw [VG, YC, YC, Jh2 x, Jdo xs]
end
theorem Jow (t : Ty) (s : BS) : getR (Xf t) s = getR t s := by unfold getR; rw [vC, Jh2]
theorem Jox (items : List Vl) (x : Ty) : WX items (Xf x) = WX items x := by unfold WX; rw [List.map_congr_left fun v _ => Jai v x]
theorem Joy (k n : Int) (ins : List Ty) (items : List Vl) (rs : List BS) : WS k n (VG ins) items rs = WS k n ins items rs := by
  unfold WS Xw
  rw [Jdk, Zd, Joq, Jox, Xz]
mutual
theorem Jdp : ∀ (v : Vl) (t : Ty), KB v (Xf t) = KB v t
  | .mk a b c d bits pb items pi pick, t => by rw [KB, KB, Joq, Jt7, Jh0, zp items, Joy]
theorem zp : ∀ (l : List Vl) (k pick : Int) (ins : List Ty) (i : Nat), Kg l k pick (VG ins) i = Kg l k pick ins i
  | [], _, _, _, _ => by rw [Kg, Kg]
  | x :: xs, k, pick, ins, i => by rw [Kg, Kg, Zf, Jdp x, zp xs]
end
theorem Jjw (t : Ty) (v : Vl) : Yl (Xf t) v = Yl t v := by unfold Yl; rw [Jdm, Jdp]
def jI (x : BS × BS) : Vl := KJ [wW x.1, wW x.2] 0
def acV (a : AcE) : Vl := KJ [wW a.addr, .mk a.nonce 0 0 0 [] none [] none 0, .mk a.bal.a a.bal.b a.bal.c a.bal.d [] none [] none 0, wW a.code, KJ (a.slots.map jI) 0] 0
def XR (l : List AcE) : Vl := KJ (l.map acV) 0
theorem Jaj : V6 QS 0 = 0 := by decide +kernel
def WT (l : List AcE) : BS × Int := if Qv l ≠ 0 then ([], Qv l) else jt QS (XR l)
def jJ (l : List AcE) : BS × Int := if Qv l ≠ 0 then ([], Qv l) else Yl QS (XR l)
def YE (v : Vl) : BS := v.items.map fun x => UInt8.ofNat (x.num.getD 0 0)
def jK (v : Vl) (i : Nat) : Vl := v.items.getD i v0L
def X0 (v : Vl) : BS × BS := (YE (jK v 0), YE (jK v 1))
def w4B (v : Vl) : W4 := ⟨v.num.getD 0 0, v.num.getD 1 0, v.num.getD 2 0, v.num.getD 3 0⟩
def acB (v : Vl) : AcE := ⟨YE (jK v 0), (jK v 1).num.getD 0 0, w4B (jK v 2), YE (jK v 3), (jK v 4).items.map X0⟩
def qu (v : Vl) : List AcE := v.items.map acB
def Zg (s : BS) : List AcE × Int := if (getR QS s).2 ≠ 0 then ([], (getR QS s).2) else if Qv (qu (getR QS s).1) ≠ 0 then ([], Qv (qu (getR QS s).1)) else (qu (getR QS s).1, 0)
def byB (x : Vl) : UInt8 := UInt8.ofNat (x.num.getD 0 0)
theorem Jvv (v : Vl) : YE v = v.items.map byB := rfl
theorem Jjx (q : Nat) : Value.int .u8 (IntKind.u8.wrap (q : Int)) = bV (UInt8.ofNat q) := by
  rw [jg]
  congr 1
  apply UInt8.toNat_inj.1
  simp
def ofS (l : List Vl) (i : Nat) : BS := (l.take i).map byB ++ List.replicate (l.length - i) 0
theorem Jak (l : List Vl) {i : Nat} (h : i ≤ l.length) : (ofS l i).length = l.length := by unfold ofS; simp; omega
theorem Joz {l : List Vl} {i : Nat} {x : Vl} (h : l[i]? = some x) : ((ofS l i).map bV).set i (bV (byB x)) = (ofS l (i + 1)).map bV := by
  have hlt := (List.getElem?_eq_some_iff.1 h).1
  unfold ofS
  rw [← List.map_set]
  congr 1
  rw [List.set_append_right _ _ (by simp; omega), Ks h, List.map_append, List.append_assoc]
  congr 1
  rw [show (List.map byB (List.take i l)).length = i by simp; omega, Nat.sub_self, show l.length - i = (l.length - (i + 1)) + 1 by omega, List.replicate_succ, List.set_cons_zero]
  rfl
theorem Jsj {R : Jr} {v : Vl} (hv : v.In R) (hl : v.items.length ≤ 100000) : PureR Tryz.prog 62 [v.val].toArray (J2 (YE v)) R := by
  obtain ⟨a, b, c, d, bits, pb, items, pi, pick⟩ := v
  have hs : Seg R items.length (Qj items) pi := by cases hv; assumption
  change items.length ≤ 100000 at hl; rw [Jvv]; refine Je Tryz.func62 rfl rfl fun w => ?_; refine sR fun _ hK1 => ?_; refine LN rfl fun r1 => ?_; refine Ji rfl (nK hK1 ?_); refine sR fun _ hK2 => ?_
  refine LS 2 [0] rfl rfl ?_; refine LR rfl (J3 rfl hs rfl) ?_; refine Wz (n := items.length) (b := 1) rfl rfl rfl rfl rfl rfl rfl rfl rfl (by omega) (by omega) fun rm => ?_; rw [show List.replicate items.length (Value.int .u8 0) = (ofS items 0).map bV from by unfold ofS; simp [bV]]; refine Ji rfl (nK hK2 ?_); refine sQ fun _ hK3 => sR fun _ hK4 => ?_
  refine LS 2 [1] rfl rfl ?_; refine LR rfl (J3 rfl hs rfl) ?_; refine Ji rfl (nK hK4 ?_); refine Ju (JG (σ := Nat) (fun i => i ≤ items.length) (fun i => [(3, .slice (some ⟨rm, 0, none⟩) items.length items.length), (11, KM items.length pi), (12, .int .i64 (items.length : Int)), (13, .int .i64 (i : Int))]) (fun i => [(rm, .cells ((ofS items i).map bV).toArray 5 (0, 0))]) (fun _ _ _ => True) (fun i => items.length - i) 0 (Nat.zero_le _) (.cons rfl (.cons rfl (.cons rfl (.cons rfl .nil)))) (.cons_cons _ (List.nil_sublist _)) (fun _ _ h => h) ?_); intro i hi1; refine sR fun _ hK5 => JZ rfl (nK hK5 ?_); refine sQ fun _ hK6 => ?_; refine Jc rfl (fun h7 => ?_) (fun h7 => ?_)
  · try simp only [ZZ] at h7
    refine Jf (hK6 ?_); refine sB fun _ hK8 => sQ fun _ hK9 => ?_
    obtain ⟨⟨ya, yb, yc, yd, ybits, ypb, yitems, ypi, ypick⟩, hx, hxm⟩ := QC (show i < items.length by omega)
    refine Ja (Ji rfl ?_)
    refine LR rfl (Jp (j := i) rfl hs rfl rfl rfl (by first | rfl | omega) (by omega)) ?_; refine LR rfl (QI (fun q hq => Or.inr hq) rfl hs hx rfl rfl) ?_; refine LN rfl fun r2 => ?_; refine Ji rfl ?_
    refine LT 0 rfl rfl (nK hK9 ?_); refine Ja (LS 3 [] rfl rfl ?_)
    refine LR rfl (JQ (j := 0) rfl rfl rfl rfl rfl (by first | decide | omega) (by first | (simp only [Nat.zero_add, Nat.reduceAdd, Nat.reduceMul, Nat.zero_mul, Nat.mul_one, Nat.add_zero]; exact rfl) | exact rfl)) ?_; refine LS 2 [0] rfl rfl ?_; refine Jy (show _ = bV (UInt8.ofNat ya) from Jjx ya) ?_; refine LR rfl (Ki (j := i) (m := 1) (off' := i) rfl rfl rfl rfl (by omega) (by omega) (by omega)) ?_; refine KS (k := 1) (off := i) (xs := (ofS items i).map bV) (ys := (ofS items (i + 1)).map bV) rfl rfl rfl rfl rfl rfl (by rw [List.length_map, Jak _ (by omega)]; omega) (Joz hx) rfl ?_; refine Jg (Jj (hK8 ?_)); refine Ja ?_
    refine JZ rfl ?_; refine Jy (show _ = Value.int .i64 ((i + 1 : Nat) : Int) from by rw [wrap_i64 (by omega) (by omega)]; congr 1 <;> omega) ?_; refine Ji rfl (Jg (J5 ?_)); exact J1 (i + 1) (by omega) (by omega) (.cons rfl (.cons rfl (.cons rfl (.cons rfl .nil)))) (.cons _ (List.Sublist.refl _)) (fun _ _ h => h)
  · try simp only [ZZ] at h7
    refine JE (Jl ?_); refine Jl (J0 (hK3 ?_)); refine sQ fun _ hK10 => ?_
    obtain rfl : i = items.length := by omega
    refine Ja (Ji rfl ?_); refine LR rfl (QH (b := ofS items items.length) (row := some (rm, items.length, [])) (e := 5) (show _ = some (JF (ofS items items.length).length _) from by rw [Jak _ (Nat.le_refl _)]; rfl) ⟨by rw [List.length_map]; omega, by rw [Jak _ (Nat.le_refl _)]; simp⟩ (fun p hp => .inl (by rw [List.mem_singleton.1 hp, List.append_nil]; exact List.mem_cons_self)) rfl rfl rfl) ?_; refine Ji rfl (nK hK10 ?_); refine Jb (pT rfl rfl rfl fun w1 hs1 => ?_); refine ⟨?_, hs1.keep⟩; rw [show ofS items items.length = items.map byB from by unfold ofS; simp]; rfl
theorem Jxn {s : BS} {r : Nat} {Lr : Jr} (hl : s.length ≤ 100000) (h : (r, Obj.cells (Qj (s.map jG)).toArray 0 (0, 0)) ∈ Lr) : Vl.In Lr (.mk 0 0 0 0 [] none (s.map jG) (some (⟨r, 0, none⟩, s.length)) 0) :=
  .mk u0 u0 u0 u0 (by decide) rfl (by rw [List.length_map]; omega) ⟨by rw [List.length_map]; exact Nat.le_refl _, fun _ => ⟨rfl, _, 0, (0, 0), h, by rw [List.drop_zero, List.toList_toArray, List.take_length]⟩⟩ i0 fun x hx => by
    obtain ⟨b, _, rfl⟩ := List.mem_map.1 hx
    exact (Jt0 b).mono fun q hq => absurd hq List.not_mem_nil
def Jo0 {s : BS} (hl : s.length ≤ 100000) : VR (wW s) := ⟨_, [(0, .cells (Qj (s.map jG)).toArray 0 (0, 0))], Jxn hl (List.mem_singleton_self _), Jt1 s _⟩
theorem Jo1 {Lr : Jr} {its : List Vl} {r e n : Nat} (h : (r, Obj.cells (Qj its).toArray e (0, 0)) ∈ Lr) (hn : its.length = n) (hl : n ≤ 1000) (hi : ∀ x ∈ its, x.In Lr) : Vl.In Lr (.mk 0 0 0 0 [] none its (some (⟨r, 0, none⟩, n)) 0) :=
  .mk u0 u0 u0 u0 (by decide) rfl (by omega) ⟨Nat.le_of_eq hn, fun _ => ⟨rfl, _, e, (0, 0), h, by rw [List.drop_zero, List.toList_toArray, List.take_length]⟩⟩ i0 hi
theorem Jvw {us : List Vl} {F yL zL : Jr} {y z : Vl} {rb e : Nat} (hin : ∀ x ∈ us, x.In F) (hy : y.In yL) (hz : z.In zL) {q : Vl} (hq : q ∈ us ++ [Vl.mk 0 0 0 0 [] none [y, z] (some (⟨rb, 0, none⟩, 2)) 0]) : q.In ((rb, Obj.cells (Qj [y, z]).toArray e (0, 0)) :: (zL ++ (yL ++ F))) := by
  rcases List.mem_append.1 hq with hq | hq
  · exact (hin q hq).mono fun p hp => by simp [hp]
  · rw [List.mem_singleton.1 hq]
    refine Jo1 List.mem_cons_self rfl (by decide) fun x hx => ?_; simp only [List.mem_cons, List.not_mem_nil, or_false] at hx
    rcases hx with rfl | rfl
    · exact hy.mono fun p hp => by simp [hp]
    · exact hz.mono fun p hp => by simp [hp]
theorem Jvx {slots : List (BS × BS)} {j : Nat} {us : List Vl} {k v : BS} {y z : Vl} {p : Pl} (her : us.map WN = (slots.take j).map jI) (hx : slots[j]? = some (k, v)) (hy : WN y = wW k) (hz : WN z = wW v) : (us ++ [Vl.mk 0 0 0 0 [] none [y, z] p 0]).map WN = (slots.take (j + 1)).map jI := by
  rw [List.map_append, her, Ks hx, List.map_append]
  congr 1
  show [WN _] = [jI (k, v)]
  rw [Qc, Wh, List.map_cons, List.map_cons, List.map_nil, hy, hz]; rfl
theorem Jvy {vs us : List Vl} {E F U yL zL : Jr} {y z : Vl} {rb e nonce ba bb bc bd n : Nat} {p : Pl} (hin : ∀ x ∈ vs, x.In E) (hs : Seg U n (Qj us) p) (hn : us.length = n) (hn2 : n ≤ 100000) (hin2 : ∀ x ∈ us, x.In F) (hnu : X5 nonce) (hba : W4.ok ⟨ba, bb, bc, bd⟩) (hy : y.In yL) (hz : z.In zL) {q : Vl}
    (hq : q ∈ vs ++ [Vl.mk 0 0 0 0 [] none [y, .mk nonce 0 0 0 [] none [] none 0, .mk ba bb bc bd [] none [] none 0, z, .mk 0 0 0 0 [] none us p 0] (some (⟨rb, 0, none⟩, 5)) 0]) : q.In ((rb, Obj.cells (Qj [y, .mk nonce 0 0 0 [] none [] none 0, .mk ba bb bc bd [] none [] none 0, z, .mk 0 0 0 0 [] none us p 0]).toArray e (0, 0)) :: (zL ++ (yL ++ (U ++ (F ++ E))))) := by
  rcases List.mem_append.1 hq with hq | hq
  · exact (hin q hq).mono fun p hp => by simp [hp]
  · rw [List.mem_singleton.1 hq]
    refine Jo1 List.mem_cons_self rfl (by decide) fun x hx => ?_; simp only [List.mem_cons, List.not_mem_nil, or_false] at hx
    rcases hx with rfl | rfl | rfl | rfl | rfl
    · exact hy.mono fun p hp => by simp [hp]
    · exact .mk hnu u0 u0 u0 (by decide) rfl (by decide) rfl i0 (fun x hx => nomatch hx)
    · exact .mk hba.a hba.b hba.c hba.d (by decide) rfl (by decide) rfl i0 (fun x hx => nomatch hx)
    · exact hz.mono fun p hp => by simp [hp]
    · refine .mk u0 u0 u0 u0 (by decide) rfl (by omega) (by rw [hn]; exact hs.mono fun p hp => by simp [hp]) i0 fun x hx => (hin2 x hx).mono fun p hp => by simp [hp]
theorem Jvz {accts : List AcL} {i : Nat} {vs us : List Vl} {addr code : BS} {nonce ba bb bc bd : Nat} {slots : List (BS × BS)} {ap p p2 : Pl} {y z : Vl} (her : vs.map WN = (accts.take i).map fun a => acV a.er) (hx : accts[i]? = some ⟨addr, nonce, ⟨ba, bb, bc, bd⟩, code, slots, ap⟩) (hy : WN y = wW addr) (hz : WN z = wW code) (hu : us.map WN = (slots.take slots.length).map jI) :
    (vs ++ [Vl.mk 0 0 0 0 [] none [y, .mk nonce 0 0 0 [] none [] none 0, .mk ba bb bc bd [] none [] none 0, z, .mk 0 0 0 0 [] none us p 0] p2 0]).map WN = (accts.take (i + 1)).map fun a => acV a.er := by
  rw [List.map_append, her, Ks hx, List.map_append]
  congr 1
  show [WN _] = [acV (AcL.er ⟨addr, nonce, ⟨ba, bb, bc, bd⟩, code, slots, ap⟩)]
  rw [List.take_length] at hu; simp only [Qc, Wh, List.map_cons, List.map_nil, hy, hz, hu]
  rfl
theorem Jv0 (accts : List AcL) : Vl.mk 0 0 0 0 [] none (accts.map fun a => acV a.er) none 0 = XR (accts.map AcL.er) := by
  unfold XR KJ
  rw [List.map_map]; rfl
open Classical in
theorem Jsk {α : Type} (a b : α) (Z Y M U W : List α) : (a :: b :: (Z ++ (Y ++ (M ++ (U ++ W))))).Perm (U ++ (a :: b :: (M ++ (Z ++ (Y ++ W))))) := by
  rw [List.perm_iff_count]; intro x; simp only [List.count_append, List.count_cons]; omega
open Classical in
theorem Jsl {α : Type} (a b : α) (Z Y M U F V E : List α) : (a :: b :: (Z ++ (Y ++ (M ++ (U ++ (F ++ (V ++ E))))))).Perm (V ++ (a :: b :: (M ++ (Z ++ (Y ++ (U ++ (F ++ E))))))) := by
  rw [List.perm_iff_count]; intro x; simp only [List.count_append, List.count_cons]; omega
open Classical in
theorem Jsm {α : Type} (r a b : α) (M Z Y F W : List α) : (r :: a :: b :: (M ++ (Z ++ (Y ++ (F ++ W))))).Perm (a :: (M ++ (r :: ((b :: (Z ++ (Y ++ F))) ++ W)))) := by
  rw [List.perm_iff_count]; intro x; simp only [List.count_append, List.count_cons]; omega
open Classical in
theorem Jsn {α : Type} (r a b : α) (M W : List α) : (r :: a :: b :: (M ++ W)).Perm (a :: (M ++ (r :: (b :: W)))) := by
  rw [List.perm_iff_count]; intro x; simp only [List.count_append, List.count_cons]; omega
def Ac1 (a : AcL) : Prop := a.addr.length ≤ 100000 ∧ a.code.length ≤ 100000 ∧ a.slots.length ≤ 100000 ∧ ∀ x ∈ a.slots, x.1.length ≤ 100000 ∧ x.2.length ≤ 100000
set_option maxHeartbeats 2000000 in
theorem Jh4 {R : Jr} {accts : List AcL} {p : Pl} (hs : StL.In R ⟨accts, p⟩) (hn : accts.length ≤ 100000) (hb : ∀ a ∈ accts, Ac1 a) : PureT (α := VR (XR (accts.map AcL.er))) Tryz.prog 54 [KM accts.length p].toArray (fun y => y.x.val) [] (fun y => y.L) R := by
  have hseg : Seg R accts.length (jy accts) p := hs.seg
  refine JH Tryz.func54 rfl rfl fun w => ?_; refine sR fun _ hK1 => ?_; refine LN rfl fun r1 => ?_; refine nK hK1 (sR fun _ hK2 => ?_); refine LN rfl fun r2 => ?_; refine nK hK2 (sQ fun _ hK3 => ?_); refine sR fun _ hK4 => Ji rfl (LR rfl (J3 rfl hseg rfl) (Ji rfl ?_)); refine nK hK4 (Ju ?_); refine JG (σ := Nat × List Vl × Vz × Jr) (fun q => q.1 ≤ accts.length ∧ rowOk 7 q.1 (Qj q.2.1) q.2.2.1 ∧ (∀ x ∈ q.2.1, Vl.In q.2.2.2 x) ∧ q.2.1.map WN = (accts.take q.1).map fun a => acV a.er) (fun q => [(2, V9 r1), (3, V9 r2), (9, KM accts.length p), (10, .int .i64 (accts.length : Int)), (11, .int .i64 (q.1 : Int))]) (fun q => (r2, .cells #[.int .u64 0, .int .u64 0, .int .u64 0, .int .u64 0, .slice none 0 0, JF q.1 q.2.2.1, .int .i64 0] 81 (0, 0)) :: (r1, .cells #[.int .u64 0, .int .u64 0, .int .u64 0, .int .u64 0, .slice none 0 0, .slice none 0 0, .int .i64 0] 81 (0, 0)) :: (JY 81 (Qj q.2.1) q.2.2.1 ++ q.2.2.2)) (fun _ _ _ => True) (fun q => accts.length - q.1) (0, [], none, []) ⟨Nat.zero_le _, ⟨rfl, rfl⟩, fun x hx => (nomatch hx), rfl⟩ (.cons rfl (.cons rfl (.cons rfl (.cons rfl (.cons rfl .nil))))) (by simp only [JY, List.nil_append, List.append_nil]; exact List.Sublist.refl _) (fun _ _ h => h) ?_; rintro ⟨i, vs, row, E⟩ ⟨hi1, hrow, hin, her⟩; simp only at hi1 hrow hin her; refine sR fun _ hK5 => JZ rfl (nK hK5 ?_); refine sQ fun _ hK6 => ?_; refine Jc rfl (fun h7 => ?_) (fun h7 => ?_)
  · try simp only [ZZ] at h7
    refine Jf (hK6 ?_); refine sB fun _ hK8 => sQ fun _ hK9 => ?_
    obtain ⟨a, ha, hma⟩ := QC (show i < accts.length by omega)
    have ha2 := hs.accts a hma
    obtain ⟨hb1, hb2, hb3, hb4⟩ := hb a hma
    obtain ⟨addr, nonce, ⟨ba, bb, bc, bd⟩, code, slots, ap⟩ := a
    have hnu : X5 nonce := ha2.nonce
    have hba : W4.ok ⟨ba, bb, bc, bd⟩ := ha2.bal
    have hsg : Seg R slots.length (wi slots) ap := ha2.seg
    simp only at hb1 hb2 hb3 hb4; refine Ja ?_
    refine LR rfl (Jp (j := i) rfl hseg rfl rfl rfl (by first | rfl | omega) (by omega)) ?_; refine LR rfl (Ku AcL.len (fun q hq => Or.inr hq) rfl hseg ha rfl rfl) ?_; refine LN rfl fun r3 => ?_
    refine LT 0 rfl rfl (nK hK9 ?_); refine sR fun _ hK10 => ?_; refine LN rfl fun r4 => ?_; refine nK hK10 (sQ fun _ hK11 => ?_); refine sR fun _ hK12 => ?_
    refine LS 2 [1] rfl rfl ?_; refine LR rfl (J3 rfl hsg rfl) ?_; refine Ji rfl (nK hK12 ?_); refine Ju ?_; refine JG (σ := Nat × List Vl × Vz × Jr) (fun q => q.1 ≤ slots.length ∧ rowOk 7 q.1 (Qj q.2.1) q.2.2.1 ∧ (∀ x ∈ q.2.1, Vl.In q.2.2.2 x) ∧ q.2.1.map WN = (slots.take q.1).map jI) (fun q => [(2, V9 r1), (3, V9 r2), (5, V9 r3), (6, V9 r4), (9, KM accts.length p), (10, .int .i64 (accts.length : Int)), (11, .int .i64 (i : Int)), (16, KM slots.length ap), (17, .int .i64 (slots.length : Int)), (18, .int .i64 (q.1 : Int))]) (fun q => (r4, .cells #[.int .u64 0, .int .u64 0, .int .u64 0, .int .u64 0, .slice none 0 0, JF q.1 q.2.2.1, .int .i64 0] 81 (0, 0)) :: (r3, .cells #[J2 addr, uV nonce, uV ba, uV bb, uV bc, uV bd, J2 code, KM slots.length ap] 34 (0, 0)) :: (r2, .cells #[.int .u64 0, .int .u64 0, .int .u64 0, .int .u64 0, .slice none 0 0, JF i row, .int .i64 0] 81 (0, 0)) :: (r1, .cells #[.int .u64 0, .int .u64 0, .int .u64 0, .int .u64 0, .slice none 0 0, .slice none 0 0, .int .i64 0] 81 (0, 0)) :: (JY 81 (Qj q.2.1) q.2.2.1 ++ (q.2.2.2 ++ (JY 81 (Qj vs) row ++ E)))) (fun _ _ _ => True) (fun q => slots.length - q.1) (0, [], none, []) ⟨Nat.zero_le _, ⟨rfl, rfl⟩, fun x hx => (nomatch hx), rfl⟩ (.cons rfl (.cons rfl (.cons rfl (.cons rfl (.cons rfl (.cons rfl (.cons rfl (.cons rfl (.cons rfl (.cons rfl .nil)))))))))) (by simp only [JY, List.nil_append, List.append_nil]; exact List.Sublist.refl _) (fun _ _ h => h) ?_; rintro ⟨j, us, rw2, F⟩ ⟨hj1, hrow2, hin2, her2⟩; simp only at hj1 hrow2 hin2 her2; refine sR fun _ hK13 => JZ rfl (nK hK13 ?_); refine sQ fun _ hK14 => ?_; refine Jc rfl (fun h15 => ?_) (fun h15 => ?_)
    · try simp only [ZZ] at h15
      refine Jf (hK14 ?_); refine sB fun _ hK16 => sQ fun _ hK17 => ?_
      obtain ⟨⟨k, v⟩, hx, hmx⟩ := QC (show j < slots.length by omega)
      obtain ⟨hk1, hv1⟩ := hb4 _ hmx
      simp only at hk1 hv1; refine Ja ?_
      refine LR rfl (Jp (j := j) rfl hsg rfl rfl rfl (by first | rfl | omega) (by omega)) ?_; refine LR rfl (Ku JU (fun q hq => Or.inr hq) rfl hsg hx rfl rfl) ?_; refine LN rfl fun r5 => ?_
      refine LT 0 rfl rfl (nK hK17 ?_)
      refine JS [(r4, .cells #[.int .u64 0, .int .u64 0, .int .u64 0, .int .u64 0, .slice none 0 0, JF j rw2, .int .i64 0] 81 (0, 0)), (r5, .cells #[J2 k, J2 v] 59 (0, 0))] [(0, .pure), (1, .pure), (2, .pure), (3, .pure), (4, .grow (Qt (Jo0 hk1) (fun y => y.x.val) (fun y => y.L))), (5, .pure), (6, .pure), (7, .grow (Qt (Jo0 hv1) (fun y => y.x.val) (fun y => y.L))), (8, .dep [26, 29] (Jbk 2 81)), (9, .pure), (10, .dep [31] (Jbk 1 81))] 11 [0, 1, 2, 3, 5, 6, 4, 7, 8, 9, 10] (by kernel_rfl) (by kernel_rfl) (by first | exact (fun _ h => absurd h List.not_mem_nil) | simp [SubS] | (intro p hp; simp [hp])) ?_
      refine Jw (k := 0) rfl rfl rfl rfl rfl (fun _ hS => (JL rfl rfl rfl)) ?_; refine Jw (k := 1) rfl rfl rfl rfl rfl (fun _ hS => (Jm rfl (.inl (hS _ (Ky (n := 0) rfl))) rfl rfl)) ?_
      refine Jw (k := 2) rfl rfl rfl rfl rfl (fun _ hS => (JL rfl rfl rfl)) ?_; refine Jw (k := 3) rfl rfl rfl rfl rfl (fun _ hS => (Jm rfl (.inl (hS _ (Ky (n := 1) rfl))) rfl rfl)) ?_
      refine Jw (k := 5) rfl rfl rfl rfl rfl (fun _ hS => (JL rfl rfl rfl)) ?_; refine Jw (k := 6) rfl rfl rfl rfl rfl (fun _ hS => (Jm rfl (.inl (hS _ (Ky (n := 1) rfl))) rfl rfl)) ?_; refine KZ (k := 4) rfl rfl rfl rfl rfl Jqn (Jag hk1) (fun q hq => nomatch hq) fun y => ?_
      obtain ⟨⟨ya, yb, yc, yd, ybits, ypb, yitems, ypi, ypick⟩, yL, yok, yer⟩ := y
      refine KZ (k := 7) rfl rfl rfl rfl rfl Jqn (Jag hv1) (fun q hq => nomatch hq) fun y => ?_
      obtain ⟨⟨za, zb, zc, zd, zbits, zpb, zitems, zpi, zpick⟩, zL, zok, zer⟩ := y
      refine V2 (k := 8) (dv := [_, _]) (n := 2) (sz := 7) (vs := [_, _]) (zs := [_, _, _, _, _, _, _, _, _, _, _, _, _, _]) (r := [uV ya, uV yb, uV yc, uV yd, KM ybits.length ypb, KM yitems.length ypi, .int .i64 ypick, uV za, uV zb, uV zc, uV zd, KM zbits.length zpb, KM zitems.length zpi, .int .i64 zpick]) rfl rfl rfl rfl rfl rfl rfl rfl rfl rfl rfl rfl rfl (by rw [Kw]; exact rfl) rfl fun rb => ?_; refine Jw (k := 9) rfl rfl rfl rfl rfl (fun _ hS => (JI (r := [_, _, _, _, _, _, _]) rfl rfl)) ?_; refine V2 (k := 10) (dv := [_]) (n := 1) (sz := 7) (vs := [_]) (zs := [_, _, _, _, _, _, _]) (r := [.int .u64 0, .int .u64 0, .int .u64 0, .int .u64 0, .slice none 0 0, .slice (some ⟨rb, 0, none⟩) 2 2, .int .i64 0]) rfl rfl rfl rfl rfl rfl rfl rfl rfl rfl rfl rfl rfl (by rw [Kw]; exact rfl) rfl fun rc => ?_; refine KC ?_; refine KH (Jsk (M := [_, _, _, _, _]) ..) ?_; refine Km (L0 := _) (xs := Qj us) (row := rw2) (n := j) (sz := 7) (b := 88) (news := [_, _, _, _, _, _, _]) (List.Perm.refl _) rfl rfl rfl rfl (kn 0 rfl) rfl rfl rfl rfl rfl (by decide) rfl rfl rfl (by decide) hrow2 (by omega) (by omega) fun ra cap sp hra => ?_
      refine LS 1 [] rfl rfl ?_; refine Kz (k := 4) (cs' := #[.int .u64 0, .int .u64 0, .int .u64 0, .int .u64 0, .slice none 0 0, JF (j + 1) (some (ra, cap, sp)), .int .i64 0]) rfl rfl rfl rfl rfl rfl rfl rfl rfl rfl ?_; refine Jg (Jj (hK16 ?_)); refine Ja ?_
      refine JZ rfl ?_; refine Jy (show _ = Value.int .i64 ((j + 1 : Nat) : Int) from by rw [wrap_i64 (by omega) (by omega)]; congr 1 <;> omega) ?_; refine Ji rfl (Jg (J5 ?_))
      have hvc : Qj us ++ Vl.cells (.mk 0 0 0 0 [] none [(.mk ya yb yc yd ybits ypb yitems ypi ypick), (.mk za zb zc zd zbits zpb zitems zpi zpick)] (some (⟨rb, 0, none⟩, 2)) 0) = Qj (us ++ [.mk 0 0 0 0 [] none [(.mk ya yb yc yd ybits ypb yitems ypi ypick), (.mk za zb zc zd zbits zpb zitems zpi zpick)] (some (⟨rb, 0, none⟩, 2)) 0]) := by unfold Qj; rw [List.flatMap_append]; simp
      refine Xy (Jsm (M := [_, _, _, _, _]) ..) ?_; exact J1 (j + 1, us ++ [.mk 0 0 0 0 [] none [(.mk ya yb yc yd ybits ypb yitems ypi ypick), (.mk za zb zc zd zbits zpb zitems zpi zpick)] (some (⟨rb, 0, none⟩, 2)) 0], some (ra, cap, sp), _ :: (zL ++ (yL ++ F))) ⟨by simp only; omega, by simp only; rw [← hvc]; exact hra, fun z hz => Jvw hin2 yok zok hz, Jvx her2 hx yer zer⟩ (by simp only; omega) (.cons rfl (.cons rfl (.cons rfl (.cons rfl (.cons rfl (.cons rfl (.cons rfl (.cons rfl (.cons rfl (.cons rfl .nil)))))))))) (by simp only; rw [← hvc]; exact .cons _ (.cons _ (List.Sublist.refl _))) (fun _ _ h => h)
    · try simp only [ZZ] at h15
      refine JE (Jl ?_); refine Jl (J0 (hK11 ?_))
      obtain rfl : j = slots.length := by omega
      have hul : us.length = slots.length := by have := congrArg List.length her2; simpa using this
      have hvr2 : JF slots.length rw2 = KM us.length (Vo rw2) := by rw [hul]; exact (We _ _ (fun h => by rw [h] at hrow2; exact hrow2.1)).symm
      rw [hvr2]
      refine JS [(r2, .cells #[.int .u64 0, .int .u64 0, .int .u64 0, .int .u64 0, .slice none 0 0, JF i row, .int .i64 0] 81 (0, 0)), (r3, .cells #[J2 addr, uV nonce, uV ba, uV bb, uV bc, uV bd, J2 code, KM slots.length ap] 34 (0, 0)), (r4, .cells #[.int .u64 0, .int .u64 0, .int .u64 0, .int .u64 0, .slice none 0 0, KM us.length (Vo rw2), .int .i64 0] 81 (0, 0))] [(0, .pure), (1, .pure), (2, .pure), (3, .pure), (4, .grow (Qt (Jo0 hb1) (fun y => y.x.val) (fun y => y.L))), (5, .pure), (6, .pure), (7, .pure), (8, .pure), (9, .pure), (10, .pure), (11, .pure), (12, .pure), (13, .pure), (14, .grow (Qt (Jo0 hb2) (fun y => y.x.val) (fun y => y.L))), (15, .pure), (16, .dep [40, 44, 47, 50, 51] (Jbk 5 81)), (17, .pure), (18, .dep [53] (Jbk 1 81))] 19 [0, 1, 2, 3, 5, 6, 9, 10, 11, 12, 13, 15, 4, 7, 8, 14, 16, 17, 18] (by kernel_rfl) (by kernel_rfl) (by first | exact (fun _ h => absurd h List.not_mem_nil) | simp [SubS] | (intro p hp; simp [hp])) ?_
      refine Jw (k := 0) rfl rfl rfl rfl rfl (fun _ hS => (JL rfl rfl rfl)) ?_; refine Jw (k := 1) rfl rfl rfl rfl rfl (fun _ hS => (Jm rfl (.inl (hS _ (Ky (n := 0) rfl))) rfl rfl)) ?_
      refine Jw (k := 2) rfl rfl rfl rfl rfl (fun _ hS => (JL rfl rfl rfl)) ?_; refine Jw (k := 3) rfl rfl rfl rfl rfl (fun _ hS => (Jm rfl (.inl (hS _ (Ky (n := 1) rfl))) rfl rfl)) ?_
      refine Jw (k := 5) rfl rfl rfl rfl rfl (fun _ hS => (JL rfl rfl rfl)) ?_; refine Jw (k := 6) rfl rfl rfl rfl rfl (fun _ hS => (Jm rfl (.inl (hS _ (Ky (n := 1) rfl))) rfl rfl)) ?_
      refine Jw (k := 9) rfl rfl rfl rfl rfl (fun _ hS => (JL rfl rfl rfl)) ?_; refine Jw (k := 10) rfl rfl rfl rfl rfl (fun _ hS => (Jx (vs := [_, _, _, _]) rfl (.inl (hS _ (Ky (n := 1) rfl))) rfl rfl rfl rfl)) ?_; refine Jw (k := 11) rfl rfl rfl rfl rfl (fun _ hS => (JI (r := [_, _, _, _, _, _, _]) rfl rfl)) ?_
      refine Jw (k := 12) rfl rfl rfl rfl rfl (fun _ hS => (JL rfl rfl rfl)) ?_; refine Jw (k := 13) rfl rfl rfl rfl rfl (fun _ hS => (Jm rfl (.inl (hS _ (Ky (n := 1) rfl))) rfl rfl)) ?_; refine Jw (k := 15) rfl rfl rfl rfl rfl (fun _ hS => (Jx (vs := [_, _, _, _, _, _, _]) rfl (.inl (hS _ (Ky (n := 2) rfl))) rfl rfl rfl rfl)) ?_; refine KZ (k := 4) rfl rfl rfl rfl rfl Jqn (Jag hb1) (fun q hq => nomatch hq) fun y => ?_
      obtain ⟨⟨ya, yb, yc, yd, ybits, ypb, yitems, ypi, ypick⟩, yL, yok, yer⟩ := y
      refine WA (k := 7) rfl rfl rfl rfl rfl Jle (XZ _) ?_; refine Jw (k := 8) rfl rfl rfl rfl rfl (fun _ hS => (JI (r := [_, _, _, _, _, _, _]) rfl rfl)) ?_; refine KZ (k := 14) rfl rfl rfl rfl rfl Jqn (Jag hb2) (fun q hq => nomatch hq) fun y => ?_
      obtain ⟨⟨za, zb, zc, zd, zbits, zpb, zitems, zpi, zpick⟩, zL, zok, zer⟩ := y
      refine V2 (k := 16) (dv := [_, _, _, _, _]) (n := 5) (sz := 7) (vs := [_, _, _, _, _]) (zs := [_, _, _, _, _, _, _, _, _, _, _, _, _, _, _, _, _, _, _, _, _, _, _, _, _, _, _, _, _, _, _, _, _, _, _]) (r := [uV ya, uV yb, uV yc, uV yd, KM ybits.length ypb, KM yitems.length ypi, .int .i64 ypick, uV nonce, uV 0, uV 0, uV 0, .slice none 0 0, .slice none 0 0, .int .i64 0, uV ba, uV bb, uV bc, uV bd, .slice none 0 0, .slice none 0 0, .int .i64 0, uV za, uV zb, uV zc, uV zd, KM zbits.length zpb, KM zitems.length zpi, .int .i64 zpick, uV 0, uV 0, uV 0, uV 0, .slice none 0 0, KM us.length (Vo rw2), .int .i64 0]) rfl rfl rfl rfl rfl rfl rfl rfl rfl rfl rfl rfl rfl (by rw [Kw]; exact rfl) rfl fun rb => ?_; refine Jw (k := 17) rfl rfl rfl rfl rfl (fun _ hS => (JI (r := [_, _, _, _, _, _, _]) rfl rfl)) ?_; refine V2 (k := 18) (dv := [_]) (n := 1) (sz := 7) (vs := [_]) (zs := [_, _, _, _, _, _, _]) (r := [.int .u64 0, .int .u64 0, .int .u64 0, .int .u64 0, .slice none 0 0, .slice (some ⟨rb, 0, none⟩) 5 5, .int .i64 0]) rfl rfl rfl rfl rfl rfl rfl rfl rfl rfl rfl rfl rfl (by rw [Kw]; exact rfl) rfl fun rc => ?_; refine KC ?_; refine KH (Jsl (M := [_, _, _, _]) ..) ?_; refine Km (L0 := _) (xs := Qj vs) (row := row) (n := i) (sz := 7) (b := 88) (news := [_, _, _, _, _, _, _]) (List.Perm.refl _) rfl rfl rfl rfl (kn 0 rfl) rfl rfl rfl rfl rfl (by decide) rfl rfl rfl (by decide) hrow (by omega) (by omega) fun ra cap sp hra => ?_
      refine LS 1 [] rfl rfl ?_; refine Kz (k := 5) (cs' := #[.int .u64 0, .int .u64 0, .int .u64 0, .int .u64 0, .slice none 0 0, JF (i + 1) (some (ra, cap, sp)), .int .i64 0]) rfl rfl rfl rfl rfl rfl rfl rfl rfl rfl ?_; refine Jg (Jj (hK8 ?_)); refine Ja ?_
      refine JZ rfl ?_; refine Jy (show _ = Value.int .i64 ((i + 1 : Nat) : Int) from by rw [wrap_i64 (by omega) (by omega)]; congr 1 <;> omega) ?_; refine Ji rfl (Jg (J5 ?_))
      have hvc : Qj vs ++ Vl.cells (.mk 0 0 0 0 [] none [(.mk ya yb yc yd ybits ypb yitems ypi ypick), (.mk nonce 0 0 0 [] none [] none 0), (.mk ba bb bc bd [] none [] none 0), (.mk za zb zc zd zbits zpb zitems zpi zpick), .mk 0 0 0 0 [] none us (Vo rw2) 0] (some (⟨rb, 0, none⟩, 5)) 0) = Qj (vs ++ [.mk 0 0 0 0 [] none [(.mk ya yb yc yd ybits ypb yitems ypi ypick), (.mk nonce 0 0 0 [] none [] none 0), (.mk ba bb bc bd [] none [] none 0), (.mk za zb zc zd zbits zpb zitems zpi zpick), .mk 0 0 0 0 [] none us (Vo rw2) 0] (some (⟨rb, 0, none⟩, 5)) 0]) := by unfold Qj; rw [List.flatMap_append]; simp
      refine Xy (Jsn (M := [_, _, _, _]) ..) ?_; exact J1 (i + 1, vs ++ [.mk 0 0 0 0 [] none [(.mk ya yb yc yd ybits ypb yitems ypi ypick), (.mk nonce 0 0 0 [] none [] none 0), (.mk ba bb bc bd [] none [] none 0), (.mk za zb zc zd zbits zpb zitems zpi zpick), .mk 0 0 0 0 [] none us (Vo rw2) 0] (some (⟨rb, 0, none⟩, 5)) 0], some (ra, cap, sp), _ :: (zL ++ (yL ++ (_ ++ (F ++ E))))) ⟨by simp only; omega, by simp only; rw [← hvc]; exact hra, fun z hz => Jvy hin (Qg hrow2 (by decide)) hul hb3 hin2 hnu hba yok zok hz, Jvz her ha yer zer her2⟩ (by simp only; omega) (.cons rfl (.cons rfl (.cons rfl (.cons rfl (.cons rfl .nil))))) (by simp only; rw [← hvc]; exact .cons _ (.cons _ (.cons _ (List.Sublist.refl _)))) (fun _ _ h => h)
  · try simp only [ZZ] at h7
    refine JE (Jl ?_); refine Jl (J0 (hK3 ?_)); refine sQ fun _ hK18 => ?_
    have honeV : ([.int .u64 0, .int .u64 0, .int .u64 0, .int .u64 0, .slice none 0 0, JF i row, .int .i64 0] : List Value).all QR = true := by cases row <;> rfl
    refine Ja (LR rfl (Jq (xs := [.int .u64 0, .int .u64 0, .int .u64 0, .int .u64 0, .slice none 0 0, JF i row, .int .i64 0]) (n := 7) rfl (kn 0 rfl) rfl rfl rfl) (Jz (k := 1) (n := 7) (ys := [.int .u64 0, .int .u64 0, .int .u64 0, .int .u64 0, .slice none 0 0, JF i row, .int .i64 0]) rfl rfl rfl rfl rfl rfl rfl honeV rfl ?_)); refine nK hK18 (Jb ?_); refine Jv rfl rfl (.cons (J6 (vs := [_, _, _, _, _, _, _]) rfl (kn 1 rfl) rfl rfl) .nil) (fun w1 hs1 => ?_)
    have hiM : i = accts.length := by omega
    have hvl : vs.length = i := by have := congrArg List.length her; simp at this; omega
    rw [hiM, List.take_length] at her; rw [← hvl] at hrow
    have hvr : JF i row = KM vs.length (Vo row) := by rw [← hvl]; exact (We _ _ (fun h => by rw [h] at hrow; exact hrow.1)).symm
    exact ⟨⟨.mk 0 0 0 0 [] none vs (Vo row) 0, JY 81 (Qj vs) row ++ E, jF (by omega) (Qg hrow (by decide)) hin i0, by rw [Qc, Wh, her]; exact Jv0 ..⟩, congrArg (fun z => Ending.returned (Value.agg #[.int .u64 0, .int .u64 0, .int .u64 0, .int .u64 0, .slice none 0 0, z, .int .i64 0])) hvr, hs1.weakL (.cons _ (.cons _ (List.Sublist.refl _)))⟩
def vA (x : AcL) : Value := .agg (AcL.cells x).toArray
theorem Jal (x : AcL) : Pure Tryz.prog 39 [vA x].toArray (J2 (AcL.addr x)) := by
  refine JC Tryz.func39 rfl rfl fun w => ?_; refine sR fun _ hK1 => ?_; refine LN rfl fun r1 => ?_; refine Ji rfl (nK hK1 ?_); refine sR fun _ hK2 => ?_
  refine LS 3 [0] rfl rfl (nK hK2 ?_); refine Jb (pT rfl rfl rfl fun w1 hs1 => ?_); exact ⟨rfl, hs1.keep⟩
theorem Jo2 {R : Jr} {xs : List AcL} {p : Pl} (hl : xs.length ≤ 9223372036854775807) (hs : Seg R xs.length (xs.flatMap AcL.cells) p) {g : FuncId} {caps : List Value} {pr : AcL → Bool} (eg : Enters Tryz.prog g) (hg : ∀ x ∈ xs, PureR Tryz.prog g (vA x :: caps).toArray (.bool (pr x)) R) :
    PureR Tryz.prog 34 [KM xs.length p, .func (.func g) #[] caps.toArray].toArray (.int .i64 (Yz pr xs)) R := by
  refine Je Tryz.func34 rfl rfl fun w => ?_; refine sR fun _ hK1 => Ji rfl (nK hK1 ?_); refine sQ fun _ hK2 => sR fun _ hK3 => ?_; refine Ji rfl (LR rfl (J3 rfl hs rfl) (Ji rfl ?_)); refine nK hK3 (Ju ?_); refine JG (σ := Nat) (fun i => i ≤ xs.length ∧ ∀ j, j < i → ∀ y, xs[j]? = some y → pr y = false) (fun i => [(0, KM xs.length p), (1, .func (.func g) #[] caps.toArray), (7, .int .i64 (xs.length : Int)), (8, .int .i64 (i : Int))]) (fun _ => []) (fun _ _ _ => True) (fun i => xs.length - i) 0 ⟨by omega, fun j hj => absurd hj (by omega)⟩ (.cons rfl (.cons rfl (.cons rfl (.cons rfl .nil)))) (List.nil_sublist _) (fun _ _ h => h) ?_; rintro i ⟨hi1, hinv⟩; refine sR fun _ hK4 => JZ rfl (nK hK4 ?_); refine sQ fun _ hK5 => ?_; refine Jc rfl (fun h6 => ?_) (fun h6 => ?_)
  try simp only [ZZ] at h6
  refine Jf (hK5 ?_); refine sB fun _ hK7 => sR fun _ hK8 => ?_; refine LS 2 [] rfl rfl (nK hK8 ?_); refine sQ fun _ hK9 => ?_
  obtain ⟨x, hx, hmx⟩ := QC (show i < xs.length by omega)
  refine Ja (LS 3 [] rfl rfl ?_)
  refine LR rfl (Jp (j := i) rfl hs rfl rfl rfl (by first | rfl | omega) (by omega)) ?_; refine LR rfl (Ku AcL.len (fun q hq => Or.inr hq) rfl hs hx rfl rfl) ?_; refine Jh rfl rfl rfl eg (hg x hmx) (fun q hq => Or.inr hq) ?_; refine nK hK9 ?_; refine Jc rfl (fun h10 => ?_) (fun h10 => ?_)
  try simp only [ZZ] at h10
  refine sR fun _ hK11 => LS 2 [] rfl rfl (nK hK11 ?_); refine Jb (Jn (Jd ?_)); refine Jd (Jn (Jd ?_)); refine pT rfl rfl rfl fun w1 hs1 => ?_; refine ⟨?_, hs1.keep⟩; rw [Jcb hx (by assumption) hinv]; rfl
  try simp only [ZZ] at h10
  refine Jf (Jj (hK7 ?_)); refine Ja (JZ rfl (Jt (by omega) (by omega) ?_)); refine Ji rfl (Jg (J5 ?_))
  exact J1 (i + 1) ⟨by omega, fun j hj y hy => by
    rcases Nat.lt_succ_iff_lt_or_eq.1 hj with hj | rfl
    exact hinv j hj y hy
    rw [hx] at hy; cases hy; assumption⟩ (by omega) (.cons rfl (.cons rfl (.cons rfl (.cons rfl .nil)))) (List.nil_sublist _) (fun _ _ h => h)
  · try simp only [ZZ] at h6
    refine JE (Jl ?_); refine Jl (J0 (hK2 ?_)); refine sR fun _ hK12 => Ji rfl (nK hK12 ?_); refine Jb (pT rfl rfl rfl fun w1 hs1 => ?_); refine ⟨?_, hs1.keep⟩; rw [Jca fun j x hx => hinv j (by have := (List.getElem?_eq_some_iff.1 hx).1; omega) x hx]; rfl
theorem Jo3 {R : Jr} {xs : List AcL} {p : Pl} (hl : xs.length ≤ 9223372036854775807) (hs : Seg R xs.length (xs.flatMap AcL.cells) p) :
    PureR Tryz.prog 38 [KM xs.length p, fV 39].toArray (.bool (QL AcL.addr xs)) R := by
  refine Je Tryz.func38 rfl rfl fun w => ?_; refine sR fun K1 hK1 => Ji rfl (nK hK1 ?_); clear hK1 K1; refine sQ fun K2 hK2 => sR fun K3 hK3 => ?_; refine Ji rfl (nK hK3 ?_); clear hK3 K3; refine Ju ?_; refine JG (σ := Nat) (fun i => (i = 0 ∨ i < xs.length) ∧ ∀ j x y, j < i → xs[j]? = some x → xs[j + 1]? = some y → Op.bytesLess (AcL.addr x) (AcL.addr y) = true) (fun i => [(0, KM xs.length p), (1, fV 39), (5, .int .i64 ((i + 1 : Nat) : Int))]) (fun _ => []) (fun _ _ _ => True) (fun i => xs.length - i) 0 ⟨.inl rfl, fun j _ _ hj => absurd hj (by omega)⟩ (.cons rfl (.cons rfl (.cons rfl .nil))) (List.nil_sublist _) (fun _ _ h => h) ?_; rintro i ⟨hi1, hinv⟩; refine sQ fun K4 hK4 => sR fun K5 hK5 => ?_; refine LS 2 [] rfl rfl ?_; refine LR rfl (J3 rfl hs rfl) ?_; refine JZ rfl (nK hK5 ?_); clear hK5 K5; refine Jc rfl (fun h6 => ?_) (fun h6 => ?_)
  try simp only [ZZ] at h6
  refine Jf (hK4 ?_); clear hK4 K4; refine sB fun K7 hK7 => sQ fun K8 hK8 => ?_
  obtain ⟨x, hx, hmx⟩ := QC (show i < xs.length by omega)
  obtain ⟨y, hy, hmy⟩ := QC (show i + 1 < xs.length by omega)
  refine Ka 14 (by kernel_rfl) (by kernel_rfl) ?_; refine Jk rfl rfl rfl (Jo rfl) ?_; refine Jk rfl rfl rfl (Jo rfl) ?_; refine Jk rfl rfl rfl (Jo rfl) ?_; refine Jk rfl rfl rfl (J9 rfl rfl rfl) ?_; refine VT (by omega) (by omega) ?_
  refine Jk rfl rfl rfl (Jp (j := i) rfl hs rfl rfl rfl (by first | rfl | omega) (by omega)) ?_; refine Jk rfl rfl rfl (Ku AcL.len (fun q hq => Or.inr hq) rfl hs hx rfl rfl) ?_; refine Qm rfl rfl rfl Jqk (Jal x) ?_; refine Jk rfl rfl rfl (Jo rfl) ?_; refine Jk rfl rfl rfl (Jo rfl) ?_; refine Jk rfl rfl rfl (Jo rfl) ?_
  refine Jk rfl rfl rfl (Jp (j := (i + 1)) rfl hs rfl rfl rfl (by first | rfl | omega) (by omega)) ?_; refine Jk rfl rfl rfl (Ku AcL.len (fun q hq => Or.inr hq) rfl hs hy rfl rfl) ?_; refine Qm rfl rfl rfl Jqk (Jal y) ?_; refine Jk rfl rfl rfl (Jgu rfl rfl) ?_; refine Kt ?_; refine nK hK8 ?_; clear hK8 K8; refine Jc rfl (fun h9 => ?_) (fun h9 => ?_)
  try simp only [ZZ] at h9
  refine sR fun K10 hK10 => Ji rfl (nK hK10 ?_); clear hK10 K10; refine Jb (Jn (Jd ?_)); clear hK7 K7; refine Jd (Jn (Jd ?_)); clear hK2 K2; refine pT rfl rfl rfl fun w1 hs1 => ?_; refine ⟨?_, hs1.keep⟩; rw [j0 hx hy (by simp_all)]; rfl
  try simp only [ZZ] at h9
  refine Jf (Jj (hK7 ?_)); clear hK7 K7; refine Ja (LS 2 [] rfl rfl (Jt (by omega) (by omega) ?_)); refine Ji rfl (Jg (J5 ?_))
  exact J1 (i + 1) ⟨.inr (by omega), fun j u v hj hu hv => by
    rcases Nat.lt_succ_iff_lt_or_eq.1 hj with hj | rfl
    exact hinv j u v hj hu hv
    rw [hx] at hu; rw [hy] at hv; cases hu; cases hv; simp_all⟩ (by omega) (.cons rfl (.cons rfl (.cons rfl .nil))) (List.nil_sublist _) (fun _ _ h => h)
  · try simp only [ZZ] at h6
    refine JE (Jl ?_); clear hK4 K4; refine Jl (J0 (hK2 ?_)); clear hK2 K2; refine sR fun K11 hK11 => Ji rfl (nK hK11 ?_); clear hK11 K11; refine Jb (pT rfl rfl rfl fun w1 hs1 => ?_); refine ⟨?_, hs1.keep⟩; rw [Zt fun j u v hu hv => hinv j u v (by have := (List.getElem?_eq_some_iff.1 hv).1; omega) hu hv]; rfl
def vS (x : (BS × BS)) : Value := .agg (QU x).toArray
theorem Jam (x : (BS × BS)) : Pure Tryz.prog 48 [vS x].toArray (J2 (Prod.fst x)) := by
  refine JC Tryz.func48 rfl rfl fun w => ?_; refine sR fun _ hK1 => ?_; refine LN rfl fun r1 => ?_; refine Ji rfl (nK hK1 ?_); refine sR fun _ hK2 => ?_
  refine LS 3 [0] rfl rfl (nK hK2 ?_); refine Jb (pT rfl rfl rfl fun w1 hs1 => ?_); exact ⟨rfl, hs1.keep⟩
theorem yh {R : Jr} {xs : List (BS × BS)} {p : Pl} (hl : xs.length ≤ 9223372036854775807) (hs : Seg R xs.length (xs.flatMap QU) p) {g : FuncId} {caps : List Value} {pr : (BS × BS) → Bool} (eg : Enters Tryz.prog g) (hg : ∀ x ∈ xs, PureR Tryz.prog g (vS x :: caps).toArray (.bool (pr x)) R) :
    PureR Tryz.prog 40 [KM xs.length p, .func (.func g) #[] caps.toArray].toArray (.int .i64 (Yz pr xs)) R := by
  refine Je Tryz.func40 rfl rfl fun w => ?_; refine sR fun _ hK1 => Ji rfl (nK hK1 ?_); refine sQ fun _ hK2 => sR fun _ hK3 => ?_; refine Ji rfl (LR rfl (J3 rfl hs rfl) (Ji rfl ?_)); refine nK hK3 (Ju ?_); refine JG (σ := Nat) (fun i => i ≤ xs.length ∧ ∀ j, j < i → ∀ y, xs[j]? = some y → pr y = false) (fun i => [(0, KM xs.length p), (1, .func (.func g) #[] caps.toArray), (7, .int .i64 (xs.length : Int)), (8, .int .i64 (i : Int))]) (fun _ => []) (fun _ _ _ => True) (fun i => xs.length - i) 0 ⟨by omega, fun j hj => absurd hj (by omega)⟩ (.cons rfl (.cons rfl (.cons rfl (.cons rfl .nil)))) (List.nil_sublist _) (fun _ _ h => h) ?_; rintro i ⟨hi1, hinv⟩; refine sR fun _ hK4 => JZ rfl (nK hK4 ?_); refine sQ fun _ hK5 => ?_; refine Jc rfl (fun h6 => ?_) (fun h6 => ?_)
  try simp only [ZZ] at h6
  refine Jf (hK5 ?_); refine sB fun _ hK7 => sR fun _ hK8 => ?_; refine LS 2 [] rfl rfl (nK hK8 ?_); refine sQ fun _ hK9 => ?_
  obtain ⟨x, hx, hmx⟩ := QC (show i < xs.length by omega)
  refine Ja (LS 3 [] rfl rfl ?_)
  refine LR rfl (Jp (j := i) rfl hs rfl rfl rfl (by first | rfl | omega) (by omega)) ?_; refine LR rfl (Ku JU (fun q hq => Or.inr hq) rfl hs hx rfl rfl) ?_; refine Jh rfl rfl rfl eg (hg x hmx) (fun q hq => Or.inr hq) ?_; refine nK hK9 ?_; refine Jc rfl (fun h10 => ?_) (fun h10 => ?_)
  try simp only [ZZ] at h10
  refine sR fun _ hK11 => LS 2 [] rfl rfl (nK hK11 ?_); refine Jb (Jn (Jd ?_)); refine Jd (Jn (Jd ?_)); refine pT rfl rfl rfl fun w1 hs1 => ?_; refine ⟨?_, hs1.keep⟩; rw [Jcb hx (by assumption) hinv]; rfl
  try simp only [ZZ] at h10
  refine Jf (Jj (hK7 ?_)); refine Ja (JZ rfl (Jt (by omega) (by omega) ?_)); refine Ji rfl (Jg (J5 ?_))
  exact J1 (i + 1) ⟨by omega, fun j hj y hy => by
    rcases Nat.lt_succ_iff_lt_or_eq.1 hj with hj | rfl
    exact hinv j hj y hy
    rw [hx] at hy; cases hy; assumption⟩ (by omega) (.cons rfl (.cons rfl (.cons rfl (.cons rfl .nil)))) (List.nil_sublist _) (fun _ _ h => h)
  · try simp only [ZZ] at h6
    refine JE (Jl ?_); refine Jl (J0 (hK2 ?_)); refine sR fun _ hK12 => Ji rfl (nK hK12 ?_); refine Jb (pT rfl rfl rfl fun w1 hs1 => ?_); refine ⟨?_, hs1.keep⟩; rw [Jca fun j x hx => hinv j (by have := (List.getElem?_eq_some_iff.1 hx).1; omega) x hx]; rfl
theorem Jo4 {R : Jr} {xs : List (BS × BS)} {p : Pl} (hl : xs.length ≤ 9223372036854775807) (hs : Seg R xs.length (xs.flatMap QU) p) :
    PureR Tryz.prog 68 [KM xs.length p, fV 48].toArray (.bool (QL Prod.fst xs)) R := by
  refine Je Tryz.func68 rfl rfl fun w => ?_; refine sR fun K1 hK1 => Ji rfl (nK hK1 ?_); clear hK1 K1; refine sQ fun K2 hK2 => sR fun K3 hK3 => ?_; refine Ji rfl (nK hK3 ?_); clear hK3 K3; refine Ju ?_; refine JG (σ := Nat) (fun i => (i = 0 ∨ i < xs.length) ∧ ∀ j x y, j < i → xs[j]? = some x → xs[j + 1]? = some y → Op.bytesLess (Prod.fst x) (Prod.fst y) = true) (fun i => [(0, KM xs.length p), (1, fV 48), (5, .int .i64 ((i + 1 : Nat) : Int))]) (fun _ => []) (fun _ _ _ => True) (fun i => xs.length - i) 0 ⟨.inl rfl, fun j _ _ hj => absurd hj (by omega)⟩ (.cons rfl (.cons rfl (.cons rfl .nil))) (List.nil_sublist _) (fun _ _ h => h) ?_; rintro i ⟨hi1, hinv⟩; refine sQ fun K4 hK4 => sR fun K5 hK5 => ?_; refine LS 2 [] rfl rfl ?_; refine LR rfl (J3 rfl hs rfl) ?_; refine JZ rfl (nK hK5 ?_); clear hK5 K5; refine Jc rfl (fun h6 => ?_) (fun h6 => ?_)
  try simp only [ZZ] at h6
  refine Jf (hK4 ?_); clear hK4 K4; refine sB fun K7 hK7 => sQ fun K8 hK8 => ?_
  obtain ⟨x, hx, hmx⟩ := QC (show i < xs.length by omega)
  obtain ⟨y, hy, hmy⟩ := QC (show i + 1 < xs.length by omega)
  refine Ka 14 (by kernel_rfl) (by kernel_rfl) ?_; refine Jk rfl rfl rfl (Jo rfl) ?_; refine Jk rfl rfl rfl (Jo rfl) ?_; refine Jk rfl rfl rfl (Jo rfl) ?_; refine Jk rfl rfl rfl (J9 rfl rfl rfl) ?_; refine VT (by omega) (by omega) ?_
  refine Jk rfl rfl rfl (Jp (j := i) rfl hs rfl rfl rfl (by first | rfl | omega) (by omega)) ?_; refine Jk rfl rfl rfl (Ku JU (fun q hq => Or.inr hq) rfl hs hx rfl rfl) ?_; refine Qm rfl rfl rfl Jql (Jam x) ?_; refine Jk rfl rfl rfl (Jo rfl) ?_; refine Jk rfl rfl rfl (Jo rfl) ?_; refine Jk rfl rfl rfl (Jo rfl) ?_
  refine Jk rfl rfl rfl (Jp (j := (i + 1)) rfl hs rfl rfl rfl (by first | rfl | omega) (by omega)) ?_; refine Jk rfl rfl rfl (Ku JU (fun q hq => Or.inr hq) rfl hs hy rfl rfl) ?_; refine Qm rfl rfl rfl Jql (Jam y) ?_; refine Jk rfl rfl rfl (Jgu rfl rfl) ?_; refine Kt ?_; refine nK hK8 ?_; clear hK8 K8; refine Jc rfl (fun h9 => ?_) (fun h9 => ?_)
  try simp only [ZZ] at h9
  refine sR fun K10 hK10 => Ji rfl (nK hK10 ?_); clear hK10 K10; refine Jb (Jn (Jd ?_)); clear hK7 K7; refine Jd (Jn (Jd ?_)); clear hK2 K2; refine pT rfl rfl rfl fun w1 hs1 => ?_; refine ⟨?_, hs1.keep⟩; rw [j0 hx hy (by simp_all)]; rfl
  try simp only [ZZ] at h9
  refine Jf (Jj (hK7 ?_)); clear hK7 K7; refine Ja (LS 2 [] rfl rfl (Jt (by omega) (by omega) ?_)); refine Ji rfl (Jg (J5 ?_))
  exact J1 (i + 1) ⟨.inr (by omega), fun j u v hj hu hv => by
    rcases Nat.lt_succ_iff_lt_or_eq.1 hj with hj | rfl
    exact hinv j u v hj hu hv
    rw [hx] at hu; rw [hy] at hv; cases hu; cases hv; simp_all⟩ (by omega) (.cons rfl (.cons rfl (.cons rfl .nil))) (List.nil_sublist _) (fun _ _ h => h)
  · try simp only [ZZ] at h6
    refine JE (Jl ?_); clear hK4 K4; refine Jl (J0 (hK2 ?_)); clear hK2 K2; refine sR fun K11 hK11 => Ji rfl (nK hK11 ?_); clear hK11 K11; refine Jb (pT rfl rfl rfl fun w1 hs1 => ?_); refine ⟨?_, hs1.keep⟩; rw [Zt fun j u v hu hv => hinv j u v (by have := (List.getElem?_eq_some_iff.1 hv).1; omega) hu hv]; rfl
theorem Jso (a : BS) : (!decide (a = a)) = false := by simp
theorem Jh5 (a : BS) : Pure Tryz.prog 158 [J2 a].toArray (.bool false) := by
  refine JC Tryz.func158 rfl rfl fun w => ?_; refine sR fun _ hK1 => Ji rfl (nK hK1 ?_); refine sR fun _ hK2 => LS 2 [] rfl rfl ?_; refine LR rfl (Zj rfl rfl) ?_; refine Jy (congrArg Value.bool (Jso a)) ?_; refine Ji rfl (nK hK2 ?_); refine Jb (pT rfl rfl rfl fun w1 hs1 => ?_); exact ⟨rfl, hs1.keep⟩
theorem zq (a b : BS) : Pure Tryz.prog 106 [J2 a, J2 b].toArray (.int .i64 (qS a b)) := by
  refine JC Tryz.func106 rfl rfl fun w => ?_; refine sR fun K1 hK1 => Ji rfl (nK hK1 ?_); clear hK1 K1; refine sR fun K2 hK2 => Ji rfl (JD rfl rfl rfl (enters_of Tryz.func158 (by kernel_rfl) rfl) (Jh5 a) (Ji rfl ?_)); refine nK hK2 ?_; clear hK2 K2; refine sR fun K3 hK3 => Ji rfl (JD rfl rfl rfl (enters_of Tryz.func158 (by kernel_rfl) rfl) (Jh5 b) (Ji rfl ?_)); refine nK hK3 ?_; clear hK3 K3; refine sQ fun K4 hK4 => sR fun K5 hK5 => ?_; refine Ji rfl (nK hK5 ?_); clear hK5 K5; refine Jc rfl (fun h6 => ?_) (fun h6 => ?_)
  try exact Bool.noConfusion h6
  · try simp only [ZZ] at h6
    refine Jf (hK4 ?_); clear hK4 K4; refine sQ fun K12 hK12 => sR fun K13 hK13 => ?_; refine Ji rfl (nK hK13 ?_); clear hK13 K13; refine Jc rfl (fun h14 => ?_) (fun h14 => ?_)
    try exact Bool.noConfusion h14
    · try simp only [ZZ] at h14
      refine Jf (hK12 ?_); clear hK12 K12; refine sQ fun K16 hK16 => sR fun K17 hK17 => ?_; refine LS 2 [] rfl rfl ?_; refine LR rfl (Jqc rfl rfl) ?_; refine nK hK17 ?_; clear hK17 K17; refine Jc rfl (fun h18 => ?_) (fun h18 => ?_)
      try simp only [ZZ] at h18
      refine sR fun K19 hK19 => Ji rfl (nK hK19 ?_); clear hK19 K19; refine Jb (Jd ?_); clear hK16 K16; refine pT rfl rfl rfl fun w1 hs1 => ?_; refine ⟨?_, hs1.keep⟩
      unfold qS
      simp_all [JP]
      · try simp only [ZZ] at h18
        refine Jf (hK16 ?_); clear hK16 K16; refine sQ fun K20 hK20 => sR fun K21 hK21 => ?_; refine LS 2 [] rfl rfl ?_; refine LR rfl (xF rfl rfl) ?_; refine nK hK21 ?_; clear hK21 K21; refine Jc rfl (fun h22 => ?_) (fun h22 => ?_)
        try simp only [ZZ] at h22
        refine sR fun K23 hK23 => Ji rfl (nK hK23 ?_); clear hK23 K23; refine Jb (Jd ?_); clear hK20 K20; refine pT rfl rfl rfl fun w1 hs1 => ?_; refine ⟨?_, hs1.keep⟩
        unfold qS
        simp_all [JP]
        · try simp only [ZZ] at h22
          refine Jf (hK20 ?_); clear hK20 K20; refine sR fun K24 hK24 => Ji rfl (nK hK24 ?_); clear hK24 K24; refine Jb (pT rfl rfl rfl fun w1 hs1 => ?_); refine ⟨?_, hs1.keep⟩
          unfold qS
          simp_all [JP]
theorem Jo5 : Lib.repeatL [0] 32 = Vc := by decide +kernel
theorem Jff : Pure Tryz.prog 42 [].toArray (J2 Vc) := by
  rw [← Jo5]; refine JC Tryz.func42 rfl rfl fun w => ?_; refine sR fun _ hK1 => Ji rfl (nK hK1 ?_); refine sR fun _ hK2 => ?_; refine JD rfl rfl rfl Juq (qb (n := 32) (by decide)) ?_; refine Ji rfl (nK hK2 ?_); refine Jb (pT rfl rfl rfl fun w1 hs1 => ?_); exact ⟨rfl, hs1.keep⟩
theorem Jxo {R : Jr} {rb e : Nat} (hb : (rb, Obj.cells #[fV 39] e (0, 0)) ∈ R) (x : AcL) (k : BS) : PureR Tryz.prog 105 [vA x, J2 k, .pointer (some ⟨rb, 0, none⟩)].toArray (.int .i64 (qS (AcL.addr x) k)) R := by
  refine Je Tryz.func105 rfl rfl fun w => ?_; refine sR fun _ hK1 => ?_; refine LN rfl fun r1 => ?_; refine Ji rfl (nK hK1 ?_); refine sR fun _ hK2 => ?_; refine LR rfl (Jm rfl (Or.inr hb) rfl rfl) ?_; refine LR rfl (Jx (vs := [_, _, _, _, _, _, _, _]) rfl (kn 0 rfl) rfl rfl rfl rfl) ?_; refine JD rfl rfl rfl Jqk (Jal x) ?_; refine Ji rfl (JD rfl rfl rfl (enters_of Tryz.func106 (by kernel_rfl) rfl) (zq (AcL.addr x) k) (Ji rfl ?_)); refine nK hK2 (Jb ?_); refine pT rfl rfl rfl fun w1 hs1 => ?_; exact ⟨rfl, hs1.keep⟩
theorem Jjy {R : Jr} {xs : List AcL} {p : Pl} (hl : xs.length ≤ 1000) (hs : Seg R xs.length (xs.flatMap AcL.cells) p) (hso : KE AcL.addr xs) {k : BS} {g : FuncId} {caps : List Value} (eg : Enters Tryz.prog g) (hg : ∀ x ∈ xs, PureR Tryz.prog g (vA x :: J2 k :: caps).toArray (.int .i64 (qS (AcL.addr x) k)) R) :
    PureR Tryz.prog 104 [KM xs.length p, J2 k, .func (.func g) #[] caps.toArray].toArray (.tuple #[.int .i64 (ZU AcL.addr k xs : Nat), .bool (VQ AcL.addr k xs)]) R := by
  refine Je Tryz.func104 rfl rfl fun w => ?_; refine sR fun _ hK1 => LS 2 [] rfl rfl (nK hK1 ?_); refine sR fun _ hK2 => Ji rfl (LR rfl (J3 rfl hs rfl) (Ji rfl ?_)); refine nK hK2 (sR fun _ hK3 => ?_); refine LS 3 [] rfl rfl (nK hK3 ?_); refine sB fun _ hK4 => ?_; refine JG (σ := Nat × Nat) (fun s => (s.1 ≤ s.2 ∧ s.2 ≤ xs.length) ∧ (∀ q y, q < s.1 → xs[q]? = some y → Op.bytesLess (AcL.addr y) k = true) ∧ ∀ q y, s.2 ≤ q → xs[q]? = some y → Op.bytesLess (AcL.addr y) k = false) (fun s => [(0, KM xs.length p), (1, J2 k), (2, .func (.func g) #[] caps.toArray), (8, .int .i64 (xs.length : Int)), (9, .int .i64 (s.1 : Int)), (10, .int .i64 (s.2 : Int))]) (fun _ => []) (fun _ _ _ => True) (fun s => s.2 - s.1) (0, xs.length) ⟨⟨Nat.zero_le _, Nat.le_refl _⟩, fun q _ hq => absurd hq (Nat.not_lt_zero q), fun q y hq hy => absurd (List.getElem?_eq_some_iff.1 hy).1 (by omega)⟩ (.cons rfl (.cons rfl (.cons rfl (.cons rfl (.cons rfl (.cons rfl .nil)))))) (List.nil_sublist _) (fun _ _ h => h) ?_; rintro ⟨i, j⟩ ⟨⟨hi0, hj0⟩, hi1, hi2⟩; simp only at hi0 hj0 hi1 hi2; change HC _ _ [(0, _), (1, _), (2, _), (8, _), (9, .int .i64 (i : Int)), (10, .int .i64 (j : Int))] _ _ _ _; refine sQ fun _ hK5 => sR fun _ hK6 => ?_; refine LS 3 [] rfl rfl (nK hK6 ?_); refine Jc rfl (fun h7 => ?_) (fun h7 => ?_)
  try simp only [ZZ] at h7
  refine Jf (hK5 ?_); refine Ju (sR fun _ hK8 => (LS 3 [] rfl rfl ?_)); refine Jt (by omega) (by omega) ?_; refine JZ rfl (qx (by omega) (by omega) (LR rfl (vL (n := 1) (b := (((i + j) / 2 : Nat) : Int)) rfl rfl rfl (by decide) (by omega) (by omega)) ?_)); refine JZ rfl (Jt (by omega) (by omega) (Ji rfl ?_)); refine nK hK8 (sQ fun _ hK9 => ?_)
  obtain ⟨x, hx, hmx⟩ := QC (show (i + j) / 2 < xs.length by omega)
  refine Ja (LS 3 [] rfl rfl ?_)
  refine LR rfl (Jp (j := ((i + j) / 2)) rfl hs rfl rfl rfl (by first | rfl | omega) (by omega)) ?_; refine LR rfl (Ku AcL.len (fun q hq => Or.inr hq) rfl hs hx rfl rfl) ?_; refine Ji rfl (Jh rfl rfl rfl eg (hg x hmx) (fun q hq => Or.inr hq) ?_); refine JZ rfl (Jy (congrArg Value.bool (Jgx (AcL.addr x) k)) ?_); refine nK hK9 ?_; refine Jc rfl (fun h10 => ?_) (fun h10 => ?_)
  try simp only [ZZ] at h10
  refine Ja (LS 2 [] rfl rfl (Jt (by omega) (by omega) ?_)); refine Ji rfl (Jg ?_); refine Jj (J5 ?_); exact J1 ((i + j) / 2 + 1, j) ⟨⟨by simp only; omega, hj0⟩, Jcd hso hx (by assumption), hi2⟩ (by simp only; omega) (.cons rfl (.cons rfl (.cons rfl (.cons rfl (.cons rfl (.cons rfl .nil)))))) (List.nil_sublist _) (fun _ _ h => h)
  try simp only [ZZ] at h10
  refine Ja (LS 2 [] rfl rfl (Jg ?_)); refine Jj (J5 ?_); exact J1 (i, (i + j) / 2) ⟨⟨by simp only; omega, by simp only; omega⟩, hi1, Jce hso hx (by assumption)⟩ (by simp only; omega) (.cons rfl (.cons rfl (.cons rfl (.cons rfl (.cons rfl (.cons rfl .nil)))))) (List.nil_sublist _) (fun _ _ h => h)
  · try simp only [ZZ] at h7
    refine JE (Jl ?_); refine Jl (J0 (hK4 ?_)); refine sQ fun _ hK11 => ?_
    have hij : i = j := by omega
    have hlo : i = ZU AcL.addr k xs := Jmw (by omega) hi1 (fun y hy => hi2 i y (by omega) hy)
    refine Ja (LS 5 [] rfl rfl ?_)
    refine JA 39 rfl (fun hb12 => ?_) (fun hb12 => ?_) <;> (try simp only [ZZ] at hb12) <;> first | (refine Ji rfl ?_) | (refine LK rfl ?_)
    all_goals refine LW 2 [] rfl rfl ?_
    all_goals first
      | (obtain ⟨x, hx, hmx⟩ := QC (show i < xs.length by omega); refine LR rfl (Jp (j := i) rfl hs rfl rfl rfl (by first | rfl | omega) (by omega)) ?_)
      | (refine LK rfl ?_)
    all_goals first
      | (refine LR rfl (Ku AcL.len (fun q hq => Or.inr hq) rfl hs hx rfl rfl) ?_)
      | (refine LK rfl ?_)
    all_goals refine LW 1 [] rfl rfl ?_
    all_goals first
      | (refine Jh rfl rfl rfl eg (hg x hmx) (fun q hq => Or.inr hq) ?_)
      | (refine LK rfl ?_)
    all_goals first
      | (refine JZ rfl ?_; refine Jy (congrArg Value.bool (Jcc (AcL.addr x) k)) ?_)
      | (refine LK rfl ?_)
    all_goals refine LW 1 [] rfl rfl ?_
    all_goals refine LS 2 [] rfl rfl ?_
    all_goals refine Jg ?_
    all_goals (
     refine hK11 (Jb ?_); refine Jv rfl rfl (.cons (J4 rfl) (.cons (J4 rfl) .nil)) (fun w1 hs1 => ?_); refine ⟨?_, hs1.keep⟩
     first
       | (rw [← Jcf (kf := AcL.addr) (hlo ▸ hx), ← hlo]; rfl)
       | (rw [qh (kf := AcL.addr) (by omega), ← hlo]; rfl)
     skip)
theorem Jo6 {R : Jr} {xs : List AcL} {p : Pl} (hl : xs.length ≤ 1000) (hs : Seg R xs.length (xs.flatMap AcL.cells) p) (hso : KE AcL.addr xs) {k : BS} :
    PureR Tryz.prog 70 [KM xs.length p, J2 k, fV 39].toArray (.tuple #[.int .i64 (ZU AcL.addr k xs : Nat), .bool (VQ AcL.addr k xs)]) R := by
  refine Je Tryz.func70 rfl rfl fun w => ?_; refine sR fun _ hK1 => ?_; refine LN rfl fun r1 => ?_; refine LS 2 [] rfl rfl (nK hK1 ?_); refine sR fun _ hK2 => LS 2 [] rfl rfl ?_; refine LR rfl (Kv rfl rfl) ?_; refine Jh (Rl := (r1, Obj.cells #[fV 39] _ (0, 0)) :: R) rfl rfl rfl (enters_of Tryz.func104 (by kernel_rfl) rfl) (Jjy (caps := [.pointer (some ⟨r1, 0, none⟩)]) hl (hs.mono fun q hq => List.mem_cons_of_mem _ hq) hso (enters_of Tryz.func105 (by kernel_rfl) rfl) (fun x hx => Jxo List.mem_cons_self x k)) (fun q hq => (List.mem_cons.1 hq).elim (fun h => Or.inl (by rw [h]; exact List.mem_cons_self)) Or.inr) ?_; refine LS 4 [] rfl rfl (nK hK2 ?_); refine Jb ?_; refine Jv rfl rfl (.cons (J4 rfl) (.cons (J4 rfl) .nil)) (fun w1 hs1 => ?_); exact ⟨rfl, hs1.keep⟩
end Go.Proofs.YteceenlfegnigaaGreatDoor
