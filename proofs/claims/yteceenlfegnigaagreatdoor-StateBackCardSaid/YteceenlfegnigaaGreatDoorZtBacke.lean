import Derived.Test.YteceenlfegnigaaGreatDoorZtBackd
set_option maxRecDepth 100000
namespace Go.Proofs.YteceenlfegnigaaGreatDoor
set_option linter.all false
open Go.SL Go.RowKit Go.Shelf
def KF : List Ty → Nat → List Nat → List (Ty × Nat × Nat)
  | [], _, _ => []
  | x :: xs, a, os => if JB x then (x, a, a + (JQ x).toNat) :: KF xs (a + (JQ x).toNat) os else (x, os.getD 0 0, os.getD 1 0) :: KF xs (a + 4) os.tail
theorem ZP : ∀ (ts : List Ty) (a : Nat) (os : List Nat), (KF ts a os).length = ts.length
  | [], _, _ => rfl
  | x :: xs, a, os => by rw [KF]; split <;> rw [List.length_cons, ZP xs, List.length_cons]
theorem ju (s : BS) : ∀ (ts : List Ty) (a : Nat) (os : List Nat), Vj s ts a os = (KF ts a os).map fun q => (s.take q.2.2).drop q.2.1
  | [], _, _ => rfl
  | x :: xs, a, os => by
    rw [Vj, KF]
    split
    · rw [List.map_cons, ju s xs]
      congr 1
      simp only
      rw [List.drop_take]
      congr 1; omega
    · rw [List.map_cons, ju s xs]
theorem qK : ∀ (ts : List Ty) (a : Nat) (os : List Nat), (KF ts a os).map Prod.fst = ts
  | [], _, _ => rfl
  | x :: xs, a, os => by rw [KF]; split <;> rw [List.map_cons, qK xs]
def cV : List Ty → Nat
  | [] => 0
  | x :: xs => if JB x then cV xs else cV xs + 1
theorem Jbb : ∀ (ts : List Ty) (x : Ty), cV (ts ++ [x]) = if JB x then cV ts else cV ts + 1
  | [], x => rfl
  | y :: ys, x => by
    rw [List.cons_append, cV, cV, Jbb ys x]
    by_cases h1 : JB y = true <;> by_cases h2 : JB x = true <;> simp [h1, h2]
def Vw : List Ty → Int
  | [] => -1
  | x :: xs => if 0 ≤ Vw xs then Vw xs + 1 else if JB x then -1 else 0
theorem Ys : ∀ ts : List Ty, -1 ≤ Vw ts ∧ Vw ts < ts.length
  | [] => by rw [Vw]; simp
  | x :: xs => by
    have := Ys xs
    rw [Vw, List.length_cons]
    split
    · omega
    · split <;> omega
theorem jv : ∀ (ts : List Ty) (x : Ty), Vw (ts ++ [x]) = if JB x then Vw ts else (ts.length : Int)
  | [], x => rfl
  | y :: ys, x => by
    rw [List.cons_append, Vw, Vw, jv ys x]
    by_cases h2 : JB x = true
    · rw [if_pos h2, if_pos h2]
    · rw [if_neg h2, if_neg h2, if_pos (by omega), List.length_cons]; omega
theorem qL {x : Ty} (hx : JB x = true) : ∀ (ts : List Ty) (a : Nat) (os : List Nat), (∀ y ∈ ts, JB y = true → 0 ≤ JQ y) → ∀ b : Nat, (b : Int) = a + JU ts → KF (ts ++ [x]) a os = KF ts a os ++ [(x, b, b + (JQ x).toNat)]
  | [], a, os, _, b, hb => by
    rw [JU] at hb
    have : b = a := by omega
    subst this
    show KF [x] _ os = [(x, _, _)]
    rw [KF, if_pos hx, KF]
  | y :: ys, a, os, hy, b, hb => by
    have hy2 : ∀ z ∈ ys, JB z = true → 0 ≤ JQ z := fun z hz => hy z (List.mem_cons_of_mem _ hz)
    rw [JU, V1] at hb; rw [List.cons_append, KF, KF]
    by_cases hf : JB y = true
    · have h0 := hy y List.mem_cons_self hf
      rw [if_pos hf] at hb; rw [if_pos hf, if_pos hf, qL hx ys _ os hy2 b (by omega)]; rfl
    · rw [if_neg hf] at hb
      rw [if_neg hf, if_neg hf, qL hx ys _ os.tail hy2 b (by omega)]; rfl
theorem qM {x : Ty} (hx : ¬ JB x = true) (v e : Nat) : ∀ (ts : List Ty) (a : Nat) (pre : List Nat), pre.length = cV ts → KF (ts ++ [x]) a (pre ++ [v, e]) = KF ts a (pre ++ [v]) ++ [(x, v, e)]
  | [], a, pre, hp => by
    rw [cV] at hp
    obtain rfl := List.length_eq_zero_iff.1 hp
    show KF [x] _ [v, e] = [(x, v, e)]
    rw [KF, if_neg hx, KF]; rfl
  | y :: ys, a, pre, hp => by
    rw [cV] at hp; rw [List.cons_append, KF, KF]
    by_cases hf : JB y = true
    · rw [if_pos hf] at hp
      rw [if_pos hf, if_pos hf, qM hx v e ys _ pre hp]; rfl
    · rw [if_neg hf] at hp
      rw [if_neg hf, if_neg hf]
      cases pre with
      | nil => simp at hp
      | cons u pre =>
        have hp2 : pre.length = cV ys := by simpa using hp
        have e1 : (u :: pre ++ [v, e]).tail = pre ++ [v, e] := rfl
        have e2 : (u :: pre ++ [v]).tail = pre ++ [v] := rfl
        rw [e1, e2, qM hx v e ys _ pre hp2]
        have e3 : (u :: pre ++ [v, e]).getD 1 0 = (u :: pre ++ [v]).getD 1 0 := by cases pre <;> rfl
        rw [e3]; rfl
theorem jw : ∀ (ts : List Ty) (a : Nat) (os os' : List Nat), Vw ts = -1 → KF ts a os = KF ts a os'
  | [], _, _, _, _ => rfl
  | x :: xs, a, os, os', h => by
    rw [Vw] at h
    have := Ys xs
    by_cases h1 : 0 ≤ Vw xs
    · rw [if_pos h1] at h; omega
    · rw [if_neg h1] at h
      by_cases hf : JB x = true
      · rw [KF, KF, if_pos hf, if_pos hf, jw xs _ os os' (by omega)]
      · rw [if_neg hf] at h; omega
theorem Jph : ∀ {ts : List Ty}, 0 ≤ Vw ts → 0 < cV ts
  | [], h => by rw [Vw] at h; omega
  | x :: xs, h => by
    rw [Vw] at h; rw [cV]
    by_cases h1 : 0 ≤ Vw xs
    · have := Jph h1
      split <;> omega
    · rw [if_neg h1] at h
      split
      · rename_i hf; rw [if_pos hf] at h; omega
      · omega
theorem Jit : ∀ {ts : List Ty}, Vw ts = -1 → cV ts = 0
  | [], _ => rfl
  | x :: xs, h => by
    rw [Vw] at h; rw [cV]
    have := Ys xs
    by_cases h1 : 0 ≤ Vw xs
    · rw [if_pos h1] at h; omega
    · rw [if_neg h1] at h
      by_cases hf : JB x = true
      · rw [if_pos hf]; exact Jit (by omega)
      · rw [if_neg hf] at h; omega
theorem yE (v e : Nat) : ∀ (ts : List Ty) (a : Nat) (pre : List Nat) (j : Nat), pre.length = cV ts → Vw ts = (j : Int) → ∃ x f, (KF ts a (pre ++ [e]))[j]? = some (x, f, e) ∧ KF ts a (pre ++ [v]) = (KF ts a (pre ++ [e])).set j (x, f, v)
  | [], _, _, j, _, h => by rw [Vw] at h; omega
  | y :: ys, a, pre, j, hp, h => by
    have hge := Ys ys
    rw [cV] at hp; rw [Vw] at h; rw [KF, KF]
    by_cases h1 : 0 ≤ Vw ys
    · rw [if_pos h1] at h
      obtain ⟨j', rfl⟩ : ∃ j', j = j' + 1 := ⟨j - 1, by omega⟩
      by_cases hf : JB y = true
      · rw [if_pos hf] at hp
        obtain ⟨x, f, g1, g2⟩ := yE v e ys (a + (JQ y).toNat) pre j' hp (by omega)
        rw [if_pos hf, if_pos hf]; exact ⟨x, f, by rw [List.getElem?_cons_succ]; exact g1, by rw [List.set_cons_succ, ← g2]⟩
      · rw [if_neg hf] at hp
        cases pre with
        | nil => simp at hp
        | cons u pre =>
          obtain ⟨x, f, g1, g2⟩ := yE v e ys (a + 4) pre j' (by simpa using hp) (by omega)
          rw [if_neg hf, if_neg hf]
          have hpos : 0 < cV ys := Jph h1
          have e3 : (u :: pre ++ [v]).getD 1 0 = (u :: pre ++ [e]).getD 1 0 := by
            cases pre with
            | nil => simp at hp; omega
            | cons _ _ => rfl
          rw [e3]; exact ⟨x, f, by rw [List.getElem?_cons_succ]; exact g1, by rw [List.set_cons_succ]; exact congrArg _ g2⟩
    · rw [if_neg h1] at h
      by_cases hf : JB y = true
      · rw [if_pos hf] at h; omega
      · rw [if_neg hf] at h hp
        have hj : j = 0 := by omega
        subst hj
        have hc0 : cV ys = 0 := Jit (by omega)
        cases pre with
        | nil => simp at hp
        | cons u pre =>
          have hn : pre = [] := List.length_eq_zero_iff.1 (by simp at hp; omega)
          subst hn; rw [if_neg hf, if_neg hf]; refine ⟨y, u, rfl, ?_⟩; rw [jw ys (a + 4) (([u] ++ [v]).tail) (([u] ++ [e]).tail) (by omega)]; rfl
def prC (q : Ty × Nat × Nat) : List Value := q.1.cells ++ [.int .i64 (q.2.1 : Int), .int .i64 (q.2.2 : Int)]
def X9 (l : List (Ty × Nat × Nat)) : List Value := l.flatMap prC
theorem ZQ (q : Ty × Nat × Nat) : (prC q).length = 5 := by unfold prC; rw [List.length_append, Ty.len]; rfl
theorem Jee (l : List (Ty × Nat × Nat)) : (X9 l).length = l.length * 5 := KT ZQ l
theorem Jw5 (x : Ty) (f e v : Nat) : (prC (x, f, e)).set 4 (.int .i64 (v : Int)) = prC (x, f, v) := by
  obtain ⟨k, n, p, ins⟩ := x; rfl
theorem Jef : ∀ {l : List (Ty × Nat × Nat)} {j : Nat} {x : Ty} {f e : Nat} (v : Nat), l[j]? = some (x, f, e) → (X9 l).set (j * 5 + 4) (.int .i64 (v : Int)) = X9 (l.set j (x, f, v))
  | [], _, _, _, _, _, h => by simp at h
  | q :: l, 0, x, f, e, v, h => by
    cases h
    unfold X9
    rw [List.set_cons_zero, List.flatMap_cons, List.flatMap_cons, List.set_append_left _ _ (by rw [ZQ]; decide), Nat.zero_mul, Nat.zero_add, Jw5]
  | q :: l, j + 1, x, f, e, v, h => by
    have ih := Jef (l := l) v (by simpa using h)
    unfold X9 at ih ⊢
    rw [List.set_cons_succ, List.flatMap_cons, List.flatMap_cons, List.set_append_right _ _ (by rw [ZQ]; omega), ZQ, show (j + 1) * 5 + 4 - 5 = j * 5 + 4 by omega, ih]
theorem Xm (l : List (Ty × Nat × Nat)) (q : Ty × Nat × Nat) : X9 (l ++ [q]) = X9 l ++ prC q := by unfold X9; rw [List.flatMap_append]; simp
def Ve (k n : Int) (ins : List Ty) (s : BS) : List Nat × Int :=
  if (JT k n ins s).2 ≠ 0 then ([], (JT k n ins s).2)
  else if (s.length : Int) < JU (Kq k ins (JT k n ins s).1) then ([], 2)
  else match Qu s (JU (Kq k ins (JT k n ins s).1)).toNat (Kq k ins (JT k n ins s).1) 0 (JU (Kq k ins (JT k n ins s).1)).toNat false with
    | none => ([], 2)
    | some os => (os, 0)
theorem Jpi {R : Jo} {k n : Int} {p : Pl} {ins : List Ty} {m : Nat} (ht : Ty.In R (.mk k n p ins)) (hm : m ≤ 1000000) (hx : ∀ i, i < m → VX k 0 i < ins.length) (rt ri : Nat) :
    Joz Tryz.prog 230 [VG ri, VG rt] (jp ri m :: VQ rt (.mk k n p ins) :: R) 0 (nxN (itV k ins) m) (Je6 m) := by
  refine Jea Tryz.func230 rfl rfl fun q xids w2 XI XF pc hY => ?_; refine sR fun _ hK1 => ?_; refine LR rfl (Jk (v := .int .i64 (m : Int)) rfl (J7 (k := 0) rfl) rfl rfl) ?_; refine Ji rfl (nK hK1 ?_); refine Js (JL (σ := Nat) (fun i => i ≤ m) (fun i => [(0, .func (.yield q) #[] #[]), (1, VG ri), (2, VG rt), (5, .int .i64 (m : Int)), (6, .int .i64 (i : Int))]) (fun _ => []) (fun i => XI i) (fun i => m - i) 0 (Nat.zero_le _) (.cons rfl (.cons rfl (.cons rfl (.cons rfl (.cons rfl .nil))))) (List.Sublist.refl _) (fun _ _ h => h) ?_); intro i hi; refine sR fun _ hK2 => JY rfl (nK hK2 ?_); refine sQ fun _ hK3 => ?_; refine Jc rfl (fun h4 => ?_) (fun h4 => ?_)
  · try simp only [ZZ] at h4
    refine Jg (hK3 ?_); refine sB fun _ hK5 => sR fun _ hK6 => ?_; refine LS 2 [] rfl rfl (nK hK6 ?_); refine sQ fun _ hK7 => ?_
    have hil : i < m := by omega
    refine Ja (LS 2 [] rfl rfl (LR rfl (Jq (xs := Ty.cells (.mk k n p ins)) (n := 3) rfl (J7 (k := 1) rfl) rfl rfl (Ty.len _)) ?_)); refine Ji rfl (Jh rfl rfl rfl (enters_of Tryz.func231 (by kernel_rfl) rfl) (Jvc ht (fun _ => Int.le_refl 0) (hx i hil)) (fun q hq => Or.inr (List.mem_cons_of_mem _ (List.mem_cons_of_mem _ hq))) ?_); refine Jkl (XT := XI (i + 1)) (XF := XF) (pc := pc) rfl rfl rfl rfl (hY i (itV k ins i) (i + 1) ⟨hil, rfl, rfl⟩) ?_ ?_ (fun ch hch => Jim fun w1 hs1 => .inr ⟨ch, rfl, hch, hs1.keep⟩)
    all_goals refine JY rfl ?_
    all_goals refine Jf ?_
    all_goals (
     refine hK7 ?_; refine Jc rfl (fun h8 => ?_) (fun h8 => ?_)
     · try exact Bool.noConfusion h8
       all_goals try simp only [ZZ] at h8
       all_goals (
        refine Jb (Jn (Jd ?_)); refine Jd (Jn ?_); refine Jt rfl rfl .nil (fun w1 hs1 => ?_)
        obtain ⟨xs1, hx1⟩ := hs1.now
        exact .inl ⟨⟨_, rfl⟩, hs1.keep, .inr ⟨_, hx1⟩⟩
        skip)
     · try exact Bool.noConfusion h8
       all_goals try simp only [ZZ] at h8
       all_goals (
        refine Jg (Jj (hK5 ?_)); refine Ja ?_
        refine JY rfl ?_; refine Jy (show _ = Value.int .i64 ((i + 1 : Nat) : Int) from by rw [wrap_i64 (by omega) (by omega)]; congr 1 <;> omega) ?_; refine Ji rfl (Jf (J8 ?_)); exact J2 (i + 1) (by omega) (by omega) (.cons rfl (.cons rfl (.cons rfl (.cons rfl (.cons rfl .nil))))) (List.Sublist.refl _) (fun _ _ h => h)
        skip)
     skip)
  · try simp only [ZZ] at h4
    refine JJ (Jm ?_); refine Jm (J0 ?_); refine QA rfl rfl .nil (fun w1 hs1 => ?_)
    obtain ⟨xs1, hx1⟩ := hs1.now
    exact .inl ⟨⟨_, rfl⟩, hs1.keep, .inl ⟨i, _, (by show i = m; omega), hx1⟩⟩
theorem Jts {c : Cx} {d : List Deferred} {l : Ko} {L : Jo} {X : XP} {Q : Exit → Act → World → Prop} {code : Code} (js : List Nat) {L' : Jo} (hn : js.Nodup) (hL : xz L js = L') (h : HCE c d l L' X code Q) : HCE c d l L X code Q := fun a w hf hs => h a w hf (hL ▸ hs.sel js hn)
theorem qN {σ τ : Type} {c3 : Cx} {d : List Deferred} {l : Ko} {L : Jo} {Xb : XP} {I : σ → Prop} {LI : σ → Jo} {E : Code → τ → Prop} {LE : τ → Jo} {pc : List PanicEntry → Prop} (s : σ) (h : I s) (hL : L.Sublist (LI s) ∧ (LI s).Sublist L) : HQ c3 d l L Xb (wb c3 Xb I LI E LE pc .normal) := fun a w hf hs => ⟨s, h, hs.weakL hL.2⟩
theorem row_some {sz n : Nat} {xs : List Value} {row : V5} (h : rowOk sz n xs row) (h0 : 0 < n) : ∃ r cap sp, row = some (r, cap, sp) := by
  cases row with
  | none => have := h.1; omega
  | some q => obtain ⟨r, cap, sp⟩ := q; exact ⟨r, cap, sp, rfl⟩
def wc (s : BS) (TY : List Ty) (i : Nat) (pre : List Nat) : List (Ty × Nat × Nat) := KF (TY.take i) 0 (pre ++ [s.length])
structure PInv (s : BS) (H : Nat) (TY : List Ty) (i A la : Nat) (op : Int) (pre : List Nat) : Prop where
  le : i ≤ TY.length
  cv : pre.length = cV (TY.take i)
  opv : op = Vw (TY.take i)
  at_ : (A : Int) = JU (TY.take i)
  off : Qu s H TY 0 H false = (Qu s H (TY.drop i) A la (decide (0 ≤ op))).map (pre ++ ·)
section
variable {s : BS} {H : Nat} {TY : List Ty} {i A la : Nat} {op : Int} {pre : List Nat} {x : Ty}
theorem PInv.start : PInv s H TY 0 0 H (-1) [] := ⟨Nat.zero_le _, rfl, rfl, rfl, by rw [List.drop_zero, show decide ((0 : Int) ≤ -1) = false from rfl]; cases Qu s H TY 0 H false <;> rfl⟩
theorem Ks {α : Type} {l : List α} {i : Nat} {x : α} (h : l[i]? = some x) : l.take (i + 1) = l.take i ++ [x] := by rw [List.take_add_one, h]; rfl
theorem KO {α : Type} {l : List α} {i : Nat} {x : α} (h : l[i]? = some x) : l.drop i = x :: l.drop (i + 1) := by
  obtain ⟨h1, rfl⟩ := List.getElem?_eq_some_iff.1 h
  exact List.drop_eq_getElem_cons h1
theorem ZR (l : List Ty) : 0 ≤ JU l := (ZK l).1
theorem PInv.bound (h : PInv s H TY i A la op pre) (hx : TY[i]? = some x) (hH : JU TY = (H : Int)) : (A : Int) + V1 x ≤ H := by
  have e : TY = TY.take i ++ (x :: TY.drop (i + 1)) := by rw [← KO hx, List.take_append_drop]
  rw [e, VA, JU] at hH
  have := ZR (TY.drop (i + 1))
  have := h.at_
  omega
theorem PInv.len (h : PInv s H TY i A la op pre) : (wc s TY i pre).length = i := by unfold wc; rw [ZP, List.length_take, Nat.min_eq_left h.le]
theorem PInv.fix (h : PInv s H TY i A la op pre) (hx : TY[i]? = some x) (hf : JB x = true) (hz : ∀ y ∈ TY, JB y = true → 0 ≤ JQ y) : PInv s H TY (i + 1) (A + (JQ x).toNat) la op pre ∧ wc s TY (i + 1) pre = wc s TY i pre ++ [(x, A, A + (JQ x).toNat)] := by
  have h0 := hz x (List.mem_of_getElem? hx) hf
  have hlt := (List.getElem?_eq_some_iff.1 hx).1
  have h1 := h.off
  rw [KO hx, Qu, if_pos hf] at h1; refine ⟨⟨hlt, ?_, ?_, ?_, h1⟩, ?_⟩
  · rw [Ks hx, Jbb, if_pos hf]; exact h.cv
  · rw [Ks hx, jv, if_pos hf]; exact h.opv
  · rw [Ks hx, VA, JU, JU, V1, if_pos hf, ← h.at_]; omega
  · unfold wc
    rw [Ks hx, qL hf _ 0 _ (fun y hy => hz y (List.mem_of_mem_take hy)) A (by rw [h.at_]; simp)]
theorem PInv.bad (h : PInv s H TY i A la op pre) (hx : TY[i]? = some x) (hf : JB x = false) {v : Nat} (hv : v = Wq ((s.drop A).take 4)) (hb : (¬ 0 ≤ op ∧ v ≠ H) ∨ v < la ∨ s.length < v) : Qu s H TY 0 H false = none := by
  subst hv
  rw [h.off, KO hx, Qu, if_neg (by rw [hf]; decide), if_pos (by
    rcases hb with ⟨h1, h2⟩ | h1
    · exact .inl ⟨by simp [h1], h2⟩
    · exact .inr h1)]
  rfl
theorem PInv.var (h : PInv s H TY i A la op pre) (hx : TY[i]? = some x) (hf : JB x = false) {v : Nat} (hv : v = Wq ((s.drop A).take 4)) (h1 : 0 ≤ op ∨ v = H) (h2 : la ≤ v) (h3 : v ≤ s.length) :
    PInv s H TY (i + 1) (A + 4) v i (pre ++ [v]) ∧ (op = -1 → wc s TY (i + 1) (pre ++ [v]) = wc s TY i pre ++ [(x, v, s.length)]) ∧
      (∀ j : Nat, op = (j : Int) → ∃ x0 f0, (wc s TY i pre)[j]? = some (x0, f0, s.length) ∧ wc s TY (i + 1) (pre ++ [v]) = (wc s TY i pre).set j (x0, f0, v) ++ [(x, v, s.length)]) := by
  have hlt := (List.getElem?_eq_some_iff.1 hx).1
  have hn : ¬ JB x = true := by rw [hf]; decide
  have hlv : Wq ((s.drop A).take 4) = v := hv.symm
  have ho := h.off
  rw [KO hx, Qu, if_neg hn, hlv, if_neg (by
    rintro (⟨g1, g2⟩ | g | g)
    · simp only [decide_eq_false_iff_not] at g1; omega
    · omega
    · omega), Option.map_map] at ho
  have hps : wc s TY (i + 1) (pre ++ [v]) = KF (TY.take i) 0 (pre ++ [v]) ++ [(x, v, s.length)] := by
    unfold wc
    rw [Ks hx, List.append_assoc]; exact qM hn v s.length _ 0 pre h.cv
  refine ⟨⟨hlt, ?_, ?_, ?_, ?_⟩, fun e => ?_, fun j e => ?_⟩
  · rw [Ks hx, Jbb, if_neg hn, List.length_append, h.cv]; rfl
  · rw [Ks hx, jv, if_neg hn, List.length_take, Nat.min_eq_left h.le]
  · rw [Ks hx, VA, JU, JU, V1, if_neg hn, ← h.at_]; omega
  · rw [ho, show decide (0 ≤ (i : Int)) = true by simp]
    congr 1
    funext r
    simp
  · rw [hps, jw _ 0 (pre ++ [v]) (pre ++ [s.length]) (by rw [← h.opv]; exact e)]; rfl
  · obtain ⟨x0, f0, g1, g2⟩ := yE v s.length (TY.take i) 0 pre j h.cv (by rw [← h.opv]; exact e)
    exact ⟨x0, f0, g1, by rw [hps, g2]; rfl⟩
theorem PInv.done (h : PInv s H TY TY.length A la op pre) : wc s TY TY.length pre = KF TY 0 (pre ++ [s.length]) ∧ Qu s H TY 0 H false = if ¬ 0 ≤ op ∧ H ≠ s.length then none else some (pre ++ [s.length]) := by
  refine ⟨by unfold wc; rw [List.take_length], ?_⟩; rw [h.off, List.drop_length, Qu]
  by_cases hc : ¬ 0 ≤ op ∧ H ≠ s.length
  · rw [if_pos hc, if_pos ⟨by simp [hc.1], hc.2⟩]; rfl
  · rw [if_neg hc, if_neg (by rintro ⟨g1, g2⟩; exact hc ⟨by simpa using g1, g2⟩)]; rfl
end
abbrev Yz (k n : Int) (ins : List Ty) (s : BS) : List (Ty × Nat × Nat) := KF (Kq k ins (JT k n ins s).1) 0 (Ve k n ins s).1
section
variable {k n : Int} {ins : List Ty} {s : BS} {M H : Nat}
theorem ZS (h : (JT k n ins s).2 ≠ 0) : (Ve k n ins s).2 = (JT k n ins s).2 := by unfold Ve; rw [if_pos h]
theorem Jiu (h0 : (JT k n ins s).2 = 0) (hM : M = (JT k n ins s).1) (hH : JU (Kq k ins M) = (H : Int)) (h : s.length < H) : (Ve k n ins s).2 = 2 := by
  unfold Ve; rw [if_neg (by rw [h0]; decide), ← hM, hH, if_pos (by omega)]
theorem Jbc (h0 : (JT k n ins s).2 = 0) (hM : M = (JT k n ins s).1) (hH : JU (Kq k ins M) = (H : Int)) (h : H ≤ s.length) : Ve k n ins s = match Qu s H (Kq k ins M) 0 H false with | none => ([], 2) | some os => (os, 0) := by
  unfold Ve; rw [if_neg (by rw [h0]; decide), ← hM, hH, if_neg (by omega), Int.toNat_natCast]
  all_goals (cases Qu s H (Kq k ins M) 0 H false <;> rfl)
theorem Jiv (h0 : (JT k n ins s).2 = 0) (hM : M = (JT k n ins s).1) (hH : JU (Kq k ins M) = (H : Int)) (h : H ≤ s.length) (ho : Qu s H (Kq k ins M) 0 H false = none) : (Ve k n ins s).2 = 2 := by
  rw [Jbc h0 hM hH h, ho]
end
set_option maxHeartbeats 2000000 in
theorem Jtt {R : Jo} {k n : Int} {p : Pl} {ins : List Ty} {s : BS} (ht : Ty.In R (.mk k n p ins)) (hc : V0 (.mk k n p ins) 0 = 0) (hk3 : k = 3 ∨ k = 4 ∨ k = 7) (hl : s.length ≤ 100000) :
    PureX (α := { row : V5 // rowOk 5 (Yz k n ins s).length (X9 (Yz k n ins s)) row }) Tryz.prog 147 [Ty.val (.mk k n p ins), J3 s].toArray ((Ve k n ins s).2 = 0) (fun v => (Ve k n ins s).2 ≠ 0 ∧ v = xh (Ve k n ins s).2) (fun x => JD (Yz k n ins s).length x.1) (fun x => JV 162 (X9 (Yz k n ins s)) x.1) R := by
  obtain ⟨hk8, ho, _, _⟩ := Qy hc
  have hmny := Jw4 ht hc hk3 hl
  have hmok := qe (s := s) hk8 ho hk3
  have hmX := qf (s := s) hk8 ho hk3
  obtain ⟨M, hM⟩ : ∃ M, M = (JT k n ins s).1 := ⟨_, rfl⟩
  rw [← hM] at hmny hmok hmX
  obtain ⟨TY, hTY⟩ : ∃ TY, TY = Kq k ins M := ⟨_, rfl⟩
  have hTl : TY.length = M := by rw [hTY, WS]
  have hzz : ∀ z ∈ TY, JB z = true → 0 ≤ JQ z := fun z _ hz => by have := qc hz; omega
  have hbl := ZR TY
  obtain ⟨H, hH⟩ : ∃ H, H = (JU TY).toNat := ⟨_, rfl⟩
  have hHi : JU TY = (H : Int) := by omega
  have hHi' : JU (Kq k ins M) = (H : Int) := by rw [← hTY]; exact hHi
  refine Ja6 Tryz.func147 rfl rfl fun w => ?_; refine Wp fun K1 hK1 => ?_; refine Ja (LN rfl fun r1 => (LN rfl fun r2 => ?_)); refine Ji rfl ?_; refine Jf (hK1 _ _ _ _ ?_); refine Wp fun K2 hK2 => ?_; refine Ja (LS 2 [1, 0] rfl rfl ?_); refine KS rfl rfl rfl (enters_of Tryz.func185 (by kernel_rfl) rfl) hmny (fun q hq => Or.inr hq) (fun hm0 _ => ?_) (fun v hv => Qo rfl rfl (by rw [ZS hv.1]; exact hv))
  have hM5 := (hmok hm0).1
  have hX := hmX hm0
  have hti := fun i (h : i < M) => ht.sub _ (Qi (hX i h)).2
  have hbg := Jdy ht (m := M) (by omega) hX
  rw [hHi'] at hbg; refine Ji rfl ?_; refine Jf (hK2 _ _ _ _ ?_); refine Wp fun K3 hK3 => ?_; refine Ja (LS 2 [1] rfl rfl (Jh rfl rfl rfl (enters_of Tryz.func163 (by kernel_rfl) rfl) hbg (fun q hq => Or.inr hq) ?_)); refine LN rfl fun r3 => ?_
  refine LT 0 rfl rfl ?_; refine Jf (hK3 _ _ _ _ ?_); refine Wp fun K4 hK4 => ?_; refine Ja (LS 2 [0, 1] rfl rfl (LR rfl (Ke rfl rfl) ?_)); refine JY rfl ?_; refine KS rfl rfl rfl ZW (VL (_) 2) (fun q hq => nomatch hq) (fun hok _ => ?_) (fun v hv => Qo rfl rfl (WB (Jiu hm0 hM hHi' (by have := Z2.1 hv.1; omega)) (by decide) hv))
  have hHl : H ≤ s.length := by have := Z1.mp hok; omega
  refine Jf (hK4 _ _ _ _ ?_); refine Wp fun K5 hK5 => ?_; refine Ja (LN rfl fun r4 => ?_); refine Jf (hK5 _ _ _ _ ?_); refine Wp fun K6 hK6 => ?_
  refine JS [(r3, .cells #[.int .i64 (H : Int)] 3 (0, 0))] [(0, .pure), (1, .grow (Wj xH (.cells #[.int .i64 0] 3 (0, 0)))), (2, .grow (Wj xH (.cells #[.int .i64 0] 3 (0, 0)))), (3, .grow (Wj xH (.cells #[.int .i64 0] 3 (0, 0)))), (4, .turn), (5, .turn), (6, .turn)] 7 [0, 1, 2, 3, 4, 5, 6] (by kernel_rfl) (by kernel_rfl) (by first | exact (fun _ h => absurd h List.not_mem_nil) | simp [SubS] | (intro p hp; simp [hp])) ?_; refine Jv (k := 0) rfl rfl rfl rfl rfl (fun _ hS => (Jk rfl (.inl (hS _ (Kw (n := 0) rfl))) rfl rfl)) ?_; refine Yi (k := 1) (cs := #[_]) rfl rfl rfl rfl rfl rfl fun r5 => ?_; refine Yi (k := 2) (cs := #[_]) rfl rfl rfl rfl rfl rfl fun r6 => ?_; refine Yi (k := 3) (cs := #[_]) rfl rfl rfl rfl rfl rfl fun r7 => ?_
  refine WM (k := 4) (q := 2) rfl rfl rfl rfl rfl rfl rfl rfl rfl (by first | (simp only [List.setIfInBounds_toArray, List.set_cons_zero, List.set_cons_succ]; exact rfl) | exact rfl) (by first | (simp only [List.set_cons_zero, List.set_cons_succ]; exact rfl) | exact rfl) (by first | exact (fun _ h => absurd h List.not_mem_nil) | simp [SubS] | (intro p hp; simp [hp])) ?_
  refine WM (k := 5) (q := 1) rfl rfl rfl rfl rfl rfl rfl rfl rfl (by first | (simp only [List.setIfInBounds_toArray, List.set_cons_zero, List.set_cons_succ]; exact rfl) | exact rfl) (by first | (simp only [List.set_cons_zero, List.set_cons_succ]; exact rfl) | exact rfl) (by first | exact (fun _ h => absurd h List.not_mem_nil) | simp [SubS] | (intro p hp; simp [hp])) ?_
  refine WM (k := 6) (q := 0) rfl rfl rfl rfl rfl rfl rfl rfl rfl (by first | (simp only [List.setIfInBounds_toArray, List.set_cons_zero, List.set_cons_succ]; exact rfl) | exact rfl) (by first | (simp only [List.set_cons_zero, List.set_cons_succ]; exact rfl) | exact rfl) (by first | exact (fun _ h => absurd h List.not_mem_nil) | simp [SubS] | (intro p hp; simp [hp])) ?_; refine KD ?_; refine Jf (hK6 _ _ _ _ ?_); refine Jin fun K7 hK7 => ?_; refine Wp fun K8 hK8 => ?_; refine Ja (LS 2 [6] rfl rfl (Vx rfl rfl rfl Jmq (Jaz (.mk k n p ins) (M : Int)) fun pp => ?_))
  obtain ⟨ra, rb⟩ := pp
  change HL _ _ _ (jp rb M :: VQ ra (.mk k n p ins) :: _) _ _ _ _; refine Jf (hK8 _ _ _ _ ?_); refine Jkp ?_; refine Jts [4, 3, 2, 5, 0, 1, 6, 7, 8] (L' := [_, _, _, _, _, _, _, _, _]) (by decide) rfl ?_
  refine Jkq (τ := Unit) (fun ch => ∃ v, ((Ve k n ins s).2 ≠ 0 ∧ v = xh (Ve k n ins s).2) ∧ ch = yv v) (fun i (q : Nat × Nat × Nat × Int × V5 × List Nat) => q.1 = i ∧ PInv s H TY q.1 q.2.1 q.2.2.1 q.2.2.2.1 q.2.2.2.2.2 ∧ rowOk 5 q.1 (X9 (wc s TY q.1 q.2.2.2.2.2)) q.2.2.2.2.1) (fun q => (r5, .cells #[.int .i64 (q.2.1 : Int)] 3 (0, 0)) :: (r6, .cells #[.int .i64 (q.2.2.1 : Int)] 3 (0, 0)) :: (r7, .cells #[.int .i64 q.2.2.2.1] 3 (0, 0)) :: (r4, .cells #[JD q.1 q.2.2.2.2.1] 159 (0, 0)) :: JV 162 (X9 (wc s TY q.1 q.2.2.2.2.2)) q.2.2.2.2.1) (fun _ _ => False) (fun _ => []) [jp rb M, VQ ra (.mk k n p ins), _, _, _] (0, 0, H, -1, none, []) rfl rfl Jmv (Jpi ht (by omega) hX ra rb) (by rintro _ _ _ ⟨_, rfl, _⟩; rfl) rfl (fun q hq => by rcases List.mem_cons.1 hq with rfl | hq; exact .inl (by simp); rcases List.mem_cons.1 hq with rfl | hq; exact .inl (by simp); exact .inr hq) rfl ⟨rfl, PInv.start, rfl, rfl⟩ ?_ ?_ ?_ ?_
  · rintro q Xr Xb w3 i _ _ ⟨i2, A, la, op, row, pre⟩ ⟨hii, rfl, rfl⟩ ⟨he, hinv, hrow⟩ Kr hKr
    simp only at he hinv hrow; subst he
    have hti1 := hti i2 hii
    have hxx : TY[i2]? = some (JC k 0 ins i2) := by rw [hTY]; unfold Kq; rw [List.getElem?_map, List.getElem?_range hii]; rfl
    have hsz := vW hti1
    have hbd := hinv.bound hxx hHi
    have hbt := jY (JC k 0 ins i2)
    have hbe := Jay (JC k 0 ins i2)
    unfold itV
    obtain ⟨x, hx⟩ : ∃ x, x = JC k 0 ins i2 := ⟨_, rfl⟩
    rw [← hx] at hti1 hxx hsz hbd hbt hbe ⊢
    obtain ⟨y, hy⟩ : ∃ y : Nat, V1 x = (y : Int) := ⟨_, (Int.toNat_of_nonneg (by omega)).symm⟩
    rw [hy] at hsz hbd hbt hbe
    obtain ⟨xk, xn, xp, xi⟩ := x
    refine Wz fun K9 hK9 => Ja ?_; refine Ji rfl ?_; refine Jf (hK9 _ _ _ _ ?_); refine Ja (LN rfl fun r8 => ?_)
    refine Vb (k := 0) (n := 3) (cs' := #[_, _, _]) (vs := #[_, _, _]) rfl rfl rfl rfl rfl rfl rfl (by exact Nat.le_of_ble_eq_true rfl) rfl (by first | (simp only [List.set_cons_zero, List.set_cons_succ]; exact rfl) | exact rfl) ?_; refine Jf ?_; refine hKr _ _ ?_; clear hKr; refine Js (Wz fun K10 hK10 => Ja (LR rfl (Jq (xs := Ty.cells (.mk xk xn xp xi)) (n := 3) rfl (kn 0 rfl) rfl rfl (Ty.len _)) ?_)); refine Jh rfl rfl rfl Jhb hsz (fun q hq => Or.inr (List.mem_append_right _ hq)) ?_; refine LS 5 [] rfl rfl ?_; refine Jf (hK10 _ _ _ _ ?_); refine Wz fun K11 hK11 => Ja ?_; refine LR rfl (Jq (xs := Ty.cells (.mk xk xn xp xi)) (n := 3) rfl (kn 0 rfl) rfl rfl (Ty.len _)) ?_; refine LS 4 [1, 1] rfl rfl ?_; refine Jy (show _ = Value.int .i64 ((A + y : Nat)) from congrArg (Value.int .i64) (by rw [wrap_i64 (by omega) (by omega)]; omega)) ?_; refine LR rfl (JK (r := [_, _, _, _, _]) rfl rfl) ?_; refine LN rfl fun r9 => ?_
    refine LT 0 rfl rfl ?_; refine Jf (hK11 _ _ _ _ ?_); refine Wz fun K12 hK12 => ?_; refine Wz fun K13 hK13 => Ja ?_; refine LS 2 [] rfl rfl ?_; refine Jf (hK13 _ _ _ _ ?_); refine Jc rfl (fun h14 => ?_) (fun h14 => ?_)
    · try simp only [ZZ] at h14
      refine Wz fun K15 hK15 => ?_
      have hff : JB (Ty.mk xk xn xp xi) = false := ‹_›
      rw [hff, if_neg (by decide)] at hbe; refine Ja (LR rfl (Jk rfl (J7 (k := 3) rfl) rfl rfl) (LR rfl (Jk rfl (kn 2 rfl) rfl rfl) ?_)); refine LR rfl (VE (kl := some (.i64, (A : Int))) (kh := none) (m := A) (n := s.length) rfl rfl rfl rfl rfl rfl (by omega) (by omega) (show _ = s.drop A from by rw [List.take_length])) ?_; refine JF rfl rfl rfl Jms (Jpa (s := s.drop A) (by rw [List.length_drop]; omega)) ?_
      obtain ⟨v, hv⟩ : ∃ v, v = Wq ((s.drop A).take 4) := ⟨_, rfl⟩
      rw [← hv]; refine LS 1 [] rfl rfl ?_
      refine LT 0 rfl rfl ?_; refine Jf (hK15 _ _ _ _ ?_); refine Wz fun K16 hK16 => Ja ?_; refine LS 5 [0, 3] rfl rfl ?_
      refine J6 55 rfl (fun hb17 => ?_) (fun hb17 => ?_) <;> (try simp only [ZZ] at hb17) <;> first | (refine LR rfl (JM rfl rfl rfl) ?_) | (refine LK rfl ?_)
      all_goals refine LW 1 [0] rfl rfl ?_
      all_goals first
        | (refine LR rfl (Jk rfl (J7 (k := 3) rfl) rfl rfl) ?_)
        | (refine LK rfl ?_)
      all_goals first
        | (refine LR rfl (Ke rfl rfl) ?_)
        | (refine LK rfl ?_)
      all_goals refine LW 3 [] rfl rfl ?_
      all_goals first
        | (refine LK rfl ?_)
        | (refine J6 62 rfl (fun hb22 => ?_) (fun hb22 => ?_) <;> (try simp only [ZZ] at hb22) <;> first | (refine LR rfl (Jk rfl (kn 0 rfl) rfl rfl) ?_) | (refine LR rfl (Jk rfl (kn 1 rfl) rfl rfl) ?_) | (refine LR rfl (Jk rfl (kn 2 rfl) rfl rfl) ?_) | (refine LR rfl (Jk rfl (kn 3 rfl) rfl rfl) ?_) | (refine LR rfl (Jk rfl (kn 4 rfl) rfl rfl) ?_) | (refine LR rfl (Jk rfl (kn 5 rfl) rfl rfl) ?_) | (refine LR rfl (Jk rfl (kn 6 rfl) rfl rfl) ?_) | (refine LR rfl (Jk rfl (J7 (k := 0) rfl) rfl rfl) ?_) | (refine LR rfl (Jk rfl (J7 (k := 1) rfl) rfl rfl) ?_) | (refine LR rfl (Jk rfl (J7 (k := 2) rfl) rfl rfl) ?_) | (refine LR rfl (Jk rfl (J7 (k := 3) rfl) rfl rfl) ?_) | (refine LR rfl (Jk rfl (J7 (k := 4) rfl) rfl rfl) ?_) | (refine LK rfl ?_))
      all_goals refine LW 2 [] rfl rfl ?_
      all_goals first
        | (refine LK rfl ?_)
        | (refine J6 65 rfl (fun hb25 => ?_) (fun hb25 => ?_) <;> (try simp only [ZZ] at hb25) <;> first | (refine LR rfl (JM rfl rfl rfl) ?_) | (refine LK rfl ?_))
      all_goals refine LW 1 [0] rfl rfl ?_
      all_goals first
        | (refine LR rfl (Jk rfl (J7 (k := 2) rfl) rfl rfl) ?_)
        | (refine LK rfl ?_)
      all_goals refine LW 3 [] rfl rfl ?_
      all_goals refine KS rfl rfl rfl ZW (VL (_) 2) (fun q hq => nomatch hq) (fun hok _ => ?_) (fun v1 hv1 => by first | exact Bool.noConfusion hv1.1 | ((repeat (first | refine Joy ?_ | refine Jkk ?_)); exact Jkn ⟨v1, WB (Jiv hm0 hM hHi' hHl (by rw [← hTY]; exact hinv.bad hxx hff hv (by first | (refine .inr (.inl ?_); omega) | (refine .inr (.inr ?_); omega) | (refine .inl ⟨?_, fun e => ?_⟩; omega; have := Z4.1 hv1.1; omega)))) (by decide) hv1, rfl⟩))
      all_goals try exact Bool.noConfusion hok
      all_goals refine Jf ?_
      all_goals (
       refine hK16 _ _ _ _ ?_; refine Wz fun K30 hK30 => ?_; refine Wz fun K31 hK31 => ?_
       obtain ⟨hvi, hvn, hvj⟩ := hinv.var hxx hff hv (by first | (left; omega) | (right; have := Z3.1 hok; omega)) (by omega) (by omega)
       refine Ja (LS 2 [4] rfl rfl ?_); refine Jf (hK31 _ _ _ _ ?_); refine Jc rfl (fun h32 => ?_) (fun h32 => ?_)
       try simp only [ZZ] at h32
       obtain ⟨j, hj0⟩ : ∃ j : Nat, op = (j : Int) := ⟨op.toNat, by omega⟩
       have hj : j < i2 := by have := hinv.opv; have := Ys (TY.take i2); rw [List.length_take, Nat.min_eq_left hinv.le] at this; omega
       obtain ⟨rr, cap, sp, rfl⟩ := row_some hrow (by omega)
       obtain ⟨x0, f0, g1, g2⟩ := hvj j hj0
       have hjp : j * 5 + 4 < (X9 (wc s TY i2 pre)).length := by rw [Jee, hinv.len]; omega
       have hjl : j * 5 + 4 < (X9 (wc s TY i2 pre) ++ sp).length := by rw [List.length_append]; omega
       have hrowJ : rowOk 5 i2 (X9 ((wc s TY i2 pre).set j (x0, f0, v))) (some (rr, cap, sp)) := ⟨by rw [Jee, List.length_set, hinv.len], hrow.2⟩
       refine Ja (LR rfl (Jk (v := JD i2 (some (rr, cap, sp))) rfl (kn 5 rfl) rfl rfl) (LR rfl (Jk rfl (kn 4 rfl) rfl rfl) ?_))
       refine LS 2 [0] rfl rfl ?_; refine LR rfl (Jfa (row := some (rr, cap, sp)) (j := j) (m := 5) (off' := j * 5) rfl hrow rfl rfl rfl hj0 hj rfl) ?_; refine LR rfl (Kz (off' := j * 5 + 4) rfl rfl rfl) ?_; refine Kx (k := 6) (cs' := (X9 ((wc s TY i2 pre).set j (x0, f0, v)) ++ sp).toArray) rfl rfl rfl rfl rfl rfl (by rw [List.getElem?_toArray, List.getElem?_eq_getElem hjl]; rfl) (Jvy _) (by rw [List.setIfInBounds_toArray, List.set_append_left _ _ hjp, Jef v g1]) rfl ?_; refine Jf (hK30 _ _ _ _ ?_); refine Ja (LR rfl (Jk rfl (J7 (k := 3) rfl) rfl rfl) (LR rfl (Ke rfl rfl) ?_)); refine LS 4 [0] rfl rfl ?_
       refine LT 0 rfl rfl ?_
       refine LT 3 rfl rfl ?_
       refine Kx (k := 4) rfl rfl rfl rfl rfl rfl rfl rfl (by first | (simp only [List.setIfInBounds_toArray, List.set_cons_zero, List.set_cons_succ]; exact rfl) | exact rfl) (by first | (simp only [List.set_cons_zero, List.set_cons_succ]; exact rfl) | exact rfl) ?_; refine Jf (hK12 _ _ _ _ ?_); refine Wz fun K33 hK33 => Ja ?_; refine LR rfl (Jk (v := JD i2 (some (rr, cap, sp))) rfl (kn 5 rfl) rfl rfl) ?_; refine LR rfl (Jw (vs := [_, _, _, _, _]) rfl (kn 0 rfl) rfl rfl rfl rfl) ?_; refine Ki (vs := [_]) (zs := [_, _, _, _, _]) (r := [_, _, _, _, _]) rfl rfl rfl rfl rfl rfl rfl rfl rfl (by rw [Kv]; exact rfl) rfl fun r10 => ?_; refine Km (L0 := [_, _, _, _, _, _, _]) (xs := X9 ((wc s TY i2 pre).set j (x0, f0, v))) (row := some (rr, cap, sp)) (n := i2) (sz := 5) (b := 56) (news := [_, _, _, _, _]) (List.perm_append_comm (l₁ := [_, _, _, _, _, _, _])) rfl rfl rfl rfl (kn 0 rfl) rfl rfl rfl rfl rfl (by decide) rfl rfl rfl (by decide) hrowJ (by omega) (by omega) fun ra2 cap2 sp2 hra => ?_; refine Kx (k := 7) (cs' := #[JD (i2 + 1) (some (ra2, cap2, sp2))]) rfl rfl rfl rfl rfl rfl rfl rfl rfl rfl ?_; refine Jf (hK33 _ _ _ _ ?_); refine Ja (LS 3 [4] rfl rfl ?_); refine Jy (show _ = Value.int .i64 ((A + y : Nat)) from congrArg (Value.int .i64) (by rw [wrap_i64 (by omega) (by omega)]; omega)) ?_
       refine LT 4 rfl rfl ?_; refine Jf ?_; refine Jj (Vo [4, 5, 6, 7, 0] (L' := [_, _, _, _, _]) (by decide) rfl ?_)
       (obtain rfl : y = 4 := by omega
        exact qN (i2 + 1, A + 4, v, (i2 : Int), some (ra2, cap2, sp2), pre ++ [v]) ⟨rfl, hvi, by simp only; rw [g2, Xm]; exact hra⟩ (by simp only; rw [g2, Xm]; exact ⟨List.Sublist.refl _, List.Sublist.refl _⟩))
       try simp only [ZZ] at h32
       refine Jg (hK30 _ _ _ _ ?_); refine Ja (LR rfl (Jk rfl (J7 (k := 3) rfl) rfl rfl) (LR rfl (Ke rfl rfl) ?_)); refine LS 4 [0] rfl rfl ?_
       refine LT 0 rfl rfl ?_
       refine LT 3 rfl rfl ?_
       refine Kx (k := 4) rfl rfl rfl rfl rfl rfl rfl rfl (by first | (simp only [List.setIfInBounds_toArray, List.set_cons_zero, List.set_cons_succ]; exact rfl) | exact rfl) (by first | (simp only [List.set_cons_zero, List.set_cons_succ]; exact rfl) | exact rfl) ?_; refine Jf (hK12 _ _ _ _ ?_); refine Wz fun K34 hK34 => Ja ?_; refine LR rfl (Jk (v := JD i2 row) rfl (kn 5 rfl) rfl rfl) ?_; refine LR rfl (Jw (vs := [_, _, _, _, _]) rfl (kn 0 rfl) rfl rfl rfl rfl) ?_; refine Ki (vs := [_]) (zs := [_, _, _, _, _]) (r := [_, _, _, _, _]) rfl rfl rfl rfl rfl rfl rfl rfl rfl (by rw [Kv]; exact rfl) rfl fun r11 => ?_; refine Km (L0 := [_, _, _, _, _, _, _]) (xs := X9 (wc s TY i2 pre)) (row := row) (n := i2) (sz := 5) (b := 56) (news := [_, _, _, _, _]) (List.perm_append_comm (l₁ := [_, _, _, _, _, _, _])) rfl rfl rfl rfl (kn 0 rfl) rfl rfl rfl rfl rfl (by decide) rfl rfl rfl (by decide) hrow (by omega) (by omega) fun ra2 cap2 sp2 hra => ?_; refine Kx (k := 7) (cs' := #[JD (i2 + 1) (some (ra2, cap2, sp2))]) rfl rfl rfl rfl rfl rfl rfl rfl rfl rfl ?_; refine Jf (hK34 _ _ _ _ ?_); refine Ja (LS 3 [4] rfl rfl ?_); refine Jy (show _ = Value.int .i64 ((A + y : Nat)) from congrArg (Value.int .i64) (by rw [wrap_i64 (by omega) (by omega)]; omega)) ?_
       refine Kx (k := 4) rfl rfl rfl rfl rfl rfl rfl rfl (by first | (simp only [List.setIfInBounds_toArray, List.set_cons_zero, List.set_cons_succ]; exact rfl) | exact rfl) (by first | (simp only [List.set_cons_zero, List.set_cons_succ]; exact rfl) | exact rfl) ?_; refine Jf ?_; refine Jj (Vo [4, 5, 6, 7, 0] (L' := [_, _, _, _, _]) (by decide) rfl ?_)
       (obtain rfl : y = 4 := by omega
        have g3 := hvn (by have := hinv.opv; have := Ys (TY.take i2); omega)
        exact qN (i2 + 1, A + 4, v, (i2 : Int), some (ra2, cap2, sp2), pre ++ [v]) ⟨rfl, hvi, by simp only; rw [g3, Xm]; exact hra⟩ (by simp only; rw [g3, Xm]; exact ⟨List.Sublist.refl _, List.Sublist.refl _⟩))
       skip)
    try simp only [ZZ] at h14
    refine Jg (hK12 _ _ _ _ ?_); refine Wz fun K35 hK35 => Ja ?_; refine LR rfl (Jk (v := JD i2 row) rfl (kn 5 rfl) rfl rfl) ?_; refine LR rfl (Jw (vs := [_, _, _, _, _]) rfl (kn 0 rfl) rfl rfl rfl rfl) ?_; refine Ki (vs := [_]) (zs := [_, _, _, _, _]) (r := [_, _, _, _, _]) rfl rfl rfl rfl rfl rfl rfl rfl rfl (by rw [Kv]; exact rfl) rfl fun r12 => ?_; refine Km (L0 := [_, _, _, _, _, _, _]) (xs := X9 (wc s TY i2 pre)) (row := row) (n := i2) (sz := 5) (b := 56) (news := [_, _, _, _, _]) (List.perm_append_comm (l₁ := [_, _, _, _, _, _, _])) rfl rfl rfl rfl (kn 0 rfl) rfl rfl rfl rfl rfl (by decide) rfl rfl rfl (by decide) hrow (by omega) (by omega) fun ra2 cap2 sp2 hra => ?_; refine Kx (k := 7) (cs' := #[JD (i2 + 1) (some (ra2, cap2, sp2))]) rfl rfl rfl rfl rfl rfl rfl rfl rfl rfl ?_; refine Jf (hK35 _ _ _ _ ?_); refine Ja (LS 3 [4] rfl rfl ?_); refine Jy (show _ = Value.int .i64 ((A + y : Nat)) from congrArg (Value.int .i64) (by rw [wrap_i64 (by omega) (by omega)]; omega)) ?_
    refine LT 4 rfl rfl ?_; refine Jf ?_; refine Jj (Vo [4, 5, 6, 7, 0] (L' := [_, _, _, _, _]) (by decide) rfl ?_)
    (have hfx : JB (Ty.mk xk xn xp xi) = true := ‹_›
     rw [hfx, if_pos rfl] at hbe
     obtain ⟨f1, f2⟩ := hinv.fix hxx hfx hzz
     rw [show (JQ (Ty.mk xk xn xp xi)).toNat = y by omega] at f1 f2
     exact qN (i2 + 1, A + y, la, op, some (ra2, cap2, sp2), pre) ⟨rfl, f1, by simp only; rw [f2, Xm]; exact hra⟩ (by simp only; rw [f2, Xm]; exact ⟨List.Sublist.refl _, List.Sublist.refl _⟩))
  · rintro D i ⟨i2, A, la, op, row, pre⟩ hfi ⟨he, hinv, hrow⟩
    simp only at he hinv hrow
    have hin : i = M := hfi
    have he2 : i2 = TY.length := by omega
    subst he2
    have hfin := hinv.done
    refine Jj (hK7 _ _ _ _ ?_); refine Wp fun K36 hK36 => ?_; refine Ja (LR rfl (Jk (v := .int .i64 op) rfl (kn 3 rfl) rfl rfl) (LS 2 [] rfl rfl ?_))
    refine J6 96 rfl (fun hb37 => ?_) (fun hb37 => ?_) <;> (try simp only [ZZ] at hb37) <;> first | (refine LR rfl (Jk (v := .int .i64 (H : Int)) rfl (Or.inl (List.mem_cons_of_mem _ (List.mem_append_right _ (List.mem_cons_of_mem _ (List.mem_cons_of_mem _ List.mem_cons_self))))) rfl rfl) ?_) | (refine LK rfl ?_)
    all_goals first
      | (refine LR rfl (Jk (v := J3 s) rfl (Or.inl (List.mem_cons_of_mem _ (List.mem_append_right _ (List.mem_cons_of_mem _ (List.mem_cons_of_mem _ (List.mem_cons_of_mem _ List.mem_cons_self)))))) rfl rfl) ?_)
      | (refine LK rfl ?_)
    all_goals first
      | (refine LR rfl (Ke rfl rfl) ?_)
      | (refine LK rfl ?_)
    all_goals refine LW 2 [] rfl rfl ?_
    all_goals refine KS rfl rfl rfl ZW (VL (_) 2) (fun q hq => nomatch hq) (fun hok _ => ?_) (fun v hv => by first | exact Bool.noConfusion hv.1 | exact Jd9 (k := 0) rfl rfl (Qo rfl rfl (WB (Jiv hm0 hM hHi' hHl (by rw [← hTY]; exact (hfin.2).trans (if_pos ⟨by omega, fun e => by have := Z4.1 hv.1; omega⟩))) (by decide) hv)))
    all_goals refine Jf ?_
    all_goals (
     refine hK36 _ _ _ _ ?_; refine Wp fun K41 hK41 => ?_; refine Ja (LR rfl (Jk (v := JD TY.length row) rfl (kn 4 rfl) rfl rfl) (Ji rfl ?_)); refine Jf (hK41 _ _ _ _ ?_); refine Jo0 ?_; refine Jb ?_
     have hpo := Jbc hm0 hM hHi' hHl
     rw [← hTY, hfin.2, if_neg (by first | (rintro ⟨g1, g2⟩; omega) | (rintro ⟨g1, g2⟩; have := Z3.1 hok; omega))] at hpo; simp only at hpo
     have hps : Yz k n ins s = wc s TY TY.length pre := by unfold Yz; rw [hpo, ← hM, ← hTY, hfin.1]
     rw [hps]; refine QP (k := 0) rfl rfl ?_; refine Jt rfl rfl (.cons (J1 rfl) .nil) (fun w1 hs1 => ?_); exact .inl ⟨by rw [hpo], ⟨row, by rw [hinv.len]; exact hrow⟩, congrArg (fun m => Ending.returned (JD m row)) hinv.len.symm, hs1.weakL (.cons _ (.cons _ (.cons _ (.cons _ (.cons _ (List.sublist_append_left _ _))))))⟩
     skip)
  exact fun _ _ _ h => h.elim
  · rintro D _ ⟨v, hv, rfl⟩
    exact Jd9 (k := 0) rfl rfl (Qo rfl rfl hv)
open Go.Proofs (Enters enters_of)
theorem xl : ∀ {l : List (Gf × BS)} {vs : List Vl} {f : Gf} {s : BS} {v : Vl}, Vs l = (vs, 0) → f s = (v, 0) → Vs (l ++ [(f, s)]) = (vs ++ [v], 0)
  | [], vs, f, s, v, h, hv => by
    rw [Vs] at h
    obtain rfl := (Prod.mk.inj h).1
    rw [List.nil_append, Vs, Vs, hv, if_neg (by simp), if_neg (by simp)]; rfl
  | (f', s') :: l, vs, f, s, v, h, hv => by
    rw [Vs] at h
    by_cases h1 : (f' s').2 ≠ 0
    · rw [if_pos h1] at h; exact absurd (Prod.mk.inj h).2 h1
    rw [if_neg h1] at h
    by_cases h2 : (Vs l).2 ≠ 0
    · rw [if_pos h2] at h; exact absurd (Prod.mk.inj h).2 h2
    rw [if_neg h2] at h
    obtain rfl := (Prod.mk.inj h).1
    have ih := xl (l := l) (vs := (Vs l).1) (Prod.ext rfl (Decidable.not_not.1 h2)) hv
    rw [List.cons_append, Vs, if_neg h1, ih, if_neg (by simp)]; rfl
theorem Jeg : ∀ {l r : List (Gf × BS)} {vs : List Vl} {f : Gf} {s : BS}, Vs l = (vs, 0) → (f s).2 ≠ 0 → (Vs (l ++ (f, s) :: r)).2 = (f s).2
  | [], r, vs, f, s, _, hv => by rw [List.nil_append, Vs, if_pos hv]
  | (f', s') :: l, r, vs, f, s, h, hv => by
    rw [Vs] at h
    by_cases h1 : (f' s').2 ≠ 0
    · rw [if_pos h1] at h; exact absurd (Prod.mk.inj h).2 h1
    rw [if_neg h1] at h
    by_cases h2 : (Vs l).2 ≠ 0
    · rw [if_pos h2] at h; exact absurd (Prod.mk.inj h).2 h2
    have ih := Jeg (r := r) (l := l) (vs := (Vs l).1) (Prod.ext rfl (Decidable.not_not.1 h2)) hv
    rw [List.cons_append, Vs, if_neg h1, if_pos (by rw [ih]; exact hv)]; exact ih
theorem yF {s : BS} {H : Nat} (hH : H ≤ s.length) : ∀ {ts : List Ty} {a la : Nat} {op : Bool} {os : List Nat}, Qu s H ts a la op = some os → la ≤ s.length → (op = false → la = H) → (∀ x ∈ ts, JB x = true → 0 ≤ JQ x) → (a : Int) + JU ts = H → ∀ q ∈ KF ts a os, q.2.1 ≤ q.2.2 ∧ q.2.2 ≤ s.length
  | [], _, _, _, _, _, _, _, _, _, q, hq => by rw [KF] at hq; cases hq
  | x :: xs, a, la, op, os, h, hla, hop, hz, hb, q, hq => by
    have hz2 : ∀ y ∈ xs, JB y = true → 0 ≤ JQ y := fun y hy => hz y (List.mem_cons_of_mem _ hy)
    have hn := ZR xs
    rw [JU, V1] at hb; rw [Qu] at h; rw [KF] at hq
    by_cases hf : JB x = true
    · rw [if_pos hf] at h hb hq
      have h0 := hz x List.mem_cons_self hf
      rcases List.mem_cons.1 hq with rfl | hq
      · simp only; omega
      · exact yF hH h hla hop hz2 (by omega) q hq
    · rw [if_neg hf] at h hb hq
      split at h
      · cases h
      · rename_i h1
        obtain ⟨r, h2, rfl⟩ := Option.map_eq_some_iff.1 h
        obtain ⟨o, r2, rfl, g1, g2, _⟩ := vZ h2 (by omega) (fun h => by cases h)
        rcases List.mem_cons.1 hq with rfl | hq
        · exact ⟨g1, g2⟩
        · exact yF hH h2 (by omega) (fun h => by cases h) hz2 (by omega) q hq
def gq (s : BS) (q : Ty × Nat × Nat) : Gf × BS := (KH q.1, (s.take q.2.2).drop q.2.1)
theorem qi {α β γ : Type} (f : α → β) (g : α → γ) : ∀ l : List α, (l.map f).zip (l.map g) = l.map fun a => (f a, g a)
  | [] => rfl
  | x :: xs => by rw [List.map_cons, List.map_cons, List.zip_cons_cons, qi f g xs]; rfl
theorem Jiw {k n : Int} {ins : List Ty} {s : BS} (hX : (JT k n ins s).2 = 0 → ∀ i, i < (JT k n ins s).1 → VX k 0 i < ins.length) :
    ze k n ins (YJ ins) s = if (Ve k n ins s).2 ≠ 0 then (v0L, (Ve k n ins s).2) else if (Vs ((Yz k n ins s).map (gq s))).2 ≠ 0 then (v0L, (Vs ((Yz k n ins s).map (gq s))).2) else (JX (Vs ((Yz k n ins s).map (gq s))).1 0, 0) := by
  unfold ze
  by_cases hm : (JT k n ins s).2 ≠ 0
  · rw [if_pos hm, if_pos (by rw [ZS hm]; exact hm), ZS hm]
  rw [if_neg hm]
  have hm0 := Decidable.not_not.1 hm
  have hX := hX hm0
  unfold Yz Ve
  rw [if_neg hm]
  by_cases hb : (s.length : Int) < JU (Kq k ins (JT k n ins s).1)
  · rw [if_pos hb, if_pos hb, if_pos (by simp)]
  rw [if_neg hb, if_neg hb]
  generalize (JT k n ins s).1 = M at *
  cases Qu s (JU (Kq k ins M)).toNat (Kq k ins M) 0 (JU (Kq k ins M)).toNat false with
  | none => simp
  | some os =>
    simp only [ne_eq, not_true_eq_false, if_false]
    have e : ((List.range M).map fun i => (YJ ins).getD (VX k 0 i) g0).zip (Vj s (Kq k ins M) 0 os) = (KF (Kq k ins M) 0 os).map (gq s) := by
      have e1 : ((List.range M).map fun i => (YJ ins).getD (VX k 0 i) g0) = (KF (Kq k ins M) 0 os).map fun q => KH q.1 := by
        have e2 : ((KF (Kq k ins M) 0 os).map Prod.fst).map KH = (Kq k ins M).map KH := by rw [qK]
        rw [List.map_map] at e2; rw [show (fun q : Ty × Nat × Nat => KH q.1) = KH ∘ Prod.fst from rfl, e2]
        unfold Kq
        rw [List.map_map]; exact List.map_congr_left fun i hi => ZO (Qi (hX i (List.mem_range.1 hi))).1
      rw [e1, ju, qi]; rfl
    rw [e]
section
variable {k n : Int} {p : Pl} {ins : List Ty} {s : BS}
theorem g_w (h : JB (.mk k n p ins) = true ∧ (s.length : Int) ≠ JQ (.mk k n p ins)) : KH (.mk k n p ins) s = (v0L, 2) := by rw [KH]; unfold ZX; rw [if_pos h]
variable (hnf : ¬ (JB (.mk k n p ins) = true ∧ (s.length : Int) ≠ JQ (.mk k n p ins)))
include hnf
theorem g_1 (h1 : k = 1) : KH (.mk k n p ins) s = (vn (Xi s), 0) := by rw [KH]; unfold ZX; rw [if_neg hnf, if_pos h1]
theorem g_2 (h1 : k ≠ 1) (h2 : k = 2) : KH (.mk k n p ins) s = if 1 < (s.getD 0 0).toNat then (v0L, 2) else (vn (Xi s), 0) := by rw [KH]; unfold ZX; rw [if_neg hnf, if_neg h1, if_pos h2]
theorem g_5 (h1 : k ≠ 1) (h2 : k ≠ 2) (h5 : k = 5) : KH (.mk k n p ins) s = if ((JH s (8 * s.length)).drop n.toNat).any id then (v0L, 8) else (Zo (JH s n.toNat), 0) := by rw [KH]; unfold ZX; rw [if_neg hnf, if_neg h1, if_neg h2, if_pos h5]
theorem g_6 (h1 : k ≠ 1) (h2 : k ≠ 2) (h5 : k ≠ 5) (h6 : k = 6) : KH (.mk k n p ins) s = blT n s := by rw [KH]; unfold ZX; rw [if_neg hnf, if_neg h1, if_neg h2, if_neg h5, if_pos h6]; rfl
theorem Jy1 (h1 : k ≠ 1) (h2 : k ≠ 2) (h5 : k ≠ 5) (h6 : k ≠ 6) (h8 : k = 8) (hs : s = []) : KH (.mk k n p ins) s = (v0L, 2) := by rw [KH]; unfold ZX; rw [if_neg hnf, if_neg h1, if_neg h2, if_neg h5, if_neg h6, if_pos h8, hs]
theorem g_r (h1 : k ≠ 1) (h2 : k ≠ 2) (h5 : k ≠ 5) (h6 : k ≠ 6) (h8 : k ≠ 8) : KH (.mk k n p ins) s = ze k n ins (YJ ins) s := by rw [KH]; unfold ZX; rw [if_neg hnf, if_neg h1, if_neg h2, if_neg h5, if_neg h6, if_neg h8]
theorem Jy2 (h1 : k ≠ 1) (h2 : k ≠ 2) (h5 : k ≠ 5) (h6 : k ≠ 6) (h8 : k = 8) (hs : s ≠ []) (hb : ins.length ≤ (s.getD 0 0).toNat) : KH (.mk k n p ins) s = (v0L, 9) := by
  rw [KH]; unfold ZX; rw [if_neg hnf, if_neg h1, if_neg h2, if_neg h5, if_neg h6, if_pos h8]
  cases s with
  | nil => exact absurd rfl hs
  | cons b r => simp only; rw [if_pos (by simpa using hb)]
theorem g_8 (h1 : k ≠ 1) (h2 : k ≠ 2) (h5 : k ≠ 5) (h6 : k ≠ 6) (h8 : k = 8) (hs : s ≠ []) {x : Ty} (hx : ins[(s.getD 0 0).toNat]? = some x) : KH (.mk k n p ins) s = if (KH x (s.drop 1)).2 ≠ 0 then (v0L, (KH x (s.drop 1)).2) else (JX [(KH x (s.drop 1)).1] (s.getD 0 0).toNat, 0) := by
  rw [KH]; unfold ZX; rw [if_neg hnf, if_neg h1, if_neg h2, if_neg h5, if_neg h6, if_pos h8]
  cases s with
  | nil => exact absurd rfl hs
  | cons b r =>
    simp only [List.getD_cons_zero, List.drop_succ_cons, List.drop_zero] at hx ⊢
    have hlt := (List.getElem?_eq_some_iff.1 hx).1
    rw [if_neg (by omega), ZO hx]
end
theorem Jgg {s : BS} {a b c d : Nat} (h : Xi s = [a, b, c, d]) : Vl.In [] (.mk a b c d [] none [] none 0) := by
  have h2 := (Jag s).2
  rw [h] at h2
  have hU : ∀ x ∈ [a, b, c, d], XD x := fun x hx => h2 x hx
  exact .mk (hU a (by simp)) (hU b (by simp)) (hU c (by simp)) (hU d (by simp)) (by decide) rfl (by decide) rfl i0 (fun x hx => nomatch hx)
theorem Jtu (l : List Vl) : (Qf l).length = l.length * 7 := KT Vl.len l
theorem Zr {vs : List Vl} {E Lr : Jo} {p : Pl} {pick : Int} (hl : vs.length ≤ 9223372036854775807) (hs : Seg Lr vs.length (Qf vs) p) (hE : ∀ x ∈ vs, x.In E) (hp : jx pick) : Vl.In (Lr ++ E) (.mk 0 0 0 0 [] none vs p pick) :=
  .mk u0 u0 u0 u0 (by decide) rfl hl (hs.mono fun q hq => List.mem_append_left _ hq) hp fun x hx => (hE x hx).mono fun q hq => List.mem_append_right _ hq
theorem yG {α : Type} {c : Cx} {d : List Deferred} {l : Ko} {L : Jo} {X : XP} {Q : Exit → Act → World → Prop} {ok : Prop} {bad : Value → Prop} {V : α → Value} {LL : α → Jo} {Rl : Jo} {dst : Option Nat} {f : Operand} {args : Array Operand} {at_ : Array TypeId} {ty : TypeId} {ps : String} {af : Array Edge} {gd : Option (Nat × Bool)} {g : FuncId} {vs : List Value}
    (hca : Ky l f args = some (g, vs)) (eg : Enters c.P g) (hpt : PureX c.P g vs.toArray ok bad V LL Rl) (hno : ok → α → False) (hR : ∀ p ∈ Rl, known c L p.1 p.2) (hp : ∀ v, bad v → HQ c d l L X (Q (.panic (yv v)))) :
    ∀ (next : Act → World → Prop) a w, Fr c.n d l a → St c L X w → Oper.uponIn (FW c.ro) 0 c.P ⟨dst, .call ⟨.value f, args, at_⟩, ty, ps, af, gd⟩ a next Q ((execOp a.eval ⟨dst, .call ⟨.value f, args, at_⟩, ty, ps, af, gd⟩).run c.P w) := fun next a w hf hs => by
  rw [VC hf hca c.P w _ rfl eg, Oper.uponIn_enter]; refine ⟨fun hdep => (by cases hdep), ?_⟩
  have hc := callsIn_wide (n := 0) |>.2 (hpt.run w fun p hp => hs.known (hR p hp))
  refine CallsIn.mono (show CallsIn (FW c.ro) 0 c.P g vs.toArray w _ from hc) ?_
  rintro e w' (⟨ho, x, rfl, hk, h1, h2⟩ | ⟨v, hv, rfl, hk⟩)
  · exact (hno ho x).elim
  · exact hp v hv a w' hf (hs.more hk)
section
variable {c : Cx} {X : XP} {S : Jo} {ops : Array Oper} {l : Ko} {E : Jo} {d : List Deferred} {tb : jI} {rest : List Nat} {T : Jo → Act → Prop} {i k : Nat} {v : Value}
theorem Zs {t ty : TypeId} {ps : String} {af : Array Edge} {gd : Option (Nat × Bool)} {n e sz : Nat} {pa : List (Nat × Operand)} {vs : Ko} {r zs : List Value} {z : Value} (hk : Wy ops.toList k = some ⟨some i, .buildSlice t n pa.toArray, ty, ps, af, gd⟩) (hg : Kk l ops ⟨some i, .buildSlice t n pa.toArray, ty, ps, af, gd⟩ = some true) (hi : Nat.ble (i + 1) c.n = true)
    (hA : tb k = .turn) (hS : SubS S E)
    (hp : WD l pa = some vs) (ht : Kl c.P t = some e) (hz : QJ c.P e = some z) (hs : KI c.P e = some sz) (hzs : z.cells.size = sz) (hb : Nat.ble (n * sz) 16777216 = true) (h0 : Nat.ble 1 (n * sz) = true)
    (hmk : (madeCells z.cells (n * sz)).toList = zs) (hf : YU (fun i => some (i * sz, sz)) zs (QE vs) = some r)
    (h : ∀ q, HB c d ((i, .slice (some ⟨q, 0, none⟩) n n) :: l) ((q, .cells r.toArray e (0, 0)) :: E) X S ops tb rest T) : HB c d l E X S ops tb (k :: rest) T := fun a hfr => by
  refine ⟨_, QO hk, ?_⟩; rw [hA]; refine .inl ⟨Nat, slV n, fun q => (q, .cells r.toArray e (0, 0)) :: E, ⟨JE hfr hg, fun w hst => ?_⟩, fun q => ⟨fun p hp => List.mem_cons_of_mem _ (hS p hp), h q _ (hfr.put (Nat.le_of_ble_eq_true hi))⟩⟩
  have h1 := Vn hfr hp
  have h2 : (pa.toArray.map fun (p : Nat × Operand) => (p.1, a.eval p.2)) = vs.toArray := by
    apply Array.toList_inj.1; rw [Array.toList_map]; simpa using h1
  rw [Qx] at hf; subst hmk
  have h3 := V3 ht hz hs hzs (Nat.le_of_ble_eq_true hb) (Nat.le_of_ble_eq_true h0) hf w
  rw [← h2] at h3
  have h4 : (Instr.buildSlice t n (pa.toArray.map fun (i, x) => (i, a.eval x))).run c.P w = .ok (.slice (some ⟨w.heap.size, 0, none⟩) n n) (w.alloc (.cells r.toArray e)) := h3
  refine Y3 (v := .slice (some ⟨w.heap.size, 0, none⟩) n n) (w' := w.alloc (.cells r.toArray e)) ?_ ⟨w.heap.size, rfl, hst.alloc _⟩; simp only [execOp, Sem.run_bind]; rw [h4]; rfl
end
open Classical in
theorem Jw6 {α : Type} (a b c d e : α) (Y A P E : List α) : (a :: (Y ++ (b :: c :: d :: e :: (A ++ (P ++ E))))).Perm (A ++ (a :: b :: c :: d :: e :: (Y ++ (P ++ E)))) := by
  rw [List.perm_iff_count]; intro x; simp only [List.count_append, List.count_cons]; omega
open Classical in
theorem Jw7 {α : Type} (a b c d e f : α) (Y P E : List α) : (a :: b :: c :: d :: e :: f :: (Y ++ (P ++ E))).Perm (b :: c :: d :: e :: f :: (a :: (P ++ (Y ++ E)))) := by
  rw [List.perm_iff_count]; intro x; simp only [List.count_append, List.count_cons]; omega
theorem XA {c : Cx} {d : List Deferred} {l : Ko} {L L' : Jo} {X : XP} {K : Act → World → Prop} (hp : L.Perm L') (h : HQ c d l L' X K) : HQ c d l L X K := fun a w hf hs => h a w hf (hs.perm hp)
theorem Jpj {s : BS} {N j : Nat} (h : N + j < 8 * s.length) (hb : Qw s (N + j) = true) : ((JH s (8 * s.length)).drop N).any id = true :=
  List.any_eq_true.2 ⟨_, List.mem_iff_getElem?.2 ⟨j, by rw [List.getElem?_drop]; exact Qr s h⟩, by simpa using hb⟩
theorem Jw8 {s : BS} {N : Nat} (h : ∀ j, j < 8 * s.length - N → Qw s (N + j) = false) : ((JH s (8 * s.length)).drop N).any id = false := by
  rw [List.any_eq_false]; intro b hb
  obtain ⟨j, hj⟩ := List.getElem?_of_mem hb
  rw [List.getElem?_drop] at hj
  have hlt := (List.getElem?_eq_some_iff.1 hj).1
  rw [JZ] at hlt; rw [Qr s hlt] at hj
  cases hj
  rw [h j (by omega)]; simp
theorem Jpk {R : Jo} {k n : Int} {p : Pl} {ins : List Ty} {s : BS} (ht : Ty.In R (.mk k n p ins)) (hc : V0 (.mk k n p ins) 0 = 0) (hk3 : k = 3 ∨ k = 4 ∨ k = 7) (hl : s.length ≤ 100000) :
    PureX (α := { row : V5 // rowOk 5 (Yz k n ins s).length (X9 (Yz k n ins s)) row }) Tryz.prog 147 [Ty.val (.mk k n p ins), J3 s].toArray ((Ve k n ins s).2 = 0) (fun v => (Ve k n ins s).2 ≠ 0 ∧ v = xh (Ve k n ins s).2) (fun x => KP (Yz k n ins s).length (Vv x.1)) (fun x => JV 162 (X9 (Yz k n ins s)) x.1) R :=
  (Jtt ht hc hk3 hl).map id (fun x => (Wm _ _ (fun h => by have := x.2; rw [h] at this; exact this.1)).symm) fun x => List.Sublist.refl _
theorem Jpl {k n : Int} {ins : List Ty} {s : BS} (hX : ∀ i, i < (JT k n ins s).1 → VX k 0 i < ins.length) {i : Nat} {q : Ty × Nat × Nat} (h : (Yz k n ins s)[i]? = some q) : q.1 ∈ ins := by
  have h1 : ((Yz k n ins s).map Prod.fst)[i]? = some q.1 := by rw [List.getElem?_map, h]; rfl
  unfold Yz at h1
  rw [qK] at h1
  unfold Kq at h1
  rw [List.getElem?_map] at h1
  obtain ⟨j, hj, e⟩ := Option.map_eq_some_iff.1 h1
  have hj2 := List.mem_range.1 (List.mem_of_getElem? hj)
  rw [← e]; exact (Qi (hX j hj2)).2
theorem Jy3 {k n : Int} {ins : List Ty} {s : BS} (h0 : (Ve k n ins s).2 = 0) {q : Ty × Nat × Nat} (hq : q ∈ Yz k n ins s) : (JT k n ins s).2 = 0 ∧ q.2.1 ≤ q.2.2 ∧ q.2.2 ≤ s.length := by
  by_cases hm : (JT k n ins s).2 ≠ 0
  · rw [ZS hm] at h0; exact absurd h0 hm
  have hm0 := Decidable.not_not.1 hm
  refine ⟨hm0, ?_⟩
  have hb0 := ZR (Kq k ins (JT k n ins s).1)
  obtain ⟨H, hH⟩ : ∃ H : Nat, JU (Kq k ins (JT k n ins s).1) = (H : Int) := ⟨_, (Int.toNat_of_nonneg hb0).symm⟩
  by_cases hl : s.length < H
  · rw [Jiu hm0 rfl hH hl] at h0; cases h0
  have ho := Jbc hm0 rfl hH (by omega)
  cases e : Qu s H (Kq k ins (JT k n ins s).1) 0 H false with
  | none => rw [e] at ho; rw [ho] at h0; cases h0
  | some os =>
    rw [e] at ho
    unfold Yz at hq
    rw [ho] at hq; exact yF (by omega) e (by omega) (fun _ => rfl) (fun x _ hx => by have := qc hx; omega) (by rw [hH]; simp) q hq
set_option maxHeartbeats 4000000 in
theorem Jy4 {R : Jo} {t : Ty} (ht : t.In R) : V0 t 0 = 0 → ∀ s : BS, s.length ≤ 100000 → PureX (α := VR (KH t s).1) Tryz.prog 95 [t.val, J3 s].toArray ((KH t s).2 = 0) (fun v => (KH t s).2 ≠ 0 ∧ v = xh (KH t s).2) (fun y => y.x.val) (fun y => y.L) R := by
  induction ht with
  | @mk k n p ins hk hn hil hs hi ih =>
  intro hc s hl
  have ht : Ty.In R (.mk k n p ins) := .mk hk hn hil hs hi
  obtain ⟨hk8, ho, _, _⟩ := Qy hc
  have hsub := VY hc
  have hF := Jac ht
  have hZ := Jfq ht
  unfold ww at hZ
  have hbl := Jkt (k := k) (p := p) (ins := ins) hl hn
  have hT := Jpb (s := s) (n := 8 * s.length) (Nat.le_refl _) hl
  have hpl : ¬ (JB (.mk k n p ins) = true ∧ (s.length : Int) ≠ JQ (.mk k n p ins)) → k = 1 ∨ k = 2 ∨ k = 5 → (s.length : Int) = if k = 1 then n else if k = 2 then 1 else (n + 7) / 8 := fun hnf h => by
    have hi0 : ins = [] := by
      unfold Kf at ho
      rcases h with rfl | rfl | rfl <;> simp at ho <;> first | exact ho.1 | exact ho.1.1
    have hx : JB (.mk k n p ins) = true := by
      rw [Jos hc, Wr, hi0, jh]
      rcases h with rfl | rfl | rfl <;> rfl
    have e : (s.length : Int) = JQ (.mk k n p ins) := Decidable.byContradiction fun h2 => hnf ⟨hx, h2⟩
    rw [e, JQ]
    rcases h with rfl | rfl | rfl <;> simp
  have hn1 : k = 1 → 1 ≤ n ∧ n ≤ 32 := fun e => by subst e; unfold Kf at ho; simp at ho; omega
  have hn5 : k = 5 → 1 ≤ n ∧ n ≤ 512 := fun e => by subst e; unfold Kf at ho; simp at ho; omega
  have h16 : k = 8 → ins.length ≤ 8 := fun e => by subst e; unfold Kf at ho; simp at ho; omega
  refine XS Tryz.func95 rfl rfl fun w => ?_; refine sR fun _ hK1 => ?_; refine LN rfl fun r1 => ?_; refine LN rfl fun r2 => ?_; refine nK hK1 (sR fun _ hK2 => ?_); refine LR rfl (Jw (vs := [_, _, _]) rfl (kn 1 rfl) rfl rfl rfl rfl) ?_; refine Jh rfl rfl rfl Jmo hF (fun q hq => Or.inr hq) ?_; refine LS 2 [] rfl rfl ?_
  refine J6 15 rfl (fun hb3 => ?_) (fun hb3 => ?_) <;> (try simp only [ZZ] at hb3) <;> first | (refine Ji rfl ?_) | (refine LK rfl ?_)
  all_goals first
    | (refine LR rfl (Ke rfl rfl) ?_)
    | (refine LK rfl ?_)
  all_goals refine LW 1 [1] rfl rfl ?_
  all_goals first
    | (refine Jh rfl rfl rfl Jmp hZ (fun q hq => Or.inr hq) ?_)
    | (refine LK rfl ?_)
  all_goals refine LW 2 [] rfl rfl ?_
  all_goals refine KS rfl rfl rfl ZW (VL (_) 2) (fun q hq => nomatch hq) (fun hok _ => ?_) (fun v hv => by first | exact Bool.noConfusion hv.1 | exact Qo rfl rfl (WB (by rw [g_w ⟨‹JB _ = true›, fun e => absurd hv.1 (by rw [if_pos ‹JB _ = true›, e, beq_self_eq_true]; decide)⟩]) (by decide) hv))
  all_goals refine Jf ?_
  all_goals (
   refine hK2 (sQ fun _ hK8 => ?_); refine sQ fun _ hK9 => ?_
   have hnf : ¬ (JB (.mk k n p ins) = true ∧ (s.length : Int) ≠ JQ (.mk k n p ins)) := by
     rintro ⟨hA, hB⟩
     first
     | (have e := Z3.1 hok; rw [if_pos hA] at e; exact hB e)
     | (have e : JB (.mk k n p ins) = false := ‹_›; rw [e] at hA; cases hA)
   clear hok; refine Ja ?_
   refine LS 2 [1] rfl rfl (nK hK9 ?_); refine Js (sR fun _ hK10 => (LS 2 [] rfl rfl ?_)); refine nK hK10 ?_; refine Jc rfl (fun h11 => ?_) (fun h11 => ?_)
   try simp only [ZZ] at h11
   refine sQ fun _ hK12 => ?_
   have hln := hpl hnf (.inl ‹k = 1›)
   rw [if_pos ‹k = 1›] at hln
   have hnn := hn1 ‹_›
   obtain ⟨a, b, c, d, hnm⟩ := Ja8 s
   have hnu := xj (s := s) (by omega)
   rw [hnm] at hnu; refine Ja (Ji rfl (JF rfl rfl rfl (enters_of Tryz.func144 (by kernel_rfl) rfl) hnu ?_)); refine LR rfl (JK (r := [_, _, _, _, _, _, _]) rfl rfl) ?_
   refine LT 0 rfl rfl (nK hK12 ?_); refine Jb (Jn (Jd ?_)); refine Jt rfl rfl (.cons (J9 (vs := [_, _, _, _, _, _, _]) rfl (kn 0 rfl) rfl rfl) .nil) (fun w1 hs1 => ?_)
   (have e1 := g_1 hnf (s := s) ‹k = 1›
    refine .inl ⟨by rw [e1], ⟨.mk a b c d [] none [] none 0, [], Jgg hnm, by rw [e1, KE, Xe, hnm]; rfl⟩, rfl, hs1.weakL (List.nil_sublist _)⟩)
   · try simp only [ZZ] at h11
     refine sR fun _ hK13 => LS 2 [] rfl rfl (nK hK13 ?_); refine Jc rfl (fun h14 => ?_) (fun h14 => ?_)
     try simp only [ZZ] at h14
     refine sQ fun _ hK15 => ?_
     have hln := hpl hnf (.inr (.inl ‹k = 2›))
     rw [if_neg ‹k ≠ 1›, if_pos ‹k = 2›] at hln
     obtain ⟨a, b, c, d, hnm⟩ := Ja8 s
     have hnu := xj (s := s) (by omega)
     rw [hnm] at hnu; refine Ja (Ji rfl (LR rfl (W6 (j := 0) rfl rfl rfl rfl (by omega) rfl) ?_)); refine JY rfl ?_; refine KS rfl rfl rfl ZW (VL (_) 2) (fun q hq => nomatch hq) (fun hok _ => ?_) (fun v hv => Qo rfl rfl (WB (by rw [g_2 hnf ‹k ≠ 1› ‹k = 2›, if_pos (by have := Z2.1 hv.1; omega)]) (by decide) hv)); refine nK hK15 (sR fun _ hK16 => ?_); refine Ji rfl (JF rfl rfl rfl (enters_of Tryz.func144 (by kernel_rfl) rfl) hnu (LR rfl (JK (r := [_, _, _, _, _, _, _]) rfl rfl) ?_))
     refine LT 0 rfl rfl (nK hK16 ?_); refine Jb (Jn (Jd ?_)); refine Jt rfl rfl (.cons (J9 (vs := [_, _, _, _, _, _, _]) rfl (kn 0 rfl) rfl rfl) .nil) (fun w1 hs1 => ?_)
     (have e1 := g_2 hnf (s := s) ‹k ≠ 1› ‹k = 2›
      rw [if_neg (by have := Z1.mp hok; omega)] at e1
      refine .inl ⟨by rw [e1], ⟨.mk a b c d [] none [] none 0, [], Jgg hnm, by rw [e1, KE, Xe, hnm]; rfl⟩, rfl, hs1.weakL (List.nil_sublist _)⟩)
     · try simp only [ZZ] at h14
       refine sR fun _ hK17 => LS 2 [] rfl rfl (nK hK17 ?_); refine Jc rfl (fun h18 => ?_) (fun h18 => ?_)
       · try simp only [ZZ] at h18
         refine sQ fun _ hK19 => ?_
         have hln := hpl hnf (.inr (.inr ‹k = 5›))
         rw [if_neg ‹k ≠ 1›, if_neg ‹k ≠ 2›] at hln
         have hnn := hn5 ‹_›
         obtain ⟨N, hN⟩ : ∃ N, N = n.toNat := ⟨_, rfl⟩
         refine Ja (LS 2 [] rfl rfl (LR rfl (Ke rfl rfl) ?_)); refine JY rfl ?_; refine Jy (show _ = Value.int .i64 ((8 * s.length : Nat)) from congrArg (Value.int .i64) (by rw [wrap_i64 (by omega) (by omega)]; omega)) ?_; refine Qd rfl rfl rfl (enters_of Tryz.func145 (by kernel_rfl) rfl) hT (fun q hq => nomatch hq) fun x => ?_
         obtain ⟨row, hrow⟩ := x
         match row, hrow with | none, hrow => ?_ | some (ra, cap, sp), hrow => ?_
         all_goals first | exact absurd hrow.1 (by omega) | skip
         refine Ji rfl (nK hK19 ?_); refine sQ fun _ hK20 => sQ fun _ hK21 => ?_
         have hcap : 8 * s.length ≤ cap := by have := hrow.2; omega
         obtain ⟨off1, hoff⟩ : ∃ o, (if cap = N then 0 else 0 + N * 1) = o := ⟨_, rfl⟩
         refine Ja (Ji rfl ?_)
         refine LS 2 [2] rfl rfl ?_; refine Jy (show _ = Value.int .i64 ((N : Nat) : Int) from congrArg (Value.int .i64) (by omega)) ?_; refine LR rfl (JR (kl := some N) (kh := none) (km := none) (sz := 1) (m := N) (q := 8 * s.length) (z := cap) (off' := off1) rfl rfl rfl ⟨_, rfl⟩ trivial trivial rfl rfl rfl (by omega) (by omega) (Nat.le_refl _) (fun _ => rfl) hoff) ?_; refine LR rfl (KM rfl rfl) ?_; refine Ji rfl (nK hK21 ?_); refine Js (JL (σ := Nat) (fun j => j ≤ 8 * s.length - N ∧ ∀ i, i < j → Qw s (N + i) = false) (fun j => [(1, J3 s), (2, VG r1), (4, VG r2), (5, .slice (some ⟨ra, 0, none⟩) (8 * s.length) cap), (49, .slice (some ⟨ra, off1, none⟩) (8 * s.length - N) (cap - N)), (50, .int .i64 ((8 * s.length - N : Nat) : Int)), (51, .int .i64 (j : Int))]) (fun _ => [(ra, .cells (QD (JH s (8 * s.length)) ++ sp).toArray 4 (0, 0)), WW r2 v0L, VQ r1 (.mk k n p ins)]) (fun _ _ _ => True) (fun j => 8 * s.length - N - j) 0 ⟨Nat.zero_le _, fun i h => by omega⟩ (.cons rfl (.cons rfl (.cons rfl (.cons rfl (.cons rfl (.cons rfl (.cons rfl .nil))))))) (List.Sublist.refl _) (fun _ _ h => h) ?_); rintro j ⟨hj1, hbits⟩; change HC _ _ _ ((ra, _) :: (r2, _) :: (r1, _) :: []) _ _ _; refine sR fun _ hK22 => JY rfl (nK hK22 ?_); refine sQ fun _ hK23 => ?_; refine Jc rfl (fun h24 => ?_) (fun h24 => ?_)
         try simp only [ZZ] at h24
         refine Jg (hK23 ?_); refine sB fun _ hK25 => sR fun _ hK26 => ?_; refine LR rfl (Kj (j := j) (m := 1) (off' := N + j) rfl rfl rfl rfl (by omega) (by omega) (by rw [← hoff, if_neg (by omega)]; omega)) ?_; refine LR rfl (Jk rfl (kn 0 rfl) rfl (Jir s (i := N + j) (by omega) sp)) ?_; refine Ji rfl (nK hK26 ?_); refine Ja (LS 2 [] rfl rfl ?_); refine KS rfl rfl rfl ZW (VL (_) 8) (fun q hq => nomatch hq) (fun hok _ => ?_) (fun v hv => Qo rfl rfl (WB (by rw [g_5 hnf ‹k ≠ 1› ‹k ≠ 2› ‹k = 5›, ← hN, if_pos (Jpj (by omega) (Z8.mp hv.1))]) (by decide) hv)); refine Jf (Jj (hK25 ?_)); refine Ja (JY rfl (Ju (by omega) (by omega) ?_)); refine Ji rfl (Jf (J8 ?_)); exact J2 (j + 1) ⟨by omega, fun i hi => by by_cases e : i = j; (subst e; exact Z7.mp hok); exact hbits i (by omega)⟩ (by omega) (.cons rfl (.cons rfl (.cons rfl (.cons rfl (.cons rfl (.cons rfl (.cons rfl .nil))))))) (List.Sublist.refl _) (fun _ _ h => h)
         · try simp only [ZZ] at h24
           refine JJ (Jm ?_); refine Jm (J0 (hK20 ?_)); refine sQ fun _ hK27 => ?_
           have hany := Jw8 (s := s) (N := N) (fun i hi => hbits i (by omega))
           refine Ja (Ji rfl ?_)
           refine LS 2 [2] rfl rfl ?_; refine Jy (show _ = Value.int .i64 ((N : Nat) : Int) from congrArg (Value.int .i64) (by omega)) ?_
           refine LR rfl (JR (kl := none) (kh := some N) (km := none) (m := 0) (q := N) (z := cap) (off' := 0) (sz := 1) rfl rfl rfl trivial ⟨_, rfl⟩ trivial rfl rfl rfl (by omega) (by omega) (Nat.le_refl _) (fun e => nomatch e) (by split <;> omega)) ?_; refine LR rfl (JK (r := [_, _, _, _, _, _, _]) rfl rfl) ?_
           refine LT 1 rfl rfl (nK hK27 ?_); refine Jb (Jn (Jd ?_)); refine Jt rfl rfl (.cons (J9 (vs := [_, _, _, _, _, _, _]) rfl (kn 1 rfl) rfl rfl) .nil) (fun w1 hs1 => ?_)
           (have e1 := g_5 hnf (s := s) ‹k ≠ 1› ‹k ≠ 2› ‹k = 5›
            rw [← hN, hany, if_neg (by decide)] at e1
            refine .inl ⟨by rw [e1], ⟨.mk 0 0 0 0 (JH s N) (some (⟨ra, 0, none⟩, cap)) [] none 0, [(ra, .cells (QD (JH s (8 * s.length)) ++ sp).toArray 4 (0, 0))], yD (by omega) (by omega) (by omega), by rw [e1, KE, Xe]; rfl⟩, congrArg Ending.returned (Jis s N ra cap).symm, hs1.weakL ((List.cons_sublist_cons).2 (List.nil_sublist _))⟩)
       · try simp only [ZZ] at h18
         refine sR fun _ hK28 => LS 2 [] rfl rfl (nK hK28 ?_); refine Jc rfl (fun h29 => ?_) (fun h29 => ?_)
         try simp only [ZZ] at h29
         refine sR fun _ hK30 => LS 2 [1] rfl rfl ?_; refine KS rfl rfl rfl (enters_of Tryz.func146 (by kernel_rfl) rfl) hbl (fun q hq => nomatch hq) (fun hok y => ?_) (fun v hv => Qo rfl rfl (by rw [g_6 hnf ‹k ≠ 1› ‹k ≠ 2› ‹k ≠ 5› ‹k = 6›]; exact hv))
         obtain ⟨⟨ya, yb, yc, yd, ybits, ypb, yitems, ypi, ypick⟩, yL, yok, yer⟩ := y
         refine KC List.perm_append_comm ?_
         refine LT 0 rfl rfl (nK hK30 ?_); refine Jb (Jn (Jd ?_)); refine Jt rfl rfl (.cons (J9 (vs := [_, _, _, _, _, _, _]) rfl (kn 0 rfl) rfl rfl) .nil) (fun w1 hs1 => ?_)
         (have e1 := g_6 hnf (s := s) ‹k ≠ 1› ‹k ≠ 2› ‹k ≠ 5› ‹k = 6›
          refine .inl ⟨by rw [e1]; exact hok, ⟨.mk ya yb yc yd ybits ypb yitems ypi ypick, yL, yok, by rw [e1]; exact yer⟩, rfl, hs1.weakL (.cons _ (.cons _ (List.Sublist.refl _)))⟩)
         · try simp only [ZZ] at h29
           refine sR fun _ hK31 => LS 2 [] rfl rfl (nK hK31 ?_); refine Jc rfl (fun h32 => ?_) (fun h32 => ?_)
           · try simp only [ZZ] at h32
             refine sR fun _ hK33 => Ji rfl (LR rfl (Y2 rfl rfl) ?_); refine KS rfl rfl rfl ZW (VL (_) 2) (fun q hq => nomatch hq) (fun hok _ => ?_) (fun v hv => Qo rfl rfl (WB (by rw [Jy1 hnf ‹k ≠ 1› ‹k ≠ 2› ‹k ≠ 5› ‹k ≠ 6› ‹k = 8› (of_decide_eq_true (Z8.mp hv.1))]) (by decide) hv)); refine nK hK33 (sQ fun _ hK34 => ?_)
             have hsne : s ≠ [] := of_decide_eq_false (Z7.mp hok)
             have hpos : 0 < s.length := List.length_pos_iff.2 hsne
             refine Ja (Ji rfl (LR rfl (W6 (j := 0) rfl rfl rfl rfl (by omega) rfl) ?_)); refine JY rfl ?_; refine Jy (show _ = Value.int .i64 (((s.getD 0 0).toNat : Nat)) from congrArg (Value.int .i64) (wrap_i64 (by omega) (by have := Vg (s.getD 0 0); omega))) ?_; refine Ji rfl (nK hK34 ?_); refine sR fun _ hK35 => Ji rfl ?_
             refine LS 2 [1] rfl rfl ?_; refine LR rfl (J4 rfl hs rfl) ?_; refine JY rfl ?_; refine KS rfl rfl rfl ZW (VL (_) 9) (fun q hq => nomatch hq) (fun hok _ => ?_) (fun v hv => Qo rfl rfl (WB (by rw [Jy2 hnf ‹k ≠ 1› ‹k ≠ 2› ‹k ≠ 5› ‹k ≠ 6› ‹k = 8› hsne (by have := Z2.1 hv.1; omega)]) (by decide) hv)); refine nK hK35 (sQ fun _ hK36 => ?_)
             obtain ⟨x, hx⟩ : ∃ x, ins[(s.getD 0 0).toNat]? = some x := ⟨_, List.getElem?_eq_getElem (by have := Z1.mp hok; omega)⟩
             have hxm := List.mem_of_getElem? hx
             have ihx := ih x hxm (hsub x hxm) (s.drop 1) (by rw [List.length_drop]; omega)
             by_cases hgo : (KH x (s.drop 1)).2 = 0 ∧ Nonempty (VR (KH x (s.drop 1)).1)
             rotate_left
             have hlt : (s.getD 0 0).toNat < ins.length := (List.getElem?_eq_some_iff.1 hx).1
             have hbadx : ∀ {v : Value}, (KH x (s.drop 1)).2 ≠ 0 ∧ v = xh (KH x (s.drop 1)).2 → (KH (.mk k n p ins) s).2 ≠ 0 ∧ v = xh (KH (.mk k n p ins) s).2 := fun hv => by rw [g_8 hnf ‹k ≠ 1› ‹k ≠ 2› ‹k ≠ 5› ‹k ≠ 6› ‹k = 8› hsne hx, if_pos hv.1]; exact hv
             exact Jip [(0, .int .i64 ((s.getD 0 0).toNat : Int)), (1, .pointer (some ⟨r1, 2, none⟩)), (2, KP ins.length p), (3, .int .i64 ((s.getD 0 0).toNat : Int)), (4, .pointer (some ⟨plB p, vN p + (s.getD 0 0).toNat * 3, none⟩)), (5, x.val), (6, J3 s), (7, J3 (s.drop 1))] 8 (by kernel_rfl) rfl (by kernel_rfl) rfl (.cons rfl rfl (Jp rfl) <| .cons rfl rfl (Kz rfl rfl rfl) <| .cons rfl rfl (Jk rfl (kn 1 rfl) rfl rfl) <| .cons rfl rfl (Jp rfl) <| .cons rfl rfl (Jr (j := (s.getD 0 0).toNat) rfl hs rfl rfl rfl rfl hlt) <| .cons rfl rfl (KX (fun q hq => Or.inr hq) rfl hs hx rfl rfl) <| .cons rfl rfl (Jp rfl) <| .cons rfl rfl (VE (kl := some (.i64, 1)) (kh := none) (m := 1) (n := s.length) rfl rfl rfl rfl rfl rfl (by omega) (by omega) (show _ = s.drop 1 from by rw [List.take_length])) .nil) rfl rfl (yG rfl Jmj ihx (fun h y => hgo ⟨h, ⟨y⟩⟩) (fun q hq => Or.inr hq) (fun v hv => Qo rfl rfl (hbadx hv)))
             obtain ⟨hg0, ⟨x0⟩⟩ := hgo
             have hlt : (s.getD 0 0).toNat < ins.length := (List.getElem?_eq_some_iff.1 hx).1
             refine JS [VQ r1 (.mk k n p ins)] [(0, .pure), (1, .pure), (2, .pure), (3, .pure), (4, .pure), (5, .pure), (6, .pure), (7, .pure), (8, .grow (Qz x0 (fun y => y.x.val) (fun y => y.L))), (9, .turn)] 10 [0, 1, 2, 3, 4, 5, 6, 7, 8, 9] (by kernel_rfl) (by kernel_rfl) (fun q hq => List.mem_cons_of_mem _ hq) ?_; refine Jv (k := 0) rfl rfl rfl rfl rfl (fun _ hS => (Jp rfl)) ?_
             refine Jv (k := 1) rfl rfl rfl rfl rfl (fun _ hS => (JM rfl rfl rfl)) ?_; refine Jv (k := 2) rfl rfl rfl rfl rfl (fun _ hS => (Jk rfl (.inl (hS _ (Kw (n := 0) rfl))) rfl rfl)) ?_; refine Jv (k := 3) rfl rfl rfl rfl rfl (fun _ hS => (Jp rfl)) ?_; refine Jv (k := 4) rfl rfl rfl rfl rfl (fun _ _ => Jr (j := (s.getD 0 0).toNat) rfl hs rfl rfl rfl rfl hlt) ?_; refine Jv (k := 5) rfl rfl rfl rfl rfl (fun _ _ => KX (fun q hq => Or.inr hq) rfl hs hx rfl rfl) ?_; refine Jv (k := 6) rfl rfl rfl rfl rfl (fun _ hS => (Jp rfl)) ?_; refine Jv (k := 7) rfl rfl rfl rfl rfl (fun _ _ => VE (kl := some (.i64, 1)) (kh := none) (m := 1) (n := s.length) rfl rfl rfl rfl rfl rfl (by omega) (by omega) (show _ = s.drop 1 from by rw [List.take_length])) ?_; refine Qe (k := 8) rfl rfl rfl rfl rfl Jmj (ihx.toT (fun v hv => hv.1 hg0)) (fun q hq => Or.inr hq) fun y => ?_; obtain ⟨⟨ya, yb, yc, yd, ybits, ypb, yitems, ypi, ypick⟩, yL, yok, yer⟩ := y; refine Zs (k := 9) (n := 1) (sz := 7) (vs := [_]) (zs := [_, _, _, _, _, _, _]) (r := [_, _, _, _, _, _, _]) rfl rfl rfl rfl (fun q hq => List.mem_append_right _ (List.mem_cons_of_mem _ hq)) rfl rfl rfl rfl rfl rfl rfl (by rw [Kv]; exact rfl) rfl fun rv => ?_; refine KD ?_; refine KC (List.Perm.cons _ List.perm_append_comm) ?_; refine LR rfl (JK (r := [_, _, _, _, _, _, _]) rfl rfl) ?_
             refine LT 1 rfl rfl (nK hK36 ?_); refine Jb (Jn (Jd ?_)); refine Jt rfl rfl (.cons (J9 (vs := [_, _, _, _, _, _, _]) rfl (kn 1 rfl) rfl rfl) .nil) (fun w1 hs1 => ?_)
             (have e1 := g_8 hnf (s := s) ‹k ≠ 1› ‹k ≠ 2› ‹k ≠ 5› ‹k ≠ 6› ‹k = 8› hsne hx
              rw [if_neg (by rw [hg0]; decide)] at e1
              refine .inl ⟨by rw [e1], ⟨.mk 0 0 0 0 [] none [.mk ya yb yc yd ybits ypb yitems ypi ypick] (some (⟨rv, 0, none⟩, 1)) ((s.getD 0 0).toNat : Int), [(rv, _)] ++ yL, Zr (by simp) ⟨Nat.le_refl _, fun _ => ⟨rfl, _, _, _, List.mem_singleton_self _, rfl⟩⟩ (fun z hz => by rw [List.mem_singleton.1 hz]; exact yok) (by have := Vg (s.getD 0 0); unfold jx; omega), by rw [e1, KE, Xe, Xe, yer]; rfl⟩, rfl, hs1.weakL ((List.cons_sublist_cons).2 (.cons _ (.cons _ (List.Sublist.refl _))))⟩)
           · try simp only [ZZ] at h32
             refine Jg (Jj (hK8 ?_)); refine sR fun _ hK37 => ?_; refine LN rfl fun r3 => ?_; refine nK hK37 (sQ fun _ hK38 => ?_); refine sQ fun _ hK39 => ?_
             have hk3 : k = 3 ∨ k = 4 ∨ k = 7 := by have h1 : k ≠ 1 := ‹_›; have h2 : k ≠ 2 := ‹_›; have h5 : k ≠ 5 := ‹_›; have h6 : k ≠ 6 := ‹_›; have h8 : k ≠ 8 := ‹_›; omega
             have hmX := qf (s := s) hk8 ho hk3
             have hgr := (g_r (s := s) hnf ‹k ≠ 1› ‹k ≠ 2› ‹k ≠ 5› ‹k ≠ 6› ‹k ≠ 8›).trans (Jiw hmX)
             have hpp := Jpk (s := s) ht hc hk3 hl
             refine Ja (LS 2 [2] rfl rfl ?_); refine KS rfl rfl rfl (enters_of Tryz.func147 (by kernel_rfl) rfl) hpp (fun q hq => Or.inr hq) (fun hp0 x => ?_) (fun v hv => Qo rfl rfl (by rw [hgr, if_pos hv.1]; exact hv))
             obtain ⟨prow, hprow⟩ := x
             refine KC List.perm_append_comm ?_
             have hsg := Ql (e := 162) hprow (by decide)
             have hmm0 : (JT k n ins s).2 = 0 := Decidable.byContradiction fun hm => hm (by rw [← ZS hm]; exact hp0)
             have hPl : (Yz k n ins s).length ≤ 512 := by unfold Yz; rw [ZP, WS]; exact (qe hk8 ho hk3 hmm0).1
             refine LR rfl (J4 rfl hsg rfl) ?_; refine Ji rfl (nK hK39 ?_); refine Js ?_; rw [if_neg (by rw [hp0]; decide)] at hgr; refine JL (σ := Nat × List Vl × V5 × Jo) (fun q => q.1 = q.2.1.length ∧ q.1 ≤ (Yz k n ins s).length ∧ rowOk 7 q.1 (Qf q.2.1) q.2.2.1 ∧ (∀ x ∈ q.2.1, Vl.In q.2.2.2 x) ∧ Vs (((Yz k n ins s).take q.1).map (gq s)) = (q.2.1.map VH, 0)) (fun q => [(1, J3 s), (2, VG r1), (4, VG r2), (9, VG r3), (96, KP (Yz k n ins s).length (Vv prow)), (97, .int .i64 ((Yz k n ins s).length : Int)), (98, .int .i64 (q.1 : Int))]) (fun q => (r3, .cells #[.int .u64 0, .int .u64 0, .int .u64 0, .int .u64 0, .slice none 0 0, JD q.1 q.2.2.1, .int .i64 0] 81 (0, 0)) :: WW r2 v0L :: VQ r1 (.mk k n p ins) :: (JV 81 (Qf q.2.1) q.2.2.1 ++ (JV 162 (X9 (Yz k n ins s)) prow ++ q.2.2.2))) (fun _ _ _ => True) (fun q => (Yz k n ins s).length - q.1) (0, [], none, []) ⟨rfl, Nat.zero_le _, ⟨rfl, rfl⟩, fun x hx => (nomatch hx), rfl⟩ (.cons rfl (.cons rfl (.cons rfl (.cons rfl (.cons rfl (.cons rfl (.cons rfl .nil))))))) (by simp only [JV, List.nil_append, List.append_nil]; exact List.Sublist.refl _) (fun _ _ h => h) ?_; rintro ⟨i, vs, row, E⟩ ⟨hvl, him, hrow, hin, hrun⟩; simp only at hvl him hrow hin hrun; refine sR fun _ hK40 => JY rfl (nK hK40 ?_); refine sQ fun _ hK41 => ?_; refine Jc rfl (fun h42 => ?_) (fun h42 => ?_)
             · try simp only [ZZ] at h42
               refine Jg (hK41 ?_); refine sB fun _ hK43 => sQ fun _ hK44 => ?_
               obtain ⟨⟨x, f, f2⟩, hq⟩ : ∃ q, (Yz k n ins s)[i]? = some q := ⟨_, List.getElem?_eq_getElem (by omega)⟩
               obtain ⟨hmm, hft, htl⟩ := Jy3 hp0 (List.mem_of_getElem? hq)
               have hxm := Jpl (hmX hmm) hq
               simp only at hft htl hxm
               have ihx := ih x hxm (hsub x hxm) ((s.take f2).drop f) (by rw [List.length_drop, List.length_take]; omega)
               obtain ⟨xk, xn, xp, xi⟩ := x
               refine Ja ?_
               refine LR rfl (Jr (j := i) rfl hsg rfl rfl rfl (by first | rfl | omega) (by omega)) ?_; refine LR rfl (Xl (vs := prC (.mk xk xn xp xi, f, f2)) (fun q hq => Or.inl (List.mem_cons_of_mem _ (List.mem_cons_of_mem _ (List.mem_cons_of_mem _ (List.mem_append_right _ (List.mem_append_left _ hq)))))) rfl hsg (by omega) rfl rfl (XL ZQ hq) (ZQ _)) ?_; refine LN rfl fun r4 => ?_
               refine LT 0 rfl rfl (nK hK44 ?_)
               by_cases hgo : (KH (.mk xk xn xp xi) ((s.take f2).drop f)).2 = 0 ∧ Nonempty (VR (KH (.mk xk xn xp xi) ((s.take f2).drop f)).1)
               rotate_left
               have hbadx : ∀ {v : Value}, (KH (.mk xk xn xp xi) ((s.take f2).drop f)).2 ≠ 0 ∧ v = xh (KH (.mk xk xn xp xi) ((s.take f2).drop f)).2 → (KH (.mk k n p ins) s).2 ≠ 0 ∧ v = xh (KH (.mk k n p ins) s).2 := fun hv => by
                 have e1 : (Yz k n ins s).map (gq s) = ((Yz k n ins s).take i).map (gq s) ++ gq s (.mk xk xn xp xi, f, f2) :: ((Yz k n ins s).drop (i + 1)).map (gq s) := by
                   rw [← List.map_cons, ← KO hq, ← List.map_append, List.take_append_drop]
                 have e2 := Jeg (r := ((Yz k n ins s).drop (i + 1)).map (gq s)) (f := KH (.mk xk xn xp xi)) (s := (s.take f2).drop f) hrun hv.1
                 have e3 : (Vs ((Yz k n ins s).map (gq s))).2 = (KH (.mk xk xn xp xi) ((s.take f2).drop f)).2 := by rw [e1]; exact e2
                 rw [hgr, if_pos (by rw [e3]; exact hv.1)]; exact ⟨by rw [e3]; exact hv.1, by rw [e3]; exact hv.2⟩
               exact Jip [(0, .pointer (some ⟨r3, 5, none⟩)), (1, JD i row), (2, .pointer (some ⟨r4, 0, none⟩)), (3, Ty.val (.mk xk xn xp xi)), (4, J3 s), (5, .pointer (some ⟨r4, 3, none⟩)), (6, .int .i64 (f : Int)), (7, .pointer (some ⟨r4, 4, none⟩)), (8, .int .i64 (f2 : Int)), (9, J3 ((s.take f2).drop f))] 10 (by kernel_rfl) rfl (by kernel_rfl) rfl (.cons rfl rfl (Kz rfl rfl rfl) <| .cons rfl rfl (Jk rfl (kn 1 rfl) rfl rfl) <| .cons rfl rfl (Kz rfl rfl rfl) <| .cons rfl rfl (Jw (vs := [_, _, _]) rfl (kn 0 rfl) rfl rfl rfl rfl) <| .cons rfl rfl (Jp rfl) <| .cons rfl rfl (Kz rfl rfl rfl) <| .cons rfl rfl (Jk rfl (kn 0 rfl) rfl rfl) <| .cons rfl rfl (Kz rfl rfl rfl) <| .cons rfl rfl (Jk rfl (kn 0 rfl) rfl rfl) <| .cons rfl rfl (VE (kl := some (.i64, (f : Int))) (kh := some (.i64, (f2 : Int))) (m := f) (n := f2) rfl rfl rfl rfl rfl rfl hft htl rfl) .nil) rfl rfl (yG rfl Jmj ihx (fun h y => hgo ⟨h, ⟨y⟩⟩) (fun q hq => Or.inr hq) (fun v hv => Qo rfl rfl (hbadx hv)))
               obtain ⟨hg0, ⟨x0⟩⟩ := hgo
               refine JS [(r3, .cells #[.int .u64 0, .int .u64 0, .int .u64 0, .int .u64 0, .slice none 0 0, JD i row, .int .i64 0] 81 (0, 0)), (r4, .cells (prC (.mk xk xn xp xi, f, f2)).toArray 162 (0, 0))] [(0, .pure), (1, .pure), (2, .pure), (3, .pure), (4, .pure), (5, .pure), (6, .pure), (7, .pure), (8, .pure), (9, .pure), (10, .grow (Qz x0 (fun y => y.x.val) (fun y => y.L))), (11, .turn)] 12 [0, 1, 2, 3, 4, 5, 6, 7, 8, 9, 10, 11] (by kernel_rfl) (by kernel_rfl) (fun q hq => by rcases List.mem_cons.1 hq with rfl | hq; exact List.mem_cons_of_mem _ List.mem_cons_self; rw [List.mem_singleton.1 hq]; exact List.mem_cons_self) ?_
               refine Jv (k := 0) rfl rfl rfl rfl rfl (fun _ hS => (JM rfl rfl rfl)) ?_; refine Jv (k := 1) rfl rfl rfl rfl rfl (fun _ hS => (Jk rfl (.inl (hS _ (Kw (n := 0) rfl))) rfl rfl)) ?_
               refine Jv (k := 2) rfl rfl rfl rfl rfl (fun _ hS => (JM rfl rfl rfl)) ?_; refine Jv (k := 3) rfl rfl rfl rfl rfl (fun _ hS => (Jw (vs := [_, _, _]) rfl (.inl (hS _ (Kw (n := 1) rfl))) rfl rfl rfl rfl)) ?_; refine Jv (k := 4) rfl rfl rfl rfl rfl (fun _ hS => (Jp rfl)) ?_
               refine Jv (k := 5) rfl rfl rfl rfl rfl (fun _ hS => (JM rfl rfl rfl)) ?_; refine Jv (k := 6) rfl rfl rfl rfl rfl (fun _ hS => (Jk rfl (.inl (hS _ (Kw (n := 1) rfl))) rfl rfl)) ?_
               refine Jv (k := 7) rfl rfl rfl rfl rfl (fun _ hS => (JM rfl rfl rfl)) ?_; refine Jv (k := 8) rfl rfl rfl rfl rfl (fun _ hS => (Jk rfl (.inl (hS _ (Kw (n := 1) rfl))) rfl rfl)) ?_; refine Jv (k := 9) rfl rfl rfl rfl rfl (fun _ _ => VE (kl := some (.i64, (f : Int))) (kh := some (.i64, (f2 : Int))) (m := f) (n := f2) rfl rfl rfl rfl rfl rfl hft htl rfl) ?_; refine Qe (k := 10) rfl rfl rfl rfl rfl Jmj (ihx.toT (fun v hv => hv.1 hg0)) (fun q hq => Or.inr hq) fun y => ?_; obtain ⟨⟨ya, yb, yc, yd, ybits, ypb, yitems, ypi, ypick⟩, yL, yok, yer⟩ := y
               refine Zs (k := 11) (n := 1) (sz := 7) (vs := [_]) (zs := [_, _, _, _, _, _, _]) (r := [_, _, _, _, _, _, _]) rfl rfl rfl rfl (fun q hq => List.mem_append_right _ (by rcases List.mem_cons.1 hq with rfl | hq; exact List.mem_cons_of_mem _ List.mem_cons_self; rw [List.mem_singleton.1 hq]; exact List.mem_cons_self)) rfl rfl rfl rfl rfl rfl rfl (by rw [Kv]; exact rfl) rfl fun rv => ?_; refine KD ?_; refine KC (Jw6 ..) ?_; refine Km (L0 := _ :: _ :: _ :: _ :: _ :: (yL ++ (JV 162 (X9 (Yz k n ins s)) prow ++ E))) (xs := Qf vs) (row := row) (n := i) (sz := 7) (b := 88) (news := [_, _, _, _, _, _, _]) (List.Perm.refl _) rfl rfl rfl rfl (kn 0 rfl) rfl rfl rfl rfl rfl (by decide) rfl rfl rfl (by decide) hrow (by omega) (by omega) fun ra cap sp hra => ?_
               refine LS 1 [] rfl rfl ?_; refine Kx (k := 3) (cs' := #[.int .u64 0, .int .u64 0, .int .u64 0, .int .u64 0, .slice none 0 0, JD (i + 1) (some (ra, cap, sp)), .int .i64 0]) rfl rfl rfl rfl rfl rfl rfl rfl rfl rfl ?_; refine Jf (Jj (hK43 ?_)); refine Ja ?_
               refine JY rfl ?_; refine Jy (show _ = Value.int .i64 ((i + 1 : Nat) : Int) from by rw [wrap_i64 (by omega) (by omega)]; congr 1 <;> omega) ?_; refine Ji rfl (Jf (J8 ?_))
               have hsn : ((Yz k n ins s).take (i + 1)).map (gq s) = ((Yz k n ins s).take i).map (gq s) ++ [gq s (.mk xk xn xp xi, f, f2)] := by rw [Ks hq, List.map_append]; rfl
               have hgy : KH (.mk xk xn xp xi) ((s.take f2).drop f) = (VH (.mk ya yb yc yd ybits ypb yitems ypi ypick), 0) := Prod.ext yer.symm hg0
               have hvc : Qf vs ++ Vl.cells (.mk ya yb yc yd ybits ypb yitems ypi ypick) = Qf (vs ++ [.mk ya yb yc yd ybits ypb yitems ypi ypick]) := by unfold Qf; rw [List.flatMap_append]; simp
               refine XA (Jw7 ..) ?_
               exact J2 (i + 1, vs ++ [.mk ya yb yc yd ybits ypb yitems ypi ypick], some (ra, cap, sp), yL ++ E) ⟨by simp only [List.length_append, List.length_singleton]; omega, by simp only; omega, by simp only; rw [← hvc]; exact hra, fun z hz => by rcases List.mem_append.1 hz with hz | hz; exact (hin z hz).mono (fun q hq => List.mem_append_right _ hq); rw [List.mem_singleton.1 hz]; exact yok.mono (fun q hq => List.mem_append_left _ hq), by simp only; rw [hsn, List.map_append]; exact xl hrun hgy⟩ (by simp only; omega) (.cons rfl (.cons rfl (.cons rfl (.cons rfl (.cons rfl (.cons rfl (.cons rfl .nil))))))) (by simp only; rw [← hvc]; exact .cons _ (.cons _ (List.Sublist.refl _))) (fun _ _ h => h)
             · try simp only [ZZ] at h42
               refine JJ (Jm ?_); refine Jm (J0 (hK38 ?_)); refine sQ fun _ hK45 => ?_
               have honeV : ([.int .u64 0, .int .u64 0, .int .u64 0, .int .u64 0, .slice none 0 0, JD i row, .int .i64 0] : List Value).all QW = true := by cases row <;> rfl
               refine Ja (LR rfl (Jq (xs := [.int .u64 0, .int .u64 0, .int .u64 0, .int .u64 0, .slice none 0 0, JD i row, .int .i64 0]) (n := 7) rfl (kn 0 rfl) rfl rfl rfl) (Jz (k := 1) (n := 7) (ys := [.int .u64 0, .int .u64 0, .int .u64 0, .int .u64 0, .slice none 0 0, JD i row, .int .i64 0]) rfl rfl rfl rfl rfl rfl rfl honeV rfl ?_)); refine nK hK45 (Jb ?_); refine Jt rfl rfl (.cons (J9 (vs := [_, _, _, _, _, _, _]) rfl (kn 1 rfl) rfl rfl) .nil) (fun w1 hs1 => ?_)
               (have e1 := hgr
                have hiM : i = (Yz k n ins s).length := by omega
                rw [hiM, List.take_length] at hrun; rw [hrun, if_neg (by simp)] at e1; rw [hiM] at hvl hrow; rw [hvl] at hrow
                have hvr : JD i row = KP vs.length (Vv row) := by rw [hiM, hvl]; exact (Wm _ _ (fun h => by rw [h] at hrow; exact hrow.1)).symm
                refine .inl ⟨by rw [e1], ⟨.mk 0 0 0 0 [] none vs (Vv row) 0, JV 81 (Qf vs) row ++ E, Zr (by omega) (Ql hrow (by decide)) hin i0, by rw [e1, KE, QZ]; rfl⟩, congrArg (fun z => Ending.returned (Value.agg #[.int .u64 0, .int .u64 0, .int .u64 0, .int .u64 0, .slice none 0 0, z, .int .i64 0])) hvr, hs1.weakL (.cons _ (.cons _ (.cons _ ((List.Sublist.refl _).append (List.sublist_append_right _ _)))))⟩)
   skip)
mutual
def Xn : Ty → Ty
  | .mk k n _ ins => .mk k n none (VM ins)
def VM : List Ty → List Ty
  | [] => []
  | x :: xs => Xn x :: VM xs
end
theorem yH : ∀ l : List Ty, VM l = l.map Xn
  | [] => by rw [VM]; rfl
  | x :: xs => by rw [VM, yH xs]; rfl
theorem Zt (l : List Ty) : (VM l).length = l.length := by rw [yH, List.length_map]
structure TR (t : Ty) : Type where
  x : Ty
  L : Jo
  ok : x.In L
  er : Xn x = t
def byT : Ty := .mk 1 1 none []
def Wt (k n : Int) : Ty := .mk k n none [byT]
def qj : Ty := .mk 7 0 none [Wt 3 32, Wt 3 32]
def acT : Ty := .mk 7 0 none [Wt 3 20, .mk 1 8 none [], .mk 1 32 none [], Wt 4 512, .mk 4 16 none [qj]]
def Qg : Ty := .mk 4 32 none [acT]
theorem Jpm {k n : Int} (hk : jx k) (hn : jx n) : PureT (α := Nat) Tryz.prog 78 [.int .i64 k, .int .i64 n].toArray (fun r => .agg #[.int .i64 k, .int .i64 n, .slice (some ⟨r, 0, none⟩) 1 1]) [] (fun r => [(r, .cells #[.int .i64 1, .int .i64 1, .slice none 0 0] 76 (0, 0))]) [] := by
  refine JI Tryz.func78 rfl rfl fun w => ?_; refine sR fun _ hK1 => ?_; refine LN rfl fun r1 => ?_; refine nK hK1 (sR fun _ hK2 => ?_); refine LS 2 [] rfl rfl ?_; refine LR rfl (JK (r := [_, _, _]) rfl rfl) ?_; refine Ki (vs := [_]) (zs := [_, _, _]) (r := [_, _, _]) rfl rfl rfl rfl rfl rfl rfl rfl rfl (by rw [Kv]; exact rfl) rfl fun r2 => ?_; refine LR rfl (JK (r := [_, _, _]) rfl rfl) ?_
  refine LT 1 rfl rfl (nK hK2 ?_); refine Jb ?_; refine Jt rfl rfl (.cons (J9 (vs := [_, _, _]) rfl (kn 1 rfl) rfl rfl) .nil) (fun w1 hs1 => ?_); exact ⟨r2, rfl, hs1.weakL ((List.cons_sublist_cons).2 (List.nil_sublist _))⟩
abbrev Jku (e : Nat) : Obj := .cells #[.int .i64 1, .int .i64 1, .slice none 0 0] e (0, 0)
def Jkv (k n : Int) (x : Nat) : Ty := .mk k n (some (⟨x, 0, none⟩, 1)) [byT]
def Jy5 (x y r : Nat) : Ty := .mk 7 0 (some (⟨r, 0, none⟩, 2)) [Jkv 3 32 x, Jkv 3 32 y]
def acX (x y x2 x3 r s a : Nat) : Ty := .mk 7 0 (some (⟨a, 0, none⟩, 5)) [Jkv 3 20 x2, .mk 1 8 none [], .mk 1 32 none [], Jkv 4 512 x3, .mk 4 16 (some (⟨s, 0, none⟩, 1)) [Jy5 x y r]]
def Jpn (x y x2 x3 r s a z : Nat) : Ty := .mk 4 32 (some (⟨z, 0, none⟩, 1)) [acX x y x2 x3 r s a]
theorem Jeh {R : Jo} {k n : Int} {ins : List Ty} {r m e : Nat} {all : Array Value} (hk : jx k) (hn : jx n) (hm : (r, Obj.cells all e (0, 0)) ∈ R) (ha : all.toList = xP ins) (hl : ins.length = m) (hl2 : m ≤ 100) (hi : ∀ x ∈ ins, x.In R) : Ty.In R (.mk k n (some (⟨r, 0, none⟩, m)) ins) :=
  .mk hk hn (by omega) ⟨Nat.le_of_eq hl, fun _ => ⟨rfl, all, e, (0, 0), hm, by rw [List.drop_zero, ha, List.take_length]⟩⟩ hi
theorem Jbd {R : Jo} {k n : Int} (hk : jx k) (hn : jx n) : Ty.In R (.mk k n none []) := .mk hk hn (by decide) rfl (fun x hx => nomatch hx)
theorem wd {R : Jo} {k n : Int} {x e : Nat} (hk : jx k) (hn : jx n) (h : (x, Jku e) ∈ R) : (Jkv k n x).In R :=
  Jeh hk hn h rfl rfl (by decide) fun y hy => by rw [List.mem_singleton.1 hy]; exact Jbd (by unfold jx; omega) (by unfold jx; omega)
theorem Yt {n : Int} (h0 : 0 ≤ n) (h : n ≤ 1000) : jx n := by unfold jx; omega
theorem Jix {R : Jo} {x y x2 x3 r s a z e : Nat} (h1 : (x, Jku e) ∈ R) (h2 : (y, Jku e) ∈ R) (h3 : (x2, Jku e) ∈ R) (h4 : (x3, Jku e) ∈ R) (h5 : (r, Obj.cells #[.int .i64 3, .int .i64 32, .slice (some ⟨x, 0, none⟩) 1 1, .int .i64 3, .int .i64 32, .slice (some ⟨y, 0, none⟩) 1 1] e (0, 0)) ∈ R)
    (h6 : (s, Obj.cells #[.int .i64 7, .int .i64 0, .slice (some ⟨r, 0, none⟩) 2 2] e (0, 0)) ∈ R)
    (h7 : (a, Obj.cells #[.int .i64 3, .int .i64 20, .slice (some ⟨x2, 0, none⟩) 1 1, .int .i64 1, .int .i64 8, .slice none 0 0, .int .i64 1, .int .i64 32, .slice none 0 0, .int .i64 4, .int .i64 512, .slice (some ⟨x3, 0, none⟩) 1 1, .int .i64 4, .int .i64 16, .slice (some ⟨s, 0, none⟩) 1 1] e (0, 0)) ∈ R)
    (h8 : (z, Obj.cells #[.int .i64 7, .int .i64 0, .slice (some ⟨a, 0, none⟩) 5 5] e (0, 0)) ∈ R) : (Jpn x y x2 x3 r s a z).In R := by
  refine Jeh (Yt (by decide) (by decide)) (Yt (by decide) (by decide)) h8 rfl rfl (by decide) fun q hq => ?_; rw [List.mem_singleton.1 hq]; refine Jeh (Yt (by decide) (by decide)) (Yt (by decide) (by decide)) h7 rfl rfl (by decide) fun q hq => ?_; simp only [List.mem_cons, List.not_mem_nil, or_false] at hq
  rcases hq with rfl | rfl | rfl | rfl | rfl
  · exact wd (Yt (by decide) (by decide)) (Yt (by decide) (by decide)) h3
  · exact Jbd (Yt (by decide) (by decide)) (Yt (by decide) (by decide))
  · exact Jbd (Yt (by decide) (by decide)) (Yt (by decide) (by decide))
  · exact wd (Yt (by decide) (by decide)) (Yt (by decide) (by decide)) h4
  · refine Jeh (Yt (by decide) (by decide)) (Yt (by decide) (by decide)) h6 rfl rfl (by decide) fun q hq => ?_
    rw [List.mem_singleton.1 hq]; refine Jeh (Yt (by decide) (by decide)) (Yt (by decide) (by decide)) h5 rfl rfl (by decide) fun q hq => ?_; simp only [List.mem_cons, List.not_mem_nil, or_false] at hq
    rcases hq with rfl | rfl
    · exact wd (Yt (by decide) (by decide)) (Yt (by decide) (by decide)) h1
    · exact wd (Yt (by decide) (by decide)) (Yt (by decide) (by decide)) h2
theorem Jiy (x y x2 x3 r s a z : Nat) : Xn (Jpn x y x2 x3 r s a z) = Qg := by
  simp only [Jpn, acX, Jy5, Jkv, byT, Xn, VM, Qg, acT, qj, Wt]
theorem Jbe : PureT (α := TR Qg) Tryz.prog 53 #[] (fun y => y.x.val) [] (fun y => y.L) [] := by
  refine JI Tryz.func53 rfl rfl fun w => ?_; refine sR fun _ hK1 => ?_; refine LN rfl fun r1 => ?_; refine nK hK1 (sR fun _ hK2 => ?_); refine Qd rfl rfl rfl Jwa (Jpm (by unfold jx; omega) (by unfold jx; omega)) (fun q hq => nomatch hq) fun x1 => ?_; refine LN rfl fun r2 => ?_
  refine LT 0 rfl rfl (nK hK2 ?_); refine sR fun _ hK3 => LS 2 [0, 0] rfl rfl ?_; refine Ki (vs := [_, _]) (zs := [_, _, _, _, _, _]) (r := [_, _, _, _, _, _]) rfl rfl rfl rfl rfl rfl rfl rfl rfl (by rw [Kv]; exact rfl) rfl fun r3 => ?_; refine LR rfl (JK (r := [_, _, _]) rfl rfl) ?_; refine LN rfl fun r4 => ?_
  refine LT 0 rfl rfl (nK hK3 ?_); refine sQ fun _ hK4 => ?_
  refine JS [(r4, .cells #[.int .i64 7, .int .i64 0, .slice (some ⟨r3, 0, none⟩) 2 2] 76 (0, 0))] [(0, .grow (Qz 0 (fun r => .agg #[.int .i64 3, .int .i64 20, .slice (some ⟨r, 0, none⟩) 1 1]) (fun r => [(r, .cells #[.int .i64 1, .int .i64 1, .slice none 0 0] 76 (0, 0))]))), (1, .pure), (2, .pure), (3, .grow (Qz 0 (fun r => .agg #[.int .i64 4, .int .i64 512, .slice (some ⟨r, 0, none⟩) 1 1]) (fun r => [(r, .cells #[.int .i64 1, .int .i64 1, .slice none 0 0] 76 (0, 0))]))), (4, .pure), (5, .grow (Wj (slV 1) (.cells #[.int .i64 7, .int .i64 0, .slice (some ⟨r3, 0, none⟩) 2 2] 76 (0, 0)))), (6, .pure), (7, .dep [9, 10, 11, 12, 15] (Jcm 5 76)), (8, .pure), (9, .grow (Wj xH (.cells #[.int .i64 0, .int .i64 0, .slice none 0 0] 76 (0, 0))))] 10 [1, 2, 4, 5, 6, 0, 3, 7, 8, 9] (by kernel_rfl) (by kernel_rfl) (by first | exact (fun _ h => absurd h List.not_mem_nil) | simp [SubS] | (intro p hp; simp [hp])) ?_; refine Jv (k := 1) rfl rfl rfl rfl rfl (fun _ hS => (JK (r := [_, _, _]) rfl rfl)) ?_; refine Jv (k := 2) rfl rfl rfl rfl rfl (fun _ hS => (JK (r := [_, _, _]) rfl rfl)) ?_; refine Jv (k := 4) rfl rfl rfl rfl rfl (fun _ hS => (Jw (vs := [_, _, _]) rfl (.inl (hS _ (Kw (n := 0) rfl))) rfl rfl rfl rfl)) ?_; refine VV (k := 5) (n := 1) (sz := 3) (vs := [_]) (zs := [_, _, _]) (r := [.int .i64 7, .int .i64 0, .slice (some ⟨r3, 0, none⟩) 2 2]) rfl rfl rfl rfl rfl rfl rfl rfl rfl rfl rfl (by rw [Kv]; exact rfl) rfl fun s1 => ?_; refine Jv (k := 6) rfl rfl rfl rfl rfl (fun _ hS => (JK (r := [_, _, _]) rfl rfl)) ?_; refine Qe (k := 0) rfl rfl rfl rfl rfl Jwa (Jpm (by unfold jx; omega) (by unfold jx; omega)) (fun q hq => nomatch hq) fun x2 => ?_; refine Qe (k := 3) rfl rfl rfl rfl rfl Jwa (Jpm (by unfold jx; omega) (by unfold jx; omega)) (fun q hq => nomatch hq) fun x3 => ?_; refine V8 (k := 7) (dv := [_, _, _, _, _]) (n := 5) (sz := 3) (vs := [_, _, _, _, _]) (zs := [_, _, _, _, _, _, _, _, _, _, _, _, _, _, _]) (r := [.int .i64 3, .int .i64 20, .slice (some ⟨x2, 0, none⟩) 1 1, .int .i64 1, .int .i64 8, .slice none 0 0, .int .i64 1, .int .i64 32, .slice none 0 0, .int .i64 4, .int .i64 512, .slice (some ⟨x3, 0, none⟩) 1 1, .int .i64 4, .int .i64 16, .slice (some ⟨s1, 0, none⟩) 1 1]) rfl rfl rfl rfl rfl rfl rfl rfl rfl rfl rfl rfl rfl (by rw [Kv]; exact rfl) rfl fun s2 => ?_; refine Jv (k := 8) rfl rfl rfl rfl rfl (fun _ hS => (JK (r := [_, _, _]) rfl rfl)) ?_; refine Yi (k := 9) (cs := #[_, _, _]) rfl rfl rfl rfl rfl rfl fun r5 => ?_; refine KD ?_
  refine LT 0 rfl rfl (nK hK4 ?_); refine sR fun _ hK5 => ?_; refine LR rfl (Jw (vs := [_, _, _]) rfl (kn 0 rfl) rfl rfl rfl rfl) ?_; refine Ki (vs := [_]) (zs := [_, _, _]) (r := [_, _, _]) rfl rfl rfl rfl rfl rfl rfl rfl rfl (by rw [Kv]; exact rfl) rfl fun r6 => ?_; refine LR rfl (JK (r := [_, _, _]) rfl rfl) ?_
  refine LT 10 rfl rfl (nK hK5 ?_); refine Jb ?_; refine Jt rfl rfl (.cons (J9 (vs := [_, _, _]) rfl (kn 10 rfl) rfl rfl) .nil) (fun w1 hs1 => ?_); exact ⟨⟨Jpn x1 x1 x2 x3 r3 s1 s2 r6, _, Jix (e := 76) (by simp) (by simp) (by simp) (by simp) (by simp) (by simp) (by simp) (by simp), Jiy ..⟩, rfl, hs1⟩
def jd (b : UInt8) : Vl := .mk b.toNat 0 0 0 [] none [] none 0
def Zu (s : BS) : Vl := JX (s.map jd) 0
theorem Jy6 (b : UInt8) : (jd b).cells = [uV b.toNat, uV 0, uV 0, uV 0, .slice none 0 0, .slice none 0 0, .int .i64 0] := rfl
theorem Jvh (b : UInt8) : Vl.In [] (jd b) := .mk (by have := Vg b; unfold XD; omega) u0 u0 u0 (by decide) rfl (by decide) rfl i0 (fun x hx => nomatch hx)
theorem Jvi (s : BS) (p : Pl) : VH (.mk 0 0 0 0 [] none (s.map jd) p 0) = Zu s := by
  rw [KE, QZ, List.map_map, show (VH ∘ jd) = jd from funext fun b => by show VH (jd b) = jd b; unfold jd; rw [KE, Xe]]; rfl
theorem Jtv {s : BS} {i : Nat} (h : i < s.length) : Qf ((s.take i).map jd) ++ [uV (s.getD i 0).toNat, uV 0, uV 0, uV 0, .slice none 0 0, .slice none 0 0, .int .i64 0] = Qf ((s.take (i + 1)).map jd) := by
  have h1 : s[i]? = some (s.getD i 0) := by rw [List.getD_eq_getElem?_getD, List.getElem?_eq_getElem h]; rfl
  rw [Ks h1, List.map_append]
  unfold Qf
  rw [List.flatMap_append]; simp [Jy6]
theorem Jbf {s : BS} (hl : s.length ≤ 100000) : PureT (α := VR (Zu s)) Tryz.prog 79 [J3 s].toArray (fun y => y.x.val) [] (fun y => y.L) [] := by
  refine JI Tryz.func79 rfl rfl fun w => ?_; refine sR fun _ hK1 => ?_; refine LN rfl fun r1 => ?_; refine nK hK1 (sR fun _ hK2 => ?_); refine LN rfl fun r2 => ?_; refine nK hK2 (sQ fun _ hK3 => ?_); refine sR fun _ hK4 => Ji rfl (LR rfl (Ke rfl rfl) (Ji rfl ?_)); refine nK hK4 ?_; refine Js (JL (σ := Nat × V5) (fun q => q.1 ≤ s.length ∧ rowOk 7 q.1 (Qf ((s.take q.1).map jd)) q.2) (fun q => [(0, J3 s), (2, VG r1), (3, VG r2), (6, .int .i64 (s.length : Int)), (7, .int .i64 (q.1 : Int))]) (fun q => (r2, .cells #[.int .u64 0, .int .u64 0, .int .u64 0, .int .u64 0, .slice none 0 0, JD q.1 q.2, .int .i64 0] 81 (0, 0)) :: (r1, .cells #[.int .u64 0, .int .u64 0, .int .u64 0, .int .u64 0, .slice none 0 0, .slice none 0 0, .int .i64 0] 81 (0, 0)) :: JV 81 (Qf ((s.take q.1).map jd)) q.2) (fun _ _ _ => True) (fun q => s.length - q.1) (0, none) ⟨Nat.zero_le _, rfl, rfl⟩ (.cons rfl (.cons rfl (.cons rfl (.cons rfl (.cons rfl .nil))))) (List.Sublist.refl _) (fun _ _ h => h) ?_); rintro ⟨i, row⟩ ⟨hi1, hrow⟩; simp only at hi1 hrow; change HC _ _ [(0, J3 s), (2, VG r1), (3, VG r2), (6, .int .i64 (s.length : Int)), (7, .int .i64 (i : Int))] ((r2, .cells #[.int .u64 0, .int .u64 0, .int .u64 0, .int .u64 0, .slice none 0 0, JD i row, .int .i64 0] 81 (0, 0)) :: (r1, .cells #[.int .u64 0, .int .u64 0, .int .u64 0, .int .u64 0, .slice none 0 0, .slice none 0 0, .int .i64 0] 81 (0, 0)) :: JV 81 (Qf ((s.take i).map jd)) row) _ _ _; refine sR fun _ hK5 => JY rfl (nK hK5 ?_); refine sQ fun _ hK6 => ?_; refine Jc rfl (fun h7 => ?_) (fun h7 => ?_)
  · try simp only [ZZ] at h7
    refine Jg (hK6 ?_); refine sB fun _ hK8 => sR fun _ hK9 => ?_; refine LS 2 [] rfl rfl (nK hK9 ?_)
    refine JS [(r2, .cells #[.int .u64 0, .int .u64 0, .int .u64 0, .int .u64 0, .slice none 0 0, JD i row, .int .i64 0] 81 (0, 0))] [(0, .pure), (1, .pure), (2, .pure), (3, .pure), (4, .pure), (5, .pure), (6, .pure), (7, .pure), (8, .grow (Wj (slV 1) (.cells #[uV (s.getD i 0).toNat, uV 0, uV 0, uV 0, .slice none 0 0, .slice none 0 0, .int .i64 0] 81 (0, 0))))] 9 [0, 1, 2, 3, 4, 5, 6, 7, 8] (by kernel_rfl) (by kernel_rfl) (by first | exact (fun _ h => absurd h List.not_mem_nil) | simp [SubS] | (intro p hp; simp [hp])) ?_
    refine Jv (k := 0) rfl rfl rfl rfl rfl (fun _ hS => (JM rfl rfl rfl)) ?_; refine Jv (k := 1) rfl rfl rfl rfl rfl (fun _ hS => (Jk rfl (.inl (hS _ (Kw (n := 0) rfl))) rfl rfl)) ?_; refine Jv (k := 2) rfl rfl rfl rfl rfl (fun _ hS => (Jp rfl)) ?_; refine Jv (k := 3) rfl rfl rfl rfl rfl (fun _ hS => (Jp rfl)) ?_; refine Jv (k := 4) rfl rfl rfl rfl rfl (fun _ _ => W6 (j := i) rfl rfl rfl rfl (by omega) rfl) ?_; refine Jv (k := 5) rfl rfl rfl rfl rfl (fun _ _ => (JA rfl rfl rfl)) ?_; refine WK (show _ = uV (s.getD i 0).toNat from congrArg (Value.int .u64) (wrap_u64 (by omega) (by have := Vg (s.getD i 0); omega))) ?_; refine WL (k := 6) rfl rfl rfl rfl rfl Jmi (Yh _) ?_; refine Jv (k := 7) rfl rfl rfl rfl rfl (fun _ hS => (JK (r := [_, _, _, _, _, _, _]) rfl rfl)) ?_; refine VV (k := 8) (n := 1) (sz := 7) (vs := [_]) (zs := [_, _, _, _, _, _, _]) (r := [uV (s.getD i 0).toNat, uV 0, uV 0, uV 0, .slice none 0 0, .slice none 0 0, .int .i64 0]) rfl rfl rfl rfl rfl rfl rfl rfl rfl rfl rfl (by rw [Kv]; exact rfl) rfl fun rb => ?_; refine KD ?_; refine Km (L0 := [_, _, _]) (xs := Qf ((s.take i).map jd)) (row := row) (n := i) (sz := 7) (b := 88) (news := [_, _, _, _, _, _, _]) (List.perm_append_comm (l₁ := [_, _, _])) rfl rfl rfl rfl (kn 0 rfl) rfl rfl rfl rfl rfl (by decide) rfl rfl rfl (by decide) hrow (by omega) (by omega) fun ra cap sp hra => ?_
    refine LS 1 [] rfl rfl ?_; refine Kx (k := 2) (cs' := #[.int .u64 0, .int .u64 0, .int .u64 0, .int .u64 0, .slice none 0 0, JD (i + 1) (some (ra, cap, sp)), .int .i64 0]) rfl rfl rfl rfl rfl rfl rfl rfl rfl rfl ?_; refine Jf (Jj (hK8 ?_)); refine Ja ?_
    refine JY rfl ?_; refine Jy (show _ = Value.int .i64 ((i + 1 : Nat) : Int) from by rw [wrap_i64 (by omega) (by omega)]; congr 1 <;> omega) ?_; refine Ji rfl (Jf (J8 ?_)); rw [Jtv (by omega)] at hra ⊢; refine Vo [2, 3, 0] (L' := [_, _, _]) (by decide) rfl ?_; exact J2 (i + 1, some (ra, cap, sp)) ⟨by simp only; omega, hra⟩ (by simp only; omega) (.cons rfl (.cons rfl (.cons rfl (.cons rfl (.cons rfl .nil))))) (List.Sublist.refl _) (fun _ _ h => h)
  · try simp only [ZZ] at h7
    refine JJ (Jm ?_); refine Jm (J0 (hK3 ?_)); refine sQ fun _ hK10 => ?_
    have honeV : ([.int .u64 0, .int .u64 0, .int .u64 0, .int .u64 0, .slice none 0 0, JD i row, .int .i64 0] : List Value).all QW = true := by cases row <;> rfl
    refine Ja (LR rfl (Jq (xs := [.int .u64 0, .int .u64 0, .int .u64 0, .int .u64 0, .slice none 0 0, JD i row, .int .i64 0]) (n := 7) rfl (kn 0 rfl) rfl rfl rfl) (Jz (k := 1) (n := 7) (ys := [.int .u64 0, .int .u64 0, .int .u64 0, .int .u64 0, .slice none 0 0, JD i row, .int .i64 0]) rfl rfl rfl rfl rfl rfl rfl honeV rfl ?_)); refine nK hK10 (Jb ?_); refine Jt rfl rfl (.cons (J9 (vs := [_, _, _, _, _, _, _]) rfl (kn 1 rfl) rfl rfl) .nil) (fun w1 hs1 => ?_)
    have hiM : i = s.length := by omega
    rw [hiM, List.take_length] at hrow hs1
    have hrow2 : rowOk 7 (s.map jd).length (Qf (s.map jd)) row := by rw [List.length_map]; exact hrow
    have hvr : JD i row = KP (s.map jd).length (Vv row) := by rw [hiM, List.length_map]; exact (Wm _ _ (fun h => by rw [h] at hrow; exact hrow.1)).symm
    exact ⟨⟨.mk 0 0 0 0 [] none (s.map jd) (Vv row) 0, JV 81 (Qf (s.map jd)) row ++ [], Zr (by rw [List.length_map]; omega) (Ql hrow2 (by decide)) (fun x hx => by obtain ⟨b, _, rfl⟩ := List.mem_map.1 hx; exact Jvh b) i0, Jvi s _⟩, congrArg (fun z => Ending.returned (Value.agg #[.int .u64 0, .int .u64 0, .int .u64 0, .int .u64 0, .slice none 0 0, z, .int .i64 0])) hvr, hs1.weakL (.cons _ (.cons _ (by simp only [List.append_nil]; exact List.Sublist.refl _)))⟩
section
variable {c : Cx} {l : Ko} {L : Jo} {X : XP} {Q : Exit → Act → List Frame → World → Prop} {d : List Deferred} {cs : List Frame}
variable {ops : Array Oper} {rest : List Nat} {k : Nat} {o : Oper}
theorem we (h : HS c d l L X ops rest cs Q) : HQ c d l L X ((fun e a w => e = Exit.normal ∧ wpOpsSIn (FW none) 0 c.P ops Q rest a cs w) .normal) := fun a w hf hs => ⟨rfl, h a w hf hs⟩
theorem Jbg (ho : Wy ops.toList k = some o) (hp : ∀ (ρ : Operand → Value) w x w', (execOp ρ o).run c.P w = .ok x w' → (∃ v, x = .value v) ∨ x = .skip) (hn : Kp o.op = true) (hro : c.ro = none) (h : HL c d l L X ops [o] (fun e a w => e = Exit.normal ∧ wpOpsSIn (FW none) 0 c.P ops Q rest a cs w)) : HS c d l L X ops (k :: rest) cs Q := fun a w hf hs => by
  have hk : ops[k]? = some o := by rw [← QO ho]
  have h1 := h a w hf hs
  unfold wpListIn at h1
  simp only [wpOpsSIn, hk]; refine ⟨KU, ?_⟩
  by_cases hw : Region.wanted o (yielded ops a.tmps) = true
  · rw [if_pos hw] at h1 ⊢
    obtain ⟨_, h2⟩ := h1
    rw [Oper.semAt_eq _ _ _ (W0 hn)] at h2
    cases e : (execOp a.eval o).run c.P w with
    | ok x w' =>
      rw [e] at h2
      rcases hp a.eval w x w' e with ⟨v, rfl⟩ | rfl
      · exact h2.2
      · exact h2.2
    | halt x w' =>
      rw [e] at h2
      cases x with
      | panic v => exact absurd h2.1 (by simp)
      | _ => exact h2.elim
  · rw [if_neg hw] at h1 ⊢
    exact h1.2.2
theorem vo {P : Program} {dst : Option Nat} {t ty : TypeId} {ps : String} {af : Array Edge} {gd : Option (Nat × Bool)} (ρ : Operand → Value) (w : World) (x : Next) (w' : World) (h : (execOp ρ ⟨dst, .alloc t, ty, ps, af, gd⟩).run P w = .ok x w') : (∃ v, x = .value v) ∨ x = .skip := by
  simp only [execOp, Sem.run_bind] at h
  cases e : (Instr.alloc t true (.tuple #[])).run P w with
  | ok v w2 => rw [e] at h; simp [Result.andThen] at h; exact .inl ⟨v, h.1.symm⟩
  | halt v w2 => rw [e] at h; simp [Result.andThen] at h
theorem vp {P : Program} {dst : Option Nat} {t ty : TypeId} {a b : Operand} {ps : String} {af : Array Edge} {gd : Option (Nat × Bool)} (ρ : Operand → Value) (w : World) (x : Next) (w' : World) (h : (execOp ρ ⟨dst, .store t a b, ty, ps, af, gd⟩).run P w = .ok x w') : (∃ v, x = .value v) ∨ x = .skip := by
  simp only [execOp, Sem.run_bind] at h
  cases e : (Instr.storeAt t (ρ a) (ρ b)).run P w with
  | ok v w2 => rw [e] at h; simp [Result.andThen] at h; exact .inr h.1.symm
  | halt v w2 => rw [e] at h; simp [Result.andThen] at h
end
def gT (rv re : Nat) (V : Array Value) (e : Int) : Jo := [(rv, .cells V 81 (0, 0)), (re, .cells #[.int .i64 e] 27 (0, 0))]
abbrev VZ0 : Array Value := #[.int .u64 0, .int .u64 0, .int .u64 0, .int .u64 0, .slice none 0 0, .slice none 0 0, .int .i64 0]
theorem Jy7 (rv re : Nat) (hne : rv ≠ re) (V : Array Value) (hV : V.size = 7) (e0 : Int) (w : World) (hT : vr (gT rv re V e0) w) : CallsDIn (FW none) 0 Tryz.prog 92 [VG rv, VG re].toArray .returning w (fun e u' w' => (∃ x, e = .returned x) ∧ settle u' = .returning ∧ Keep [rv, re] w w' ∧ vr (gT rv re V e0) w') := by
  refine qg (cxT Tryz.prog w (gT rv re V e0) [] Tryz.f92.ntmps) Tryz.func92 rfl rfl rfl rfl (L := gT rv re V e0) (X := fun _ _ => True) (St.startT hT (fun p hp => nomatch hp) (List.pairwise_pair.2 hne) (fun p hp => nomatch hp)) fun c₀ cs hu => ?_
  obtain ⟨hrv, hrc⟩ := Jo7 (cs := cs) hu
  refine Jio fun K hK => ?_; refine yw ?_; change HS _ _ _ _ _ _ [0, 1, 2, 3, 4, 5, 6, 7] _ _; refine yx rfl rfl rfl rfl (fun a w hf => rfl) hrv hrc ?_; refine zg rfl rfl rfl rfl (JA rfl rfl rfl) ?_; refine zg rfl rfl rfl rfl (Jp rfl) ?_; refine zg rfl rfl rfl rfl (Qm rfl rfl) ?_; refine zg rfl rfl rfl rfl (Qm rfl rfl) ?_; refine Jbg rfl vo rfl rfl (LN rfl fun r2 => Jf (we ?_)); refine Jbg rfl vp rfl rfl (Vb (k := 0) (n := 1) (cs' := #[_]) (vs := #[_]) rfl rfl rfl rfl rfl rfl rfl (by exact Nat.le_of_ble_eq_true rfl) rfl rfl (Jf (we ?_))); refine zg rfl rfl rfl rfl (JO rfl) ?_; refine Jo4 ?_; refine hK _ _ _ _ _ (Jo3 rfl ?_); clear hK K; refine sR fun _ hK1 => Ji rfl (nK hK1 ?_); refine Jc rfl (fun h2 => ?_) (fun h2 => ?_)
  try exact Bool.noConfusion h2
  · try simp only [ZZ] at h2
    refine Jg ?_; refine xf (u' := .returning) rfl rfl rfl .nil (fun w1 hs1 => ?_); refine ⟨⟨_, rfl⟩, rfl, by have := hs1.keep; simpa [cxT, gT] using this, fun p hp => ?_⟩; exact (hs1.own p (List.mem_cons_of_mem _ hp)).2.2
theorem Jy8 (rv re : Nat) (hne : rv ≠ re) (V : Array Value) (hV : V.size = 7) (e0 : Int) (e1 : Int) (w : World) (hT : vr (gT rv re V e0) w) : CallsDIn (FW none) 0 Tryz.prog 92 [VG rv, VG re].toArray (.panicking (yv (xh e1))) w (fun e u' w' => (∃ x, e = .returned x) ∧ settle u' = .returning ∧ Keep [rv, re] w w' ∧ vr (gT rv re VZ0 e1) w') := by
  refine qg (cxT Tryz.prog w (gT rv re V e0) [] Tryz.f92.ntmps) Tryz.func92 rfl rfl rfl rfl (L := gT rv re V e0) (X := fun _ _ => True) (St.startT hT (fun p hp => nomatch hp) (List.pairwise_pair.2 hne) (fun p hp => nomatch hp)) fun c₀ cs hu => ?_
  obtain ⟨hrv, hrc⟩ := Jo6 (cs := cs) hu
  refine Jio fun K hK => ?_; refine yw ?_; change HS _ _ _ _ _ _ [0, 1, 2, 3, 4, 5, 6, 7] _ _; refine yx rfl rfl rfl rfl (fun a w hf => rfl) hrv hrc ?_; refine zg rfl rfl rfl rfl (JA rfl rfl rfl) ?_; refine zg rfl rfl rfl rfl (Jp rfl) ?_; refine zg rfl rfl rfl rfl (Qm rfl rfl) ?_; refine zg rfl rfl rfl rfl (Qm rfl rfl) ?_; refine Jbg rfl vo rfl rfl (LN rfl fun r2 => Jf (we ?_)); refine Jbg rfl vp rfl rfl (Vb (k := 0) (n := 1) (cs' := #[_]) (vs := #[_]) rfl rfl rfl rfl rfl rfl rfl (by exact Nat.le_of_ble_eq_true rfl) rfl rfl (Jf (we ?_))); refine zg rfl rfl rfl rfl (JO rfl) ?_; refine Jo4 ?_; refine hK _ _ _ _ _ (Jo3 rfl ?_); clear hK K; refine sR fun _ hK1 => Ji rfl (nK hK1 ?_); refine Jc rfl (fun h2 => ?_) (fun h2 => ?_)
  try simp only [ZZ] at h2
  refine JS [(r2, .cells #[.int .i64 e1] 113 (0, 0))] [(0, .pure), (1, .pure), (2, .pure), (3, .turn), (4, .turn)] 5 [0, 1, 2, 3, 4] (by kernel_rfl) (by kernel_rfl) (by first | exact (fun _ h => absurd h List.not_mem_nil) | simp [SubS] | (intro p hp; simp [hp])) ?_; refine Jv (k := 0) rfl rfl rfl rfl rfl (fun _ hS => (JK (r := [_, _, _, _, _, _, _]) rfl rfl)) ?_
  refine Jv (k := 1) rfl rfl rfl rfl rfl (fun _ hS => (JM rfl rfl rfl)) ?_; refine Jv (k := 2) rfl rfl rfl rfl rfl (fun _ hS => (Jk rfl (.inl (hS _ (Kw (n := 0) rfl))) rfl rfl)) ?_; refine qY (k := 3) (q := 1) (n := 7) (ys := [.int .u64 0, .int .u64 0, .int .u64 0, .int .u64 0, .slice none 0 0, .slice none 0 0, .int .i64 0]) rfl rfl rfl rfl rfl rfl rfl rfl hV rfl rfl (by simp [SubS]) ?_
  refine WM (k := 4) (q := 2) rfl rfl rfl rfl rfl rfl rfl rfl rfl (by first | (simp only [List.setIfInBounds_toArray, List.set_cons_zero, List.set_cons_succ]; exact rfl) | exact rfl) (by first | (simp only [List.set_cons_zero, List.set_cons_succ]; exact rfl) | exact rfl) (by first | exact (fun _ h => absurd h List.not_mem_nil) | simp [SubS] | (intro p hp; simp [hp])) ?_; refine KD ?_; refine Jf ?_; refine xf (u' := .panicking [{ v := xh e1, recovered := true }]) rfl rfl rfl .nil (fun w1 hs1 => ?_); refine ⟨⟨_, rfl⟩, rfl, by have := hs1.keep; simpa [cxT, gT] using this, fun p hp => ?_⟩; exact (hs1.own p (List.mem_cons_of_mem _ hp)).2.2
  · try exact Bool.noConfusion h2
theorem Jpo (t : Ty) (s : BS) : (KH t s).2 ≠ 0 → (KH t s).1 = v0L := by
  obtain ⟨k, n, p, ins⟩ := t
  rw [KH]
  unfold ZX ze
  dsimp only
  repeat' split
  all_goals first | (intro _; rfl) | (intro h; exact absurd rfl h)
def getR (t : Ty) (s : BS) : Vl × Int := if V0 t 0 ≠ 0 then (v0L, V0 t 0) else if 65536 < s.length then (v0L, 5) else KH t s
theorem Jiz : Vl.In [] v0L := .mk u0 u0 u0 u0 (by decide) rfl (by decide) rfl i0 (fun x hx => nomatch hx)
section
variable {c : Cx} {l : Ko} {L L0 : Jo} {X : XP} {d : List Deferred} {fn : Func} {R : Ending → World → Prop} {rv re : Nat} {V : Array Value} {e0 e1 : Int}
theorem yI {w : World} (hs : St c (gT rv re V e0 ++ L0) X w) : vr (gT rv re V e0) w ∧ rv ≠ re := ⟨fun p hp => (hs.own p (List.mem_append_left _ hp)).2.2, by
  have := (List.pairwise_append.1 hs.distinct).1
  exact (List.pairwise_cons.1 this).1 _ (List.mem_singleton_self _)⟩
theorem Ji0 {V' : Array Value} {w w' : World} (hs : St c (gT rv re V e0 ++ L0) X w) (hk : Keep [rv, re] w w') (hT : vr (gT rv re V' e1) w') : St c (gT rv re V' e1 ++ L0) X w' := by
  obtain ⟨_, hne⟩ := yI hs
  refine hs.turnT (by simpa [gT] using hk) (fun p hp => ⟨.inl ?_, hT p hp⟩) (List.pairwise_pair.2 hne)
  rcases List.mem_cons.1 hp with rfl | hp
  · simp [gT]
  · rw [List.mem_singleton.1 hp]; simp [gT]
theorem Jvj (hP : c.P = Tryz.prog) (hp : L.Perm (gT rv re V e0 ++ L0)) (hV : V.size = 7) (h : HQ c d l (gT rv re V e0 ++ L0) X (bodyPostM (FW none) 0 Tryz.prog fn R .ret)) : HQ c (dF 92 [VG rv, VG re] :: d) l L X (bodyPostM (FW none) 0 Tryz.prog fn R .ret) :=
  XA hp (Jw0 (enters_of Tryz.func92 (by kernel_rfl) rfl) (fun w hs => CallsDIn.mono (Jy7 rv re (yI hs).2 V hV e0 w (yI hs).1) fun _ _ _ ⟨h1, h2, h3, h4⟩ => ⟨h1, h2, Ji0 hs h3 h4⟩) h)
theorem Jvk (hP : c.P = Tryz.prog) (hd : d = []) (hp : L.Perm (gT rv re V e0 ++ L0)) (hV : V.size = 7) (h : HQ c d l (gT rv re VZ0 e1 ++ L0) X (bodyPostM (FW none) 0 Tryz.prog fn R .ret)) : HQ c (dF 92 [VG rv, VG re] :: d) l L X (bodyPostM (FW none) 0 Tryz.prog fn R (.panic (yv (xh e1)))) :=
  XA hp (Jto (enters_of Tryz.func92 (by kernel_rfl) rfl) (fun w hs => CallsDIn.mono (Jy8 rv re (yI hs).2 V hV e0 e1 w (yI hs).1) fun _ _ _ ⟨h1, h2, h3, h4⟩ => ⟨h1, h2, Ji0 hs h3 h4⟩) h)
end
set_option maxHeartbeats 1000000 in
theorem Jy9 {R : Jo} {t : Ty} (ht : t.In R) (s : BS) : PureT (α := VR (getR t s).1) Tryz.prog 60 [t.val, J3 s].toArray (fun y => .tuple #[y.x.val, .int .i64 (getR t s).2]) [] (fun y => y.L) R := by
  have hC := Jaa ht
  have hG := Jy4 ht (s := s)
  have hbd := Jpo t s
  have hg0 : V0 t 0 ≠ 0 → getR t s = (v0L, V0 t 0) := fun h => by unfold getR; rw [if_pos h]
  have hg1 : V0 t 0 = 0 → 65536 < s.length → getR t s = (v0L, 5) := fun h h2 => by unfold getR; rw [if_neg (by rw [h]; decide), if_pos h2]
  have hg2 : V0 t 0 = 0 → ¬ 65536 < s.length → getR t s = KH t s := fun h h2 => by unfold getR; rw [if_neg (by rw [h]; decide), if_neg h2]
  generalize hcz : V0 t 0 = z at hC hG hg0 hg1 hg2
  obtain ⟨k, n, p, ins⟩ := t
  refine JI Tryz.func60 rfl rfl fun w => ?_; refine sR fun _ hK1 => ?_; refine LN rfl fun r1 => ?_; refine LN rfl fun r2 => ?_; refine LN rfl fun r3 => ?_; refine nK hK1 (sR fun _ hK2 => ?_); refine LR rfl (Ku rfl rfl) ?_; refine Jo1 (caps := [VG r2, VG r3]) rfl rfl rfl ?_ rfl; refine nK hK2 (sQ fun _ hK3 => ?_); refine sR fun _ hK4 => ?_; refine LR rfl (Jw (vs := [_, _, _]) rfl (kn 2 rfl) rfl rfl rfl rfl) ?_; refine Jh rfl rfl rfl Jwb hC (fun q hq => Or.inr hq) ?_; refine Ji rfl (nK hK4 ?_); refine sR fun _ hK5 => LS 2 [] rfl rfl (nK hK5 ?_); refine Jc rfl (fun h6 => ?_) (fun h6 => ?_)
  · try simp only [ZZ] at h6
    refine sR fun _ hK7 => ?_; refine LR rfl (JK (r := [_, _, _, _, _, _, _]) rfl rfl) ?_; refine Ji rfl ?_
    refine LT 1 rfl rfl ?_
    refine LT 0 rfl rfl (nK hK7 ?_); refine Jb (Jd ?_)
    (refine Jvj (L0 := [_]) rfl (List.Perm.swap _ _ _) rfl ?_
     refine Jt rfl rfl (.cons (J9 (vs := [_, _, _, _, _, _, _]) rfl (kn 0 rfl) rfl rfl) (.cons (KQ rfl (kn 1 rfl) rfl rfl) .nil)) (fun w1 hs1 => ?_)
     exact ⟨⟨v0L, [], Jiz, by rw [hg0 (by assumption)]; rfl⟩, congrArg (fun z => Ending.returned (Value.tuple #[v0L.val, .int .i64 z])) (congrArg Prod.snd (hg0 (by assumption))).symm, hs1.weakL (List.nil_sublist _)⟩)
  · try simp only [ZZ] at h6
    refine Jg (hK3 ?_); refine sQ fun _ hK8 => ?_
    have hz : z = 0 := by assumption
    refine Ja (Ji rfl (LR rfl (Ke rfl rfl) ?_)); refine JY rfl ?_; refine KS rfl rfl rfl ZW (VL (_) 5) (fun q hq => nomatch hq) (fun hok _ => ?_) (fun v hv => by obtain ⟨hvb, rfl⟩ := hv; refine Jvk (e1 := 5) (L0 := [_]) rfl rfl (List.Perm.swap _ _ _) rfl ?_; refine Jt rfl rfl (.cons (J9 (vs := [_, _, _, _, _, _, _]) rfl (kn 0 rfl) rfl rfl) (.cons (KQ rfl (kn 1 rfl) rfl rfl) .nil)) (fun w1 hs1 => ?_); exact ⟨⟨v0L, [], Jiz, by rw [hg1 hz (by have := Z2.1 hvb; omega)]; rfl⟩, congrArg (fun z => Ending.returned (Value.tuple #[v0L.val, .int .i64 z])) (congrArg Prod.snd (hg1 hz (by have := Z2.1 hvb; omega))).symm, hs1.weakL (List.nil_sublist _)⟩)
    have hl : ¬ 65536 < s.length := by have := Z1.mp hok; omega
    refine nK hK8 (sR fun _ hK9 => ?_); refine LS 2 [2] rfl rfl ?_; refine KS rfl rfl rfl Jmj (hG hz (by omega)) (fun q hq => Or.inr hq) (fun hok y => ?_) (fun v hv => by obtain ⟨hvb, rfl⟩ := hv; refine Jvk (e1 := (KH (.mk k n p ins) s).2) (L0 := [_]) rfl rfl (List.Perm.swap _ _ _) rfl ?_; refine Jt rfl rfl (.cons (J9 (vs := [_, _, _, _, _, _, _]) rfl (kn 0 rfl) rfl rfl) (.cons (KQ rfl (kn 1 rfl) rfl rfl) .nil)) (fun w1 hs1 => ?_); exact ⟨⟨v0L, [], Jiz, by rw [hg2 hz hl, hbd hvb]; rfl⟩, congrArg (fun z => Ending.returned (Value.tuple #[v0L.val, .int .i64 z])) (congrArg Prod.snd (hg2 hz hl)).symm, hs1.weakL (List.nil_sublist _)⟩)
    obtain ⟨⟨ya, yb, yc, yd, ybits, ypb, yitems, ypi, ypick⟩, yL, yok, yer⟩ := y
    refine KC List.perm_append_comm ?_
    refine LT 1 rfl rfl ?_
    refine LT 0 rfl rfl (nK hK9 ?_); refine Jb ?_
    (refine Jvj (L0 := _ :: yL) rfl (List.Perm.swap _ _ _) rfl ?_
     refine Jt rfl rfl (.cons (J9 (vs := [_, _, _, _, _, _, _]) rfl (kn 0 rfl) rfl rfl) (.cons (KQ rfl (kn 1 rfl) rfl rfl) .nil)) (fun w1 hs1 => ?_)
     exact ⟨⟨.mk ya yb yc yd ybits ypb yitems ypi ypick, yL, yok, by rw [hg2 hz hl]; exact yer⟩, congrArg (fun z => Ending.returned (Value.tuple #[Vl.val (.mk ya yb yc yd ybits ypb yitems ypi ypick), .int .i64 z])) ((congrArg Prod.snd (hg2 hz hl)).trans hok).symm, hs1.weakL (.cons _ (.cons _ (.cons _ (List.Sublist.refl _))))⟩)
section
variable {c : Cx} {l : Ko} {L E : Jo} {X : XP} {Q : Exit → Act → World → Prop} {d : List Deferred}
variable {ops : Array Oper} {rest : List Nat} {i k : Nat} {v : Value} {o : Oper} {tb : jI} {S : Jo} {T : Jo → Act → Prop}
theorem Jpp {α : Type} {T0 L0 Rl : Jo} {f : Operand} {args : Array Operand} {at_ : Array TypeId} {g : FuncId} {vs : List Value} {V : α → Value} {LL : α → Jo} {ty : TypeId} {ps : String} {af : Array Edge} {gd : Option (Nat × Bool)}
    (hp : E.Perm (T0 ++ L0)) (hk : Wy ops.toList k = some ⟨some i, .call ⟨.value f, args, at_⟩, ty, ps, af, gd⟩) (hg : Kk l ops ⟨some i, .call ⟨.value f, args, at_⟩, ty, ps, af, gd⟩ = some true) (hi : Nat.ble (i + 1) c.n = true) (hA : tb k = .turn) (hca : Ky l f args = some (g, vs)) (eg : Enters c.P g)
    (hpt : PureT c.P g vs.toArray V T0 LL Rl) (hR : ∀ p ∈ Rl, known c L0 p.1 p.2) (hS : ∀ x, SubS S (LL x ++ L0)) (h : ∀ x, HB c d ((i, V x) :: l) (LL x ++ L0) X S ops tb rest T) : HB c d l E X S ops tb (k :: rest) T := fun a hf => by
  refine ⟨_, QO hk, ?_⟩; rw [hA]; refine .inl ⟨α, V, fun x => LL x ++ L0, ⟨JE hf hg, fun w hs => ?_⟩, fun x => ⟨hS x, h x _ (hf.put (Nat.le_of_ble_eq_true hi))⟩⟩
  have hs := hs.perm hp
  obtain ⟨hd1, _, hd3⟩ := List.pairwise_append.1 hs.distinct
  refine Xu hf hca eg ((hpt.run w (fun p hp => (hs.own p (List.mem_append_left _ hp)).2.2) (fun p hp => ?_) hd1 (fun p hp q hq => ?_)).mono fun _ _ ⟨x, he, hk, h1, h2⟩ => ⟨V x, he, x, rfl, hs.turnT hk h1 h2⟩)
  · exact (hR p hp).elim (fun h => (hs.own _ (List.mem_append_right _ h)).2.2) hs.readR
  · rcases hR p hp with h | h
    · exact fun e => hd3 q hq _ h e.symm
    · rintro e
      obtain ⟨h1, _, h3⟩ := hs.ext _ h
      have h3 := Jx h3
      rcases (hs.own q (List.mem_append_left _ hq)).1 with h4 | h4
      · exact h1 (e ▸ h4)
      · simp only at h3 e; omega
end
theorem Jza {n : Nat} {xs : List Value} (h : xs.length = n) : rowOk 1 n xs (some (0, n, [])) := ⟨by rw [h, Nat.mul_one], by simp⟩
theorem Jpq {R : Jo} {k n : Int} {p : Pl} {ins : List Ty} {items : List Vl} {pi : Pl} (ht : Ty.In R (.mk k n p ins)) (h8 : k ≠ 8) (hs : Seg R items.length (Qf items) pi) (hl : items.length ≤ 600) (hx : ∀ i, i < items.length → VX k 0 i < ins.length)
    (hb : ∀ (i : Nat) x, items[i]? = some x → PureR Tryz.prog 85 [(JC k 0 ins i).val, x.val].toArray (J3 (KB x (JC k 0 ins i))) R) :
    PureT (α := { row : V5 // rowOk 1 items.length (WG (Kh items k 0 ins 0)) row }) Tryz.prog 135 [Ty.val (.mk k n p ins), KP items.length pi].toArray (fun x => JD items.length x.1) [] (fun x => JV 9 (WG (Kh items k 0 ins 0)) x.1) R := by
  cases ht with
  | @mk k n p ins hk hn hlt hst hit =>
  have hRL := WA items k 0 ins 0
  obtain ⟨RS, hRS⟩ : ∃ x, x = Kh items k 0 ins 0 := ⟨_, rfl⟩
  have htk := fun i x (h : items[i]? = some x) => yq k ins (i := 0) h
  simp only [← hRS, Nat.zero_add] at htk; rw [← hRS] at hRL ⊢; refine JI Tryz.func135 rfl rfl fun w => ?_; refine sR fun _ hK1 => ?_; refine LN rfl fun r1 => ?_; refine Ji rfl (nK hK1 ?_); refine sR fun _ hK2 => Ji rfl (nK hK2 ?_); refine sQ fun _ hK3 => sR fun _ hK4 => ?_; refine Ji rfl (LR rfl (J4 rfl hs rfl) (Ji rfl ?_)); refine nK hK4 (Js ?_); refine JL (σ := Nat × V5) (fun q => q.1 ≤ items.length ∧ rowOk 1 q.1 (WG (RS.take q.1)) q.2) (fun q => [(2, VG r1), (5, JD q.1 q.2), (9, KP items.length pi), (10, .int .i64 (items.length : Int)), (11, .int .i64 (q.1 : Int))]) (fun q => VQ r1 (.mk k n p ins) :: JV 9 (WG (RS.take q.1)) q.2) (fun _ _ _ => True) (fun q => items.length - q.1) (0, none) ⟨Nat.zero_le _, by rw [List.take_zero]; exact ⟨rfl, rfl⟩⟩ (.cons rfl (.cons rfl (.cons rfl (.cons rfl (.cons rfl .nil))))) (List.Sublist.refl _) (fun _ _ h => h) ?_; rintro ⟨i, row⟩ ⟨hi1, hrow⟩; simp only at hi1 hrow; change HC _ _ [(2, _), (5, JD i row), (9, _), (10, _), (11, .int .i64 (i : Int))] ((r1, _) :: JV _ (WG (RS.take i)) row) _ _ _; refine sR fun _ hK5 => JY rfl (nK hK5 ?_); refine sQ fun _ hK6 => ?_; refine Jc rfl (fun h7 => ?_) (fun h7 => ?_)
  · try simp only [ZZ] at h7
    refine Jg (hK6 ?_); refine sB fun _ hK8 => sQ fun _ hK9 => ?_
    have hil : i < items.length := by omega
    have hix := XQ hil
    have hbi := hb i _ hix.1
    have hty := Qi (hx i hil)
    have hi0 : 0 < ins.length := Nat.lt_of_le_of_lt (Nat.zero_le _) (hx i hil)
    have hy0 : ins[0]? = some (ins.getD 0 default) := by rw [List.getD_eq_getElem?_getD, List.getElem?_eq_getElem hi0]; rfl
    have htki := htk i _ hix.1
    obtain ⟨sv, hsv⟩ : ∃ x, x = KB (XO items i) (JC k 0 ins i) := ⟨_, rfl⟩
    rw [← hsv] at hbi htki; refine Ja (Ji rfl ?_)
    refine LR rfl (Jr (j := i) rfl hs rfl rfl rfl (by first | rfl | omega) (by omega)) ?_; refine LR rfl (QL (fun q hq => Or.inr hq) rfl hs hix.1 rfl rfl) ?_; refine QK (cs := #[.int .u64 0, .int .u64 0, .int .u64 0, .int .u64 0, .slice none 0 0, .slice none 0 0, .int .i64 0]) rfl rfl rfl rfl fun rv => ?_; refine Ji rfl (Jz (k := 0) (n := 7) (ys := (XO items i).cells) rfl rfl rfl rfl rfl (XO items i).len rfl (XO items i).one rfl ?_); refine nK hK9 (sR fun _ hK10 => ?_)
    refine LS 2 [1] rfl rfl ?_; refine LR rfl (Jr (j := 0) rfl hst rfl rfl rfl rfl (by omega)) ?_; refine LR rfl (KX (fun q hq => Or.inr hq) rfl hst hy0 rfl rfl) ?_; refine QK (cs := #[.int .i64 0, .int .i64 0, .slice none 0 0]) rfl rfl rfl rfl fun rt => ?_; refine Jz (k := 0) (n := 3) (ys := (ins.getD 0 default).cells) rfl rfl rfl rfl rfl (ins.getD 0 default).len rfl (ins.getD 0 default).one rfl ?_; refine nK hK10 (sQ fun _ hK11 => ?_); refine sR fun _ hK12 => ?_
    refine LS 3 [2] rfl rfl (nK hK12 ?_); refine Jc rfl (fun h13 => ?_) (fun h13 => ?_)
    · try simp only [ZZ] at h13
      refine Ja ?_
      refine LS 3 [2] rfl rfl ?_; refine LR rfl (Jr (j := VX k 0 i) rfl hst rfl rfl rfl (by unfold VX; rw [if_pos (by assumption)]) (hx i hil)) ?_; refine LR rfl (KX (fun q hq => Or.inr hq) rfl hst hty.1 rfl rfl) ?_; refine Jz (k := 0) (n := 3) (ys := (JC k 0 ins i).cells) rfl rfl rfl rfl rfl (JC k 0 ins i).len (by rw [List.size_toArray]; exact Ty.len _) (JC k 0 ins i).one rfl ?_; refine nK hK11 ?_
      (have h7 : k = 7 := by assumption
       skip)
      refine Ja (Ji rfl (LR rfl (Jq (xs := (JC k 0 ins i).cells) (n := 3) rfl (kn 0 rfl) rfl rfl (JC k 0 ins i).len) ?_)); refine LR rfl (Jq (xs := (XO items i).cells) (n := 7) rfl (kn 1 rfl) rfl rfl (XO items i).len) ?_; refine Jh rfl rfl rfl Jru hbi (fun q hq => Or.inr hq) ?_; refine Ki (vs := [_]) (zs := [_]) (r := [_]) rfl rfl rfl rfl rfl rfl rfl rfl rfl (by show (madeCells #[_] _).toList = _; rw [VP]; exact rfl) rfl fun r2 => ?_; refine Km (L0 := [_, _, _, _]) (xs := WG (RS.take i)) (row := row) (n := i) (sz := 1) (b := 16) (news := [J3 sv]) (List.perm_append_comm (l₁ := [_, _, _, _])) rfl rfl rfl rfl (kn 0 rfl) rfl rfl rfl rfl rfl (by decide) rfl rfl rfl (by decide) hrow (by omega) (by omega) fun ra cap sp hra => ?_; refine Ji rfl (Jf ?_); refine Jj (hK8 ?_); refine Ja ?_
      refine JY rfl ?_; refine Jy (show _ = Value.int .i64 ((i + 1 : Nat) : Int) from by rw [wrap_i64 (by omega) (by omega)]; congr 1 <;> omega) ?_; refine Ji rfl (Jf (J8 ?_)); refine Vo [4, 0] (L' := [_, _]) (by decide) rfl ?_; exact J2 (i + 1, some (ra, cap, sp)) ⟨by simp only; omega, by simp only; rw [htki, Zl]; exact hra⟩ (by simp only; omega) (.cons rfl (.cons rfl (.cons rfl (.cons rfl (.cons rfl .nil))))) (by simp only; rw [htki, Zl]; exact List.Sublist.refl _) (fun _ _ h => h)
    · try simp only [ZZ] at h13
      refine Jg (hK11 ?_)
      (have h7 : ¬ k = 7 := by assumption
       have e : ins.getD 0 default = JC k 0 ins i := by unfold JC VX; rw [if_neg h7, if_neg h8]
       rw [e])
      refine Ja (Ji rfl (LR rfl (Jq (xs := (JC k 0 ins i).cells) (n := 3) rfl (kn 0 rfl) rfl rfl (JC k 0 ins i).len) ?_)); refine LR rfl (Jq (xs := (XO items i).cells) (n := 7) rfl (kn 1 rfl) rfl rfl (XO items i).len) ?_; refine Jh rfl rfl rfl Jru hbi (fun q hq => Or.inr hq) ?_; refine Ki (vs := [_]) (zs := [_]) (r := [_]) rfl rfl rfl rfl rfl rfl rfl rfl rfl (by show (madeCells #[_] _).toList = _; rw [VP]; exact rfl) rfl fun r3 => ?_; refine Km (L0 := [_, _, _, _]) (xs := WG (RS.take i)) (row := row) (n := i) (sz := 1) (b := 16) (news := [J3 sv]) (List.perm_append_comm (l₁ := [_, _, _, _])) rfl rfl rfl rfl (kn 0 rfl) rfl rfl rfl rfl rfl (by decide) rfl rfl rfl (by decide) hrow (by omega) (by omega) fun ra cap sp hra => ?_; refine Ji rfl (Jf ?_); refine Jj (hK8 ?_); refine Ja ?_
      refine JY rfl ?_; refine Jy (show _ = Value.int .i64 ((i + 1 : Nat) : Int) from by rw [wrap_i64 (by omega) (by omega)]; congr 1 <;> omega) ?_; refine Ji rfl (Jf (J8 ?_)); refine Vo [4, 0] (L' := [_, _]) (by decide) rfl ?_; exact J2 (i + 1, some (ra, cap, sp)) ⟨by simp only; omega, by simp only; rw [htki, Zl]; exact hra⟩ (by simp only; omega) (.cons rfl (.cons rfl (.cons rfl (.cons rfl (.cons rfl .nil))))) (by simp only; rw [htki, Zl]; exact List.Sublist.refl _) (fun _ _ h => h)
  · try simp only [ZZ] at h7
    refine JJ (Jm ?_); refine Jm (J0 (hK3 ?_)); refine sQ fun _ hK14 => ?_
    obtain rfl : i = items.length := by omega
    rw [List.take_of_length_le (by omega)] at hrow ⊢; refine Ja (LS 2 [] rfl rfl ?_); refine nK hK14 (Jb ?_); refine pT rfl rfl rfl fun w1 hs1 => ?_; exact ⟨⟨row, hrow⟩, rfl, hs1.weakL (.cons _ (List.Sublist.refl _))⟩
abbrev qk (l : List BS) : Type := { row : V5 // rowOk 1 l.length (WG l) row }
def Ji1 (l : List BS) : qk l := ⟨some (0, l.length, []), Jza (by unfold WG; rw [List.length_map])⟩
abbrev rV {l : List BS} (x : qk l) : Value := KP l.length (Vv x.1)
abbrev rL {l : List BS} (x : qk l) : Jo := JV 9 (WG l) x.1
theorem Jzb {l : List BS} (x : qk l) : rV x = JD l.length x.1 := Wm _ _ fun h => by
  have h2 := x.2
  rw [h] at h2; exact h2.1
theorem Jpr (l : List BS) : (fun x : qk l => rV x) = fun x => JD l.length x.1 := funext fun x => Jzb x
theorem Jps {s : BS} (hl : s.length ≤ 1000000) : PureT (α := qk (YH s)) Tryz.prog 172 [J3 s].toArray (fun x => rV x) [] (fun x => rL x) [] := by
  have h := Jyx hl
  rw [← Zm] at h; rw [Jpr]; exact h
theorem xm {R : Jo} {k n : Int} {p : Pl} {ins : List Ty} {items : List Vl} {pi : Pl} (ht : Ty.In R (.mk k n p ins)) (h8 : k ≠ 8) (hs : Seg R items.length (Qf items) pi) (hl : items.length ≤ 600) (hx : ∀ i, i < items.length → VX k 0 i < ins.length)
    (hb : ∀ (i : Nat) x, items[i]? = some x → PureR Tryz.prog 85 [(JC k 0 ins i).val, x.val].toArray (J3 (KB x (JC k 0 ins i))) R) :
    PureT (α := qk (Kh items k 0 ins 0)) Tryz.prog 135 [Ty.val (.mk k n p ins), KP items.length pi].toArray (fun x => rV x) [] (fun x => rL x) R := by
  have h := Jpq ht h8 hs hl hx hb
  rw [Jpr]
  have e := WA items k 0 ins 0
  generalize Kh items k 0 ins 0 = RS at h e ⊢
  rw [← e] at h; rw [← e]; exact h
theorem Jpt (t : Ty) : Pure Tryz.prog 171 [t.val].toArray (.bool (X8 t)) := by
  obtain ⟨k, n, p, ins⟩ := t
  refine JG Tryz.func171 rfl rfl fun w => ?_; refine sR fun K1 hK1 => ?_; refine LN rfl fun r1 => ?_; refine Ji rfl (nK hK1 ?_); clear hK1 K1; refine sR fun K2 hK2 => LS 4 [0] rfl rfl ?_
  refine J6 6 rfl (fun hb3 => ?_) (fun hb3 => ?_) <;> (try simp only [ZZ] at hb3) <;> first | (refine LR rfl (JM rfl rfl rfl) ?_) | (refine LK rfl ?_)
  all_goals refine LW 4 [0] rfl rfl ?_
  all_goals refine Jf ?_
  all_goals (
   refine hK2 ?_; clear hK2 K2; refine Jb (pT rfl rfl rfl fun w1 hs1 => ?_); refine ⟨?_, hs1.keep⟩
   simp_all [JN, X8, Ty.k]
   all_goals first | done | rfl
   skip)
theorem Jw9 (n : Nat) : ((n + 7) / 8 + 31) / 32 = (n + 255) / 256 := by omega
theorem Ji2 {R : Jo} {l : List Bool} {k : Int} {n : Nat} {p pb : Pl} {ins : List Ty} (hl : l.length ≤ n) (hn : n ≤ 512) (hs : Seg R l.length (QD l) pb) :
    PureR Tryz.prog 131 [Ty.val (.mk k (n : Int) p ins), KP l.length pb].toArray (J3 (Vi (YH (Qj l)) ((n + 255) / 256))) R := by
  obtain ⟨N, hN⟩ : ∃ N, N = (l.length + 7) / 8 := ⟨_, rfl⟩
  have hpB : Qj l = KR l N l.length := by rw [hN]; rfl
  have hnb := qD (bits := l) (n := (n : Int)) (by omega)
  rw [Int.toNat_natCast] at hnb
  have hc32 := ZL (Qj l)
  have hcut := Jps (s := Qj l) (by rw [VF]; omega)
  rw [hpB] at hnb hc32 hcut ⊢; refine Je Tryz.func131 rfl rfl fun w => ?_; refine sR fun K1 hK1 => ?_; refine LN rfl fun r1 => ?_; refine Ji rfl (nK hK1 ?_); clear hK1 K1; refine sR fun K2 hK2 => Ji rfl (LR rfl (J4 rfl hs rfl) ?_)
  refine JY rfl ?_; refine Jy (show _ = Value.int .i64 ((l.length + 8 : Nat) : Int) from by rw [wrap_i64 (by omega) (by omega)]; congr 1 <;> omega) ?_
  refine JY rfl ?_; refine Jy (show _ = Value.int .i64 ((l.length + 7 : Nat) : Int) from by rw [wrap_i64 (by omega) (by omega)]; congr 1 <;> omega) ?_; refine JY rfl ?_; refine Jy (show _ = Value.int .i64 ((N : Nat) : Int) from congrArg (Value.int .i64) (by rw [QR (by omega) (by decide) (by omega), hN]; rfl)) ?_; refine Xg (n := N) (b := 1) rfl rfl rfl rfl rfl rfl rfl rfl rfl (by omega) (by omega) fun rm => ?_; rw [show List.replicate N (Value.int .u8 0) = (KR l N 0).map bV from by rw [KR, List.map_replicate]; rfl]; refine Ji rfl (nK hK2 ?_); clear hK2 K2; refine sQ fun K3 hK3 => sR fun K4 hK4 => ?_; refine Ji rfl (LR rfl (J4 rfl hs rfl) (Ji rfl ?_)); refine nK hK4 ?_; clear hK4 K4; refine Js (JL (σ := Nat) (fun i => i ≤ l.length) (fun i => [(2, VG r1), (5, .slice (some ⟨rm, 0, none⟩) N N), (14, KP l.length pb), (15, .int .i64 (l.length : Int)), (16, .int .i64 (i : Int))]) (fun i => [(rm, .cells ((KR l N i).map bV).toArray 5 (0, 0)), VQ r1 (.mk k (n : Int) p ins)]) (fun _ _ _ => True) (fun i => l.length - i) 0 (Nat.zero_le _) (.cons rfl (.cons rfl (.cons rfl (.cons rfl (.cons rfl .nil))))) (List.Sublist.refl _) (fun _ _ h => h) ?_); intro i hi1; change HC _ _ _ ((rm, _) :: (r1, _) :: []) _ _ _; refine sR fun K5 hK5 => JY rfl (nK hK5 ?_); clear hK5 K5; refine sQ fun K6 hK6 => ?_; refine Jc rfl (fun h7 => ?_) (fun h7 => ?_)
  · try simp only [ZZ] at h7
    refine Jg (hK6 ?_); clear hK6 K6; refine sB fun K8 hK8 => sQ fun K9 hK9 => ?_
    have hil : i < l.length := by omega
    have hi8 : i / 8 < N := by omega
    have hyb : l[i]? = some (l.getD i false) := by rw [List.getD_eq_getElem?_getD, List.getElem?_eq_getElem hil]; rfl
    refine Ja (Ji rfl ?_)
    refine LR rfl (Jr (j := i) rfl hs rfl rfl rfl (by first | rfl | omega) (by omega)) ?_; refine LR rfl (Yf (fun q hq => Or.inr hq) rfl hs hyb rfl) ?_; refine LS 2 [] rfl rfl (nK hK9 ?_); clear hK9 K9; refine sR fun K10 hK10 => Ji rfl (nK hK10 ?_); clear hK10 K10; refine Jc rfl (fun h11 => ?_) (fun h11 => ?_)
    · try simp only [ZZ] at h11
      have hbt : l.getD i false = true := by assumption
      have hst1 : KR l N (i + 1) = (KR l N i).set (i / 8) (UInt8.ofNat (((KR l N i).getD (i / 8) 0).toNat ||| 2 ^ (i % 8))) := by rw [KR, if_pos hbt]
      obtain ⟨Y, hY⟩ : ∃ Y, Y = KR l N i := ⟨_, rfl⟩
      have hYl : Y.length = N := by rw [hY]; exact Vy l N i
      rw [← hY] at hst1 ⊢
      refine JS [] [(0, .pure), (1, .pure), (2, .pure), (3, .pure), (5, .pure), (6, .pure), (7, .pure), (8, .pure), (9, .pure), (10, .turn)] 11 [0, 1, 2, 3, 4, 5, 6, 7, 8, 9, 10] (by kernel_rfl) (by kernel_rfl) (by first | exact (fun _ h => absurd h List.not_mem_nil) | simp [SubS] | (intro p hp; simp [hp])) ?_; refine Jv (k := 0) rfl rfl rfl rfl rfl (fun _ hS => (Jp rfl)) ?_; refine Jv (k := 1) rfl rfl rfl rfl rfl (fun _ hS => (Jp rfl)) ?_
      refine Jv (k := 2) rfl rfl rfl rfl rfl (fun _ _ => (JA rfl rfl rfl)) ?_; refine WK (show _ = Value.int .i64 ((i / 8 : Nat) : Int) from congrArg (Value.int .i64) (by first | exact WE _ _ | exact QR (by omega) (by decide) (by omega) | (rw [wrap_i64 (by omega) (by omega)]; omega))) ?_; refine Jv (k := 3) rfl rfl rfl rfl rfl (fun _ _ => Kj (j := (i / 8)) (m := 1) (off' := (i / 8)) rfl rfl rfl rfl (by omega) (by omega) (by omega)) ?_; refine KZ (k := 4) rfl rfl rfl rfl rfl (Jk rfl (kn 0 rfl) rfl (by rw [Vk]; exact Yn (by omega))) ?_; refine Jv (k := 5) rfl rfl rfl rfl rfl (fun _ hS => (Jp rfl)) ?_
      refine Jv (k := 6) rfl rfl rfl rfl rfl (fun _ _ => (JA rfl rfl rfl)) ?_; refine WK (show _ = Value.int .i64 ((i % 8 : Nat) : Int) from congrArg (Value.int .i64) (by first | exact WE _ _ | exact QR (by omega) (by decide) (by omega) | (rw [wrap_i64 (by omega) (by omega)]; omega))) ?_; refine Jv (k := 7) rfl rfl rfl rfl rfl (fun _ _ => zo (n := i % 8) (b := ((2 ^ (i % 8) : Nat) : Int)) rfl rfl rfl (show _ ≤ 8 from by omega) (Joi (by omega))) ?_; refine Jv (k := 8) rfl rfl rfl rfl rfl (fun _ _ => vM (op := .or) (m := (Y.getD (i / 8) 0).toNat) (n := 2 ^ (i % 8)) rfl rfl rfl (Vg _) (Nat.pow_lt_pow_right (by decide) (by omega) : 2 ^ (i % 8) < 2 ^ 8) rfl) ?_; refine WK (Jic _ (by omega)) ?_; refine Jv (k := 9) rfl rfl rfl rfl rfl (fun _ _ => Kj (j := (i / 8)) (m := 1) (off' := (i / 8)) rfl rfl rfl rfl (by omega) (by omega) (by omega)) ?_; refine WM (k := 10) (q := 0) (cs' := ((KR l N (i + 1)).map bV).toArray) rfl rfl rfl rfl rfl rfl rfl rfl (by simp; omega) (by rw [zR, hst1]) rfl (fun _ h => nomatch h) ?_; refine KD ?_; refine Jf (Jj (hK8 ?_)); clear hK8 K8; refine Ja ?_
      refine JY rfl ?_; refine Jy (show _ = Value.int .i64 ((i + 1 : Nat) : Int) from by rw [wrap_i64 (by omega) (by omega)]; congr 1 <;> omega) ?_; refine Ji rfl (Jf (J8 ?_)); exact J2 (i + 1) (by omega) (by omega) (.cons rfl (.cons rfl (.cons rfl (.cons rfl (.cons rfl .nil))))) (List.Sublist.refl _) (fun _ _ h => h)
    · try simp only [ZZ] at h11
      refine Jg (Jj (hK8 ?_)); clear hK8 K8; refine Ja ?_
      refine JY rfl ?_; refine Jy (show _ = Value.int .i64 ((i + 1 : Nat) : Int) from by rw [wrap_i64 (by omega) (by omega)]; congr 1 <;> omega) ?_; refine Ji rfl (Jf (J8 ?_))
      (have hst0 : KR l N (i + 1) = KR l N i := by rw [KR, if_neg (by simp_all)]
       exact J2 (i + 1) (by omega) (by omega) (.cons rfl (.cons rfl (.cons rfl (.cons rfl (.cons rfl .nil))))) (by rw [hst0]; exact List.Sublist.refl _) (fun _ _ h => h))
  · try simp only [ZZ] at h7
    refine JJ (Jm ?_); clear hK6 K6; refine Jm (J0 (hK3 ?_)); clear hK3 K3; refine sQ fun K12 hK12 => ?_
    obtain rfl : i = l.length := by omega
    refine JS [] [(0, .pure), (2, .grow (Qz (Ji1 (YH (KR l N l.length))) (fun x => rV x) (fun x => rL x))), (3, .pure), (5, .pure), (6, .pure), (7, .pure), (8, .pure), (10, .pure)] 11 [0, 1, 3, 4, 5, 6, 7, 2, 8, 9, 10] (by kernel_rfl) (by kernel_rfl) (by first | exact (fun _ h => absurd h List.not_mem_nil) | simp [SubS] | (intro p hp; simp [hp])) ?_; refine Jv (k := 0) rfl rfl rfl rfl rfl (fun _ hS => (Jp rfl)) ?_; refine KZ (k := 1) rfl rfl rfl rfl rfl (QV (b := KR l N l.length) (row := some (rm, N, [])) (e := 5) (show _ = some (JD (KR l N l.length).length _) from by rw [Vy]; rfl) ⟨by rw [List.length_map]; omega, by rw [Vy]; simp⟩ (fun p hp => .inl (by rw [List.mem_singleton.1 hp, List.append_nil]; exact List.mem_cons_self)) rfl rfl rfl) ?_
    refine Jv (k := 3) rfl rfl rfl rfl rfl (fun _ hS => (JM rfl rfl rfl)) ?_; refine KZ (k := 4) rfl rfl rfl rfl rfl (Jk rfl (kn 1 rfl) rfl rfl) ?_
    refine Jv (k := 5) rfl rfl rfl rfl rfl (fun _ _ => (JA rfl rfl rfl)) ?_; refine WK (show _ = Value.int .i64 ((n + 8 : Nat) : Int) from congrArg (Value.int .i64) (by first | exact WE _ _ | exact QR (by omega) (by decide) (by omega) | (rw [wrap_i64 (by omega) (by omega)]; omega))) ?_
    refine Jv (k := 6) rfl rfl rfl rfl rfl (fun _ _ => (JA rfl rfl rfl)) ?_; refine WK (show _ = Value.int .i64 ((n + 7 : Nat) : Int) from congrArg (Value.int .i64) (by first | exact WE _ _ | exact QR (by omega) (by decide) (by omega) | (rw [wrap_i64 (by omega) (by omega)]; omega))) ?_
    refine Jv (k := 7) rfl rfl rfl rfl rfl (fun _ _ => (JA rfl rfl rfl)) ?_; refine WK (show _ = Value.int .i64 (((n + 7) / 8 : Nat) : Int) from congrArg (Value.int .i64) (by first | exact WE _ _ | exact QR (by omega) (by decide) (by omega) | (rw [wrap_i64 (by omega) (by omega)]; omega))) ?_; refine Qe (k := 2) rfl rfl rfl rfl rfl (enters_of Tryz.func172 (by kernel_rfl) rfl) hcut (fun q hq => nomatch hq) fun x => ?_; refine WL (k := 8) rfl rfl rfl rfl rfl (enters_of Tryz.func173 (by kernel_rfl) rfl) (Joq (n := (n + 7) / 8) (by omega)) ?_; rw [Jw9]; refine Qq (k := 9) rfl rfl rfl rfl rfl Jha (vU hnb (by omega) (Ql x.2 (by decide)) hc32) (fun q hq => .inl (List.mem_append_left _ hq)) ?_; refine Jv (k := 10) rfl rfl rfl rfl rfl (fun _ hS => (JO rfl)) ?_; refine KD ?_; refine nK hK12 ?_; clear hK12 K12; refine Jb (pT rfl rfl rfl fun w1 hs1 => ?_); exact ⟨rfl, hs1.keep⟩
section
variable {c : Cx} {l : Ko} {L E : Jo} {X : XP} {Q : Exit → Act → World → Prop} {d : List Deferred}
variable {ops : Array Oper} {rest : List Nat} {i k : Nat} {v : Value} {o : Oper} {tb : jI} {S : Jo} {T : Jo → Act → Prop}
theorem Jkw {f : Operand} {args : Array Operand} {at_ : Array TypeId} {g : FuncId} {vs : List Value} {Rl : Jo} {ty : TypeId} {ps : String} {af : Array Edge} {gd : Option (Nat × Bool)}
    (hk : Wy ops.toList k = some ⟨some i, .call ⟨.value f, args, at_⟩, ty, ps, af, gd⟩) (hg : Kk l ops ⟨some i, .call ⟨.value f, args, at_⟩, ty, ps, af, gd⟩ = some true) (hi : Nat.ble (i + 1) c.n = true) (hA : tb k = .pure) (hca : Ky l f args = some (g, vs)) (eg : Enters c.P g)
    (hp : PureR c.P g vs.toArray v Rl) (hR : ∀ p ∈ Rl, p ∈ S ∨ p ∈ c.R) (h : HB c d ((i, v) :: l) E X S ops tb rest T) : HB c d l E X S ops tb (k :: rest) T := fun a hf => by
  refine ⟨_, QO hk, ?_⟩; rw [hA]; exact ⟨v, .inl ⟨JE hf hg, fun E' hE' w hs => Xu hf hca eg ((hp.run w fun p hp => (hR p hp).elim (fun h => (hs.own _ (hE' p h)).2.2) hs.readR).mono fun _ _ ⟨he, hk⟩ => ⟨v, he, rfl, hk⟩)⟩, h _ (hf.put (Nat.le_of_ble_eq_true hi))⟩
end
theorem Zv {k : Int} (h7 : k ≠ 7) (h8 : k ≠ 8) (x : Ty) (i : Nat) : JC k 0 [x] i = x := by unfold JC VX; rw [if_neg h7, if_neg h8]; rfl
theorem Jkx {l : List Vl} {x : Ty} {i : Nat} {v : Vl} (h : l[i]? = some v) : Xj (l.take (i + 1)) x = Xj (l.take i) x ++ QM v x := by
  unfold Xj
  rw [List.take_add_one, h]
  simp
theorem Ji3 {x : Ty} : ∀ {l : List Vl}, (∀ v ∈ l, (QM v x).length ≤ 32) → (Xj l x).length ≤ 32 * l.length
  | [], _ => by unfold Xj; simp
  | v :: l, h => by
    have ih := Ji3 (l := l) fun y hy => h y (List.mem_cons_of_mem _ hy)
    have h1 := h v List.mem_cons_self
    unfold Xj at ih ⊢
    rw [List.map_cons, List.flatten_cons, List.length_append, List.length_cons]; omega
theorem yJ {x : Ty} {v : Vl} (hc : V0 x 0 = 0) (hp : X8 x = true) (hf : JW v x = 0) : Ws x v = (QM v x, 0) ∧ (QM v x).length ≤ 32 := by
  obtain ⟨f1, f2, f3, f4⟩ := ZM hc hp
  have h1 := f4 v hf
  have h2 : (QM v x).length ≤ 32 := by omega
  have h3 : QT x v = 0 := by unfold QT; rw [if_pos hc]; exact hf
  unfold Ws
  rw [if_neg (by rw [h3]; simp), if_neg (by omega)]; exact ⟨rfl, h2⟩
set_option maxHeartbeats 1000000 in
theorem Jxa {R : Jo} {k : Int} {n : Nat} {p pi : Pl} {x0 : Ty} {items : List Vl} (ht : Ty.In R (.mk k (n : Int) p [x0])) (h7 : k ≠ 7) (h8 : k ≠ 8) (hc : V0 x0 0 = 0) (hs : Seg R items.length (Qf items) pi) (hl : items.length ≤ n) (hn : n ≤ 512)
    (hfit : ∀ v ∈ items, JW v x0 = 0) (hw : ∀ v ∈ items, wV v ≤ 20000) (hIn : ∀ v ∈ items, v.In R)
    (hb : ∀ (i : Nat) x, items[i]? = some x → PureR Tryz.prog 85 [x0.val, x.val].toArray (J3 (KB x x0)) R) :
    PureR Tryz.prog 127 [Ty.val (.mk k (n : Int) p [x0]), KP items.length pi].toArray (J3 (Xa k (n : Int) [x0] items (Kh items k 0 [x0] 0))) R := by
  have hro := xm ht h8 hs (by omega) (fun i _ => by unfold VX; rw [if_neg h7, if_neg h8]; exact Nat.lt_succ_self 0) (fun i x hx => by rw [Zv h7 h8]; exact hb i x hx)
  have hrl := WA items k 0 [x0] 0
  have hr32 : ∀ s ∈ Kh items k 0 [x0] 0, s.length = 32 := fun s hs => by
    obtain ⟨j, x, h1, rfl⟩ := Yp hs
    rw [Zv h7 h8]; exact Yq x x0 0 hc (hfit x (List.mem_of_getElem? h1))
  have hrt := fun (x : qk (Kh items k 0 [x0] 0)) => vU (m := n) (by omega) (by omega) (Ql (e := 9) x.2 (by decide)) hr32
  have hM : Xa k (n : Int) [x0] items (Kh items k 0 [x0] 0) = if X8 x0 = true then Vi (YH (Xj items x0)) ((n * (JQ x0).toNat + 31) / 32) else Vi (Kh items k 0 [x0] 0) n := by
    unfold Xa
    rw [if_neg h7]; rfl
  rw [hM]
  have hx0 := ht.sub x0 List.mem_cons_self
  have ht2 := ht
  cases ht with
  | @mk k n p ins hk hn2 hlt hst hit =>
  have hpl := Jpt x0
  refine Je Tryz.func127 rfl rfl fun w => ?_; refine sR fun _ hK1 => ?_; refine LN rfl fun r1 => ?_; refine Ji rfl (nK hK1 ?_); refine sQ fun _ hK2 => sR fun _ hK3 => ?_; refine LS 2 [0] rfl rfl ?_
  refine LR rfl (Jr (j := 0) rfl hst rfl rfl rfl (by first | rfl | omega) (Nat.lt_succ_self 0)) ?_; refine LR rfl (KX (fun q hq => Or.inr hq) rfl hst (show [x0][0]? = some x0 from rfl) rfl rfl) ?_; refine JF rfl rfl rfl (enters_of Tryz.func171 (by kernel_rfl) rfl) hpl ?_; refine JY rfl (nK hK3 ?_); refine Jc rfl (fun h4 => ?_) (fun h4 => ?_)
  try simp only [ZZ] at h4
  refine sQ fun _ hK5 => ?_
  refine JS [] [(1, .pure), (2, .grow (Qz (Ji1 (Kh items k 0 [x0] 0)) (fun x => rV x) (fun x => rL x))), (3, .pure), (6, .pure)] 7 [0, 1, 3, 4, 2, 5, 6] (by kernel_rfl) (by kernel_rfl) (by first | exact (fun _ h => absurd h List.not_mem_nil) | simp [SubS] | (intro p hp; simp [hp])) ?_; refine KZ (k := 0) rfl rfl rfl rfl rfl (Jq (xs := (Ty.mk k (n : Int) p [x0]).cells) (n := 3) rfl (kn 0 rfl) rfl rfl (Ty.mk k (n : Int) p [x0]).len) ?_; refine Jv (k := 1) rfl rfl rfl rfl rfl (fun _ hS => (Jp rfl)) ?_
  refine Jv (k := 3) rfl rfl rfl rfl rfl (fun _ hS => (JM rfl rfl rfl)) ?_; refine KZ (k := 4) rfl rfl rfl rfl rfl (Jk rfl (kn 0 rfl) rfl rfl) ?_; refine Qe (k := 2) rfl rfl rfl rfl rfl (enters_of Tryz.func135 (by kernel_rfl) rfl) hro (fun q hq => .inr hq) fun x => ?_; refine Qq (k := 5) rfl rfl rfl rfl rfl Jha (hrt x) (fun q hq => .inl (List.mem_append_left _ hq)) ?_; refine Jv (k := 6) rfl rfl rfl rfl rfl (fun _ hS => (JO rfl)) ?_; refine KD ?_; refine nK hK5 (Jb (Jd ?_)); refine pT rfl rfl rfl fun w1 hs1 => ?_; refine ⟨?_, hs1.keep⟩; rw [if_neg (by rw [Bool.not_eq_true]; assumption)]; rfl
  · try simp only [ZZ] at h4
    refine Jg (hK2 ?_); refine sQ fun _ hK6 => ?_
    have hp : X8 x0 = true := by assumption
    obtain ⟨f1, f2, f3, f4⟩ := ZM hc hp
    obtain ⟨z, hz⟩ : ∃ z, z = (JQ x0).toNat := ⟨_, rfl⟩
    have hSz := Jfq hx0
    have hsz : ww x0 = (z : Int) := by unfold ww; rw [if_pos f1]; omega
    rw [hsz] at hSz
    have hnz : n * z ≤ 16384 := by
      have := Nat.mul_le_mul hn (show z ≤ 32 by omega)
      omega
    obtain ⟨C, hC⟩ : ∃ C, C = Xj items x0 := ⟨_, rfl⟩
    have hCl : C.length = items.length * z := by rw [hC]; exact qb fun v hv => by have := f4 v (hfit v hv); omega
    have hCn : C.length ≤ n * z := by rw [hCl]; exact Nat.mul_le_mul_right _ hl
    have hcn : (YH C).length ≤ (n * z + 31) / 32 := by rw [Zm]; unfold Ja1; omega
    refine Ja (LN rfl fun r2 => ?_); refine nK hK6 (sQ fun _ hK7 => ?_); refine sR fun _ hK8 => Ji rfl (LR rfl (J4 rfl hs rfl) (Ji rfl ?_)); refine nK hK8 ?_; refine Js (JL (σ := Nat × V5 × Bool) (fun q => q.1 ≤ items.length ∧ bOk (Xj (items.take q.1) x0) q.2.1) (fun q => [(2, VG r1), (5, VG r2), (22, KP items.length pi), (23, .int .i64 (items.length : Int)), (24, .int .i64 (q.1 : Int))]) (fun q => WZ r2 (Xj (items.take q.1) x0) q.2.1 q.2.2 ++ [VQ r1 (Ty.mk k (n : Int) p [x0])]) (fun _ _ _ => True) (fun q => items.length - q.1) (0, none, false) ⟨Nat.zero_le _, Ja0⟩ (.cons rfl (.cons rfl (.cons rfl (.cons rfl (.cons rfl .nil))))) (List.Sublist.refl _) (fun _ _ h => h) ?_); rintro ⟨i, row, own⟩ ⟨hi1, hb1⟩; simp only at hi1 hb1; change HC _ _ [(2, _), (5, _), (22, _), (23, _), (24, .int .i64 (i : Int))] (WZ r2 (Xj (items.take i) x0) row own ++ [VQ r1 (Ty.mk k (n : Int) p [x0])]) _ _ _; refine sR fun _ hK9 => JY rfl (nK hK9 ?_); refine sQ fun _ hK10 => ?_; refine Jc rfl (fun h11 => ?_) (fun h11 => ?_)
    · try simp only [ZZ] at h11
      refine Jg (hK10 ?_); refine sB fun _ hK12 => sQ fun _ hK13 => ?_
      have hil : i < items.length := by omega
      have hix := XQ hil
      have hpr := yJ hc hp (hfit _ hix.2)
      have hput := Jol hx0 (hIn _ hix.2) (hw _ hix.2)
      rw [hpr.1] at hput
      have hsn := Jkx (x := x0) hix.1
      have hcl := Ji3 (x := x0) (l := items.take i) fun v hv => (yJ hc hp (hfit v (List.mem_of_mem_take hv))).2
      rw [List.length_take] at hcl
      have hp2 := hpr.2
      refine Ja ?_
      refine LR rfl (Jr (j := i) rfl hs rfl rfl rfl (by first | rfl | omega) (by omega)) ?_; refine LR rfl (QL (fun q hq => Or.inr hq) rfl hs hix.1 rfl rfl) ?_; refine QK (cs := #[.int .u64 0, .int .u64 0, .int .u64 0, .int .u64 0, .slice none 0 0, .slice none 0 0, .int .i64 0]) rfl rfl rfl rfl fun rv => ?_; refine Jz (k := 0) (n := 7) (ys := (XO items i).cells) rfl rfl rfl rfl rfl (XO items i).len rfl (XO items i).one rfl ?_; refine nK hK13 (sQ fun _ hK14 => ?_); refine Kc 11 (by kernel_rfl) (by kernel_rfl) ?_
      refine Jl rfl rfl rfl (JM rfl rfl rfl) ?_; refine Jl rfl rfl rfl (Jk (v := KP 1 p) rfl (.inl (List.mem_cons_of_mem _ (List.mem_append_right _ List.mem_cons_self))) rfl rfl) ?_
      refine Jl rfl rfl rfl (Jr (j := 0) rfl hst rfl rfl rfl (by first | rfl | omega) (Nat.lt_succ_self 0)) ?_; refine Jl rfl rfl rfl (KX (fun q hq => Or.inr hq) rfl hst (show [x0][0]? = some x0 from rfl) rfl rfl) ?_; refine Jl rfl rfl rfl (Jq (xs := (XO items i).cells) (n := 7) rfl (kn 0 rfl) rfl rfl (XO items i).len) ?_; refine Yg rfl rfl rfl (enters_of Tryz.func52 (by kernel_rfl) rfl) hput (fun q hq => Or.inr hq) ?_; refine Jl rfl rfl rfl (Jp rfl) ?_; refine Jl rfl rfl rfl (Qm rfl rfl) ?_; refine Jl rfl rfl rfl (Qm rfl rfl) ?_; refine Jl rfl rfl rfl (JO rfl) ?_; refine Jl rfl rfl rfl (JO rfl) ?_; refine KA ?_; refine nK hK14 ?_; refine Ja (Ji rfl (Vu (T := WZ r2 (Xj (items.take i) x0) row own) (L0 := _ :: [VQ r1 (Ty.mk k (n : Int) p [x0])]) (Rl := []) List.perm_middle.symm rfl rfl rfl Jg8 (vV hb1 (s2 := QM (XO items i) x0) (by omega)) (fun q hq => nomatch hq) fun x => ?_))
      obtain ⟨rowx, hbx⟩ := x
      refine Jf (Jj (hK12 ?_)); refine Ja ?_
      refine JY rfl ?_; refine Jy (show _ = Value.int .i64 ((i + 1 : Nat) : Int) from by rw [wrap_i64 (by omega) (by omega)]; congr 1 <;> omega) ?_; refine Ji rfl (Jf (J8 ?_)); refine jT (L' := WZ r2 (Xj (items.take (i + 1)) x0) rowx true ++ [VQ r1 (Ty.mk k (n : Int) p [x0])]) (by rw [hsn]; exact (List.Sublist.refl _).append (.cons _ (List.Sublist.refl _))) ?_; exact J2 (i + 1, rowx, true) ⟨by simp only; omega, by simp only; rw [hsn]; exact hbx⟩ (by simp only; omega) (.cons rfl (.cons rfl (.cons rfl (.cons rfl (.cons rfl .nil))))) (List.Sublist.refl _) (fun _ _ h => h)
    · try simp only [ZZ] at h11
      refine JJ (Jm ?_); refine Jm (J0 (hK7 ?_)); refine sQ fun _ hK15 => ?_
      obtain rfl : i = items.length := by omega
      rw [List.take_length, ← hC] at hb1; rw [List.take_length, ← hC]; refine JS [VQ r1 (Ty.mk k (n : Int) p [x0])] [(0, .turn), (1, .grow (Qz (Ji1 (YH C)) (fun x => rV x) (fun x => rL x))), (2, .pure), (3, .pure), (4, .pure), (5, .pure), (6, .pure), (7, .pure), (8, .pure), (9, .pure), (10, .pure)] 11 [2, 3, 4, 5, 6, 7, 0, 1, 8, 9, 10] (by kernel_rfl) (by kernel_rfl) (fun p hp => List.mem_append_right _ hp) ?_
      refine Jv (k := 2) rfl rfl rfl rfl rfl (fun _ hS => (JM rfl rfl rfl)) ?_; refine Jv (k := 3) rfl rfl rfl rfl rfl (fun E' hS => Jk (v := .int .i64 (n : Int)) rfl (.inl (hS _ List.mem_cons_self)) rfl rfl) ?_
      refine Jv (k := 4) rfl rfl rfl rfl rfl (fun _ hS => (JM rfl rfl rfl)) ?_; refine Jv (k := 5) rfl rfl rfl rfl rfl (fun E' hS => Jk (v := KP 1 p) rfl (.inl (hS _ List.mem_cons_self)) rfl rfl) ?_
      refine Jv (k := 6) rfl rfl rfl rfl rfl (fun E' hS => Jr (j := 0) rfl hst rfl rfl rfl (by first | rfl | omega) (Nat.lt_succ_self 0)) ?_; refine Jv (k := 7) rfl rfl rfl rfl rfl (fun E' hS => KX (fun q hq => Or.inr hq) rfl hst (show [x0][0]? = some x0 from rfl) rfl rfl) ?_; refine Jpp (k := 0) (T0 := WZ r2 C row own) (L0 := [VQ r1 (Ty.mk k (n : Int) p [x0])]) (Rl := []) (List.Perm.refl _) rfl rfl rfl rfl rfl Jmk (Jgd hb1 (by omega)) (fun q hq => nomatch hq) (fun _ p hp => hp) fun u => ?_; refine Qe (k := 1) rfl rfl rfl rfl rfl (enters_of Tryz.func172 (by kernel_rfl) rfl) (Jps (s := C) (by omega)) (fun q hq => nomatch hq) fun x => ?_; refine Jkw (k := 8) rfl rfl rfl rfl rfl Jmp hSz (fun q hq => .inr hq) ?_; refine Jv (k := 9) rfl rfl rfl rfl rfl (fun _ _ => (JA rfl rfl rfl)) ?_; refine WK (show _ = Value.int .i64 ((n * z : Nat) : Int) from congrArg (Value.int .i64) (by rw [← Int.natCast_mul]; exact wrap_i64 (by omega) (by omega))) ?_; refine WL (k := 10) rfl rfl rfl rfl rfl (enters_of Tryz.func173 (by kernel_rfl) rfl) (Joq (n := n * z) (by omega)) ?_; refine KD ?_; refine Jh rfl rfl rfl Jha (vU hcn (by omega) (Ql x.2 (by decide)) (ZL _)) (fun q hq => .inl (List.mem_append_left _ hq)) ?_; refine Ji rfl (nK hK15 ?_); refine Jb (pT rfl rfl rfl fun w1 hs1 => ?_); refine ⟨?_, hs1.keep⟩; rw [if_pos hp, ← hz, ← hC]; rfl
section
variable {R : Jo} {k n : Int} {p : Pl} {ins : List Ty} {a b c d : Nat} {bits : List Bool} {pb : Pl} {items : List Vl} {pi : Pl} {pick : Int} {s : BS}
theorem J0j (h : PureR Tryz.prog 127 [Ty.val (.mk k n p ins), KP items.length pi].toArray (J3 s) R) : PureR Tryz.prog 126 [Ty.val (.mk k n p ins), Vl.val (.mk a b c d bits pb items pi pick)].toArray (J3 s) R := by
  refine Je Tryz.func126 rfl rfl fun w => ?_; refine sR fun _ hK1 => ?_; refine LN rfl fun r1 => ?_; refine LN rfl fun r2 => ?_; refine Ji rfl (nK hK1 ?_); refine sR fun _ hK2 => ?_; refine LR rfl (Jq (xs := (Ty.mk k n p ins).cells) (n := 3) rfl (kn 1 rfl) rfl rfl (Ty.mk k n p ins).len) ?_
  refine LS 2 [0] rfl rfl ?_; refine Jh rfl rfl rfl (enters_of Tryz.func127 (by kernel_rfl) rfl) h (fun q hq => Or.inr hq) ?_; refine Ji rfl (nK hK2 ?_); refine Jb (pT rfl rfl rfl fun w1 hs1 => ?_); exact ⟨rfl, hs1.keep⟩
theorem J0k (hs : Seg R items.length (Qf items) pi) (h32 : s.length = 32) (hl : items.length ≤ 512) (h : PureR Tryz.prog 127 [Ty.val (.mk k n p ins), KP items.length pi].toArray (J3 s) R) : PureR Tryz.prog 128 [Ty.val (.mk k n p ins), Vl.val (.mk a b c d bits pb items pi pick)].toArray (J3 (XZ s items.length)) R := by
  refine Je Tryz.func128 rfl rfl fun w => ?_; refine sR fun _ hK1 => ?_; refine LN rfl fun r1 => ?_; refine LN rfl fun r2 => ?_; refine Ji rfl (nK hK1 ?_); refine sQ fun _ hK2 => ?_
  refine JS [] [(1, .pure), (4, .pure), (6, .pure), (7, .pure), (8, .pure)] 9 [0, 1, 2, 4, 5, 6, 3, 7, 8] (by kernel_rfl) (by kernel_rfl) (by first | exact (fun _ h => absurd h List.not_mem_nil) | simp [SubS] | (intro p hp; simp [hp])) ?_; refine KZ (k := 0) rfl rfl rfl rfl rfl (Jq (xs := (Ty.mk k n p ins).cells) (n := 3) rfl (kn 1 rfl) rfl rfl (Ty.mk k n p ins).len) ?_
  refine Jv (k := 1) rfl rfl rfl rfl rfl (fun _ hS => (JM rfl rfl rfl)) ?_; refine KZ (k := 2) rfl rfl rfl rfl rfl (Jk rfl (kn 0 rfl) rfl rfl) ?_
  refine Jv (k := 4) rfl rfl rfl rfl rfl (fun _ hS => (JM rfl rfl rfl)) ?_; refine KZ (k := 5) rfl rfl rfl rfl rfl (Jk rfl (kn 0 rfl) rfl rfl) ?_; refine Jv (k := 6) rfl rfl rfl rfl rfl (fun _ hS => (J4 rfl hs rfl)) ?_; refine Qq (k := 3) rfl rfl rfl rfl rfl (enters_of Tryz.func127 (by kernel_rfl) rfl) h (fun q hq => Or.inr hq) ?_; refine WL (k := 7) rfl rfl rfl rfl rfl Jmn (Joe (by omega) (by omega)) ?_; refine Jv (k := 8) rfl rfl rfl rfl rfl (fun _ hS => (JO rfl)) ?_; refine KD ?_; refine nK hK2 (Jb ?_); refine pT rfl rfl rfl fun w1 hs1 => ?_; exact ⟨rfl, hs1.keep⟩
theorem J0l (h : PureR Tryz.prog 131 [Ty.val (.mk k n p ins), KP bits.length pb].toArray (J3 s) R) : PureR Tryz.prog 130 [Ty.val (.mk k n p ins), Vl.val (.mk a b c d bits pb items pi pick)].toArray (J3 s) R := by
  refine Je Tryz.func130 rfl rfl fun w => ?_; refine sR fun _ hK1 => ?_; refine LN rfl fun r1 => ?_; refine LN rfl fun r2 => ?_; refine Ji rfl (nK hK1 ?_); refine sR fun _ hK2 => ?_; refine LR rfl (Jq (xs := (Ty.mk k n p ins).cells) (n := 3) rfl (kn 1 rfl) rfl rfl (Ty.mk k n p ins).len) ?_
  refine LS 2 [0] rfl rfl ?_; refine Jh rfl rfl rfl (enters_of Tryz.func131 (by kernel_rfl) rfl) h (fun q hq => Or.inr hq) ?_; refine Ji rfl (nK hK2 ?_); refine Jb (pT rfl rfl rfl fun w1 hs1 => ?_); exact ⟨rfl, hs1.keep⟩
theorem J0m (hs : Seg R bits.length (QD bits) pb) (h32 : s.length = 32) (hl : bits.length ≤ 512) (h : PureR Tryz.prog 131 [Ty.val (.mk k n p ins), KP bits.length pb].toArray (J3 s) R) : PureR Tryz.prog 132 [Ty.val (.mk k n p ins), Vl.val (.mk a b c d bits pb items pi pick)].toArray (J3 (XZ s bits.length)) R := by
  refine Je Tryz.func132 rfl rfl fun w => ?_; refine sR fun _ hK1 => ?_; refine LN rfl fun r1 => ?_; refine LN rfl fun r2 => ?_; refine Ji rfl (nK hK1 ?_); refine sQ fun _ hK2 => ?_
  refine JS [] [(1, .pure), (4, .pure), (6, .pure), (7, .pure), (8, .pure)] 9 [0, 1, 2, 4, 5, 6, 3, 7, 8] (by kernel_rfl) (by kernel_rfl) (by first | exact (fun _ h => absurd h List.not_mem_nil) | simp [SubS] | (intro p hp; simp [hp])) ?_; refine KZ (k := 0) rfl rfl rfl rfl rfl (Jq (xs := (Ty.mk k n p ins).cells) (n := 3) rfl (kn 1 rfl) rfl rfl (Ty.mk k n p ins).len) ?_
  refine Jv (k := 1) rfl rfl rfl rfl rfl (fun _ hS => (JM rfl rfl rfl)) ?_; refine KZ (k := 2) rfl rfl rfl rfl rfl (Jk rfl (kn 0 rfl) rfl rfl) ?_
  refine Jv (k := 4) rfl rfl rfl rfl rfl (fun _ hS => (JM rfl rfl rfl)) ?_; refine KZ (k := 5) rfl rfl rfl rfl rfl (Jk rfl (kn 0 rfl) rfl rfl) ?_; refine Jv (k := 6) rfl rfl rfl rfl rfl (fun _ hS => (J4 rfl hs rfl)) ?_; refine Qq (k := 3) rfl rfl rfl rfl rfl (enters_of Tryz.func131 (by kernel_rfl) rfl) h (fun q hq => Or.inr hq) ?_; refine WL (k := 7) rfl rfl rfl rfl rfl Jmn (Joe (by omega) (by omega)) ?_; refine Jv (k := 8) rfl rfl rfl rfl rfl (fun _ hS => (JO rfl)) ?_; refine KD ?_; refine nK hK2 (Jb ?_); refine pT rfl rfl rfl fun w1 hs1 => ?_; exact ⟨rfl, hs1.keep⟩
theorem J0n {l : List BS} (hst : Seg R ins.length (xP ins) p) (hl : l.length ≤ ins.length) (hn : ins.length ≤ 16) (h32 : ∀ s ∈ l, s.length = 32) (h : PureT (α := qk l) Tryz.prog 135 [Ty.val (.mk k n p ins), KP items.length pi].toArray (fun x => rV x) [] (fun x => rL x) R) :
    PureR Tryz.prog 133 [Ty.val (.mk k n p ins), Vl.val (.mk a b c d bits pb items pi pick)].toArray (J3 (Vi l ins.length)) R := by
  refine Je Tryz.func133 rfl rfl fun w => ?_; refine sR fun _ hK1 => ?_; refine LN rfl fun r1 => ?_; refine LN rfl fun r2 => ?_; refine Ji rfl (nK hK1 ?_); refine sQ fun _ hK2 => ?_
  refine JS [] [(1, .pure), (3, .grow (Qz (Ji1 l) (fun x => rV x) (fun x => rL x))), (4, .pure), (6, .pure), (8, .pure)] 9 [0, 1, 2, 4, 5, 6, 3, 7, 8] (by kernel_rfl) (by kernel_rfl) (by first | exact (fun _ h => absurd h List.not_mem_nil) | simp [SubS] | (intro p hp; simp [hp])) ?_; refine KZ (k := 0) rfl rfl rfl rfl rfl (Jq (xs := (Ty.mk k n p ins).cells) (n := 3) rfl (kn 1 rfl) rfl rfl (Ty.mk k n p ins).len) ?_
  refine Jv (k := 1) rfl rfl rfl rfl rfl (fun _ hS => (JM rfl rfl rfl)) ?_; refine KZ (k := 2) rfl rfl rfl rfl rfl (Jk rfl (kn 0 rfl) rfl rfl) ?_
  refine Jv (k := 4) rfl rfl rfl rfl rfl (fun _ hS => (JM rfl rfl rfl)) ?_; refine KZ (k := 5) rfl rfl rfl rfl rfl (Jk rfl (kn 1 rfl) rfl rfl) ?_; refine Jv (k := 6) rfl rfl rfl rfl rfl (fun _ hS => (J4 rfl hst rfl)) ?_; refine Qe (k := 3) rfl rfl rfl rfl rfl (enters_of Tryz.func135 (by kernel_rfl) rfl) h (fun q hq => .inr hq) fun x => ?_; refine Qq (k := 7) rfl rfl rfl rfl rfl Jha (vU hl (by omega) (Ql x.2 (by decide)) h32) (fun q hq => .inl (List.mem_append_left _ hq)) ?_; refine Jv (k := 8) rfl rfl rfl rfl rfl (fun _ hS => (JO rfl)) ?_; refine KD ?_; refine nK hK2 (Jb ?_); refine pT rfl rfl rfl fun w1 hs1 => ?_; exact ⟨rfl, hs1.keep⟩
theorem J0o {m : Nat} {y : Ty} {x : Vl} (hst : Seg R ins.length (xP ins) p) (hs : Seg R items.length (Qf items) pi) (hm : m ≤ 8) (hy : ins[m]? = some y) (hx : items[0]? = some x) (h32 : s.length = 32) (h : PureR Tryz.prog 85 [y.val, x.val].toArray (J3 s) R) :
    PureR Tryz.prog 136 [Ty.val (.mk k n p ins), Vl.val (.mk a b c d bits pb items pi (m : Int))].toArray (J3 (XZ s m)) R := by
  have hm1 := (List.getElem?_eq_some_iff.1 hy).1
  have hm2 := (List.getElem?_eq_some_iff.1 hx).1
  refine Je Tryz.func136 rfl rfl fun w => ?_; refine sR fun _ hK1 => ?_; refine LN rfl fun r1 => ?_; refine LN rfl fun r2 => ?_; refine Ji rfl (nK hK1 ?_); refine sQ fun _ hK2 => ?_
  refine JS [] [(0, .pure), (2, .pure), (4, .pure), (6, .pure), (8, .pure), (11, .pure), (13, .pure), (14, .pure)] 15 [0, 1, 2, 3, 4, 5, 6, 7, 8, 9, 11, 12, 10, 13, 14] (by kernel_rfl) (by kernel_rfl) (by first | exact (fun _ h => absurd h List.not_mem_nil) | simp [SubS] | (intro p hp; simp [hp])) ?_
  refine Jv (k := 0) rfl rfl rfl rfl rfl (fun _ hS => (JM rfl rfl rfl)) ?_; refine KZ (k := 1) rfl rfl rfl rfl rfl (Jk rfl (kn 1 rfl) rfl rfl) ?_
  refine Jv (k := 2) rfl rfl rfl rfl rfl (fun _ hS => (JM rfl rfl rfl)) ?_; refine KZ (k := 3) rfl rfl rfl rfl rfl (Jk rfl (kn 0 rfl) rfl rfl) ?_; refine Jv (k := 4) rfl rfl rfl rfl rfl (fun E' hS => Jr (j := m) rfl hst rfl rfl rfl rfl hm1) ?_; refine KZ (k := 5) rfl rfl rfl rfl rfl (KX (fun q hq => Or.inr hq) rfl hst hy rfl rfl) ?_
  refine Jv (k := 6) rfl rfl rfl rfl rfl (fun _ hS => (JM rfl rfl rfl)) ?_; refine KZ (k := 7) rfl rfl rfl rfl rfl (Jk rfl (kn 0 rfl) rfl rfl) ?_
  refine Jv (k := 8) rfl rfl rfl rfl rfl (fun E' hS => Jr (j := 0) rfl hs rfl rfl rfl (by first | rfl | omega) hm2) ?_; refine KZ (k := 9) rfl rfl rfl rfl rfl (QL (fun q hq => Or.inr hq) rfl hs hx rfl rfl) ?_
  refine Jv (k := 11) rfl rfl rfl rfl rfl (fun _ hS => (JM rfl rfl rfl)) ?_; refine KZ (k := 12) rfl rfl rfl rfl rfl (Jk rfl (kn 0 rfl) rfl rfl) ?_; refine Qq (k := 10) rfl rfl rfl rfl rfl Jru h (fun q hq => Or.inr hq) ?_; refine WL (k := 13) rfl rfl rfl rfl rfl Jmn (Joe (by omega) (by omega)) ?_; refine Jv (k := 14) rfl rfl rfl rfl rfl (fun _ hS => (JO rfl)) ?_; refine KD ?_; refine nK hK2 (Jb ?_); refine pT rfl rfl rfl fun w1 hs1 => ?_; exact ⟨rfl, hs1.keep⟩
theorem XU {g : FuncId} (hlk : QU YW (.int .i64 k) (rootM.toList.map XV) = some (.func (.func g) #[] #[])) (eg : Enters Tryz.prog g) (hg : PureR Tryz.prog g [Ty.val (.mk k n p ins), Vl.val (.mk a b c d bits pb items pi pick)].toArray (J3 s) R) :
    PureR Tryz.prog 85 [Ty.val (.mk k n p ins), Vl.val (.mk a b c d bits pb items pi pick)].toArray (J3 s) R := by
  refine Je Tryz.func85 rfl rfl fun w => ?_; refine sR fun _ hK1 => ?_; refine LN rfl fun r1 => ?_; refine LN rfl fun r2 => ?_; refine Ji rfl (nK hK1 ?_); refine sR fun _ hK2 => ?_; refine wy rfl rfl fun rm => ?_; refine Qc (q := 0) (key := .int .i64 1) (val := .func (.func 125) #[] #[]) (XE (t := 3) (by kernel_rfl)) rfl rfl rfl rfl rfl rfl ⟨_, rfl⟩ (by intro e he; simp at he) rfl rfl ?_
  refine Qc (q := 0) (key := .int .i64 2) (val := .func (.func 125) #[] #[]) (XE (t := 3) (by kernel_rfl)) rfl rfl rfl rfl rfl rfl ⟨_, rfl⟩ (by intro e he; simp at he; rcases he with rfl <;> exact ⟨_, rfl⟩) rfl rfl ?_
  refine Qc (q := 0) (key := .int .i64 3) (val := .func (.func 126) #[] #[]) (XE (t := 3) (by kernel_rfl)) rfl rfl rfl rfl rfl rfl ⟨_, rfl⟩ (by intro e he; simp at he; rcases he with rfl | rfl <;> exact ⟨_, rfl⟩) rfl rfl ?_
  refine Qc (q := 0) (key := .int .i64 4) (val := .func (.func 128) #[] #[]) (XE (t := 3) (by kernel_rfl)) rfl rfl rfl rfl rfl rfl ⟨_, rfl⟩ (by intro e he; simp at he; rcases he with rfl | rfl | rfl <;> exact ⟨_, rfl⟩) rfl rfl ?_
  refine Qc (q := 0) (key := .int .i64 5) (val := .func (.func 130) #[] #[]) (XE (t := 3) (by kernel_rfl)) rfl rfl rfl rfl rfl rfl ⟨_, rfl⟩ (by intro e he; simp at he; rcases he with rfl | rfl | rfl | rfl <;> exact ⟨_, rfl⟩) rfl rfl ?_
  refine Qc (q := 0) (key := .int .i64 6) (val := .func (.func 132) #[] #[]) (XE (t := 3) (by kernel_rfl)) rfl rfl rfl rfl rfl rfl ⟨_, rfl⟩ (by intro e he; simp at he; rcases he with rfl | rfl | rfl | rfl | rfl <;> exact ⟨_, rfl⟩) rfl rfl ?_
  refine Qc (q := 0) (key := .int .i64 7) (val := .func (.func 133) #[] #[]) (XE (t := 3) (by kernel_rfl)) rfl rfl rfl rfl rfl rfl ⟨_, rfl⟩ (by intro e he; simp at he; rcases he with rfl | rfl | rfl | rfl | rfl | rfl <;> exact ⟨_, rfl⟩) rfl rfl ?_
  refine Qc (q := 0) (key := .int .i64 8) (val := .func (.func 136) #[] #[]) (XE (t := 3) (by kernel_rfl)) rfl rfl rfl rfl rfl rfl ⟨_, rfl⟩ (by intro e he; simp at he; rcases he with rfl | rfl | rfl | rfl | rfl | rfl | rfl <;> exact ⟨_, rfl⟩) rfl rfl ?_; change HL _ _ _ ((rm, .map rootM 8) :: _) _ _ _ _; refine LS 2 [] rfl rfl (nK hK2 ?_); refine sR fun _ hK3 => Ji rfl ?_
  refine LS 2 [2] rfl rfl ?_; refine LR rfl (Yd (v := .func (.func g) #[] #[]) (XE (t := 3) (by kernel_rfl)) rfl rfl (kn 0 rfl) rfl rfl ⟨_, rfl⟩ Jkf (by show (QU YW (.int .i64 k) (rootM.toList.map XV)).getD _ = _; rw [hlk]; rfl)) ?_; refine LS 2 [2, 1] rfl rfl ?_; refine Jh rfl rfl rfl eg hg (fun q hq => Or.inr hq) ?_; refine Ji rfl (nK hK3 ?_); refine Jb (pT rfl rfl rfl fun w1 hs1 => ?_); exact ⟨rfl, hs1.keep⟩
end
theorem Jky {l : List Vl} {k pick : Int} {ins : List Ty} (h : l.length = 1) : (Kh l k pick ins 0).headD [] = KB (XO l 0) (JC k pick ins 0) := by
  match l, h with
  | [x], _ => rw [Kh]; rfl
theorem Jpu {a b c d : Nat} {bits : List Bool} {pb : Pl} {items : List Vl} {pi : Pl} {pick k n : Int} {p : Pl} {ins : List Ty} (hcz : V0 (.mk k n p ins) 0 = 0) (hfit : JW (.mk a b c d bits pb items pi pick) (.mk k n p ins) = 0) (hk : k = 3 ∨ k = 4 ∨ k = 7) : (Xa k n ins items (Kh items k 0 ins 0)).length = 32 := by
  obtain ⟨q1, q2, q3⟩ := Zn hcz hfit
  have hrow := fun (j : Nat) x (h : items[j]? = some x) => wa hcz hfit (by omega) h
  have hrs : ∀ s ∈ Kh items k 0 ins 0, s.length = 32 := fun s hs => by
    obtain ⟨j, x, h1, rfl⟩ := Yp hs
    rw [Nat.zero_add]
    obtain ⟨_, r1, r2, r3⟩ := hrow j x h1
    exact Yq x _ 0 r2 r3
  have hrl := WA items k 0 ins 0
  unfold Xa
  by_cases h7 : k = 7
  · rw [if_pos h7]
    exact Wd (by have := q3 h7; omega) hrs
  · rw [if_neg h7]
    obtain ⟨w1, w2, w3, w4⟩ := q1 (by omega)
    match ins, w4 with
    | [x0], _ =>
    rw [show [x0].getD 0 default = x0 from rfl]
    by_cases hp : X8 x0 = true
    · rw [if_pos hp]
      have hc0 := VY hcz _ List.mem_cons_self
      obtain ⟨f1, f2, f3, f4⟩ := ZM hc0 hp
      refine Wd ?_ (ZL _); rw [Zm]
      unfold Ja1
      have hz : ∀ v ∈ items, (QM v x0).length = (JQ x0).toNat := fun v hv => by
        obtain ⟨j, hj⟩ := List.getElem?_of_mem hv
        have hg := (hrow j v hj).2.2.2
        rw [Zv h7 (by omega)] at hg
        have := f4 v hg
        omega
      rw [qb hz]
      have hm : items.length * (JQ x0).toNat ≤ n.toNat * (JQ x0).toNat := Nat.mul_le_mul_right _ (by omega)
      omega
    · rw [if_neg hp]
      exact Wd (by omega) hrs
set_option maxHeartbeats 1000000 in
theorem Jxb {R : Jo} {v : Vl} (hv : v.In R) : ∀ (t : Ty) (dp : Nat), t.In R → V0 t (dp : Int) = 0 → JW v t = 0 → wV v ≤ 20000 → PureR Tryz.prog 85 [t.val, v.val].toArray (J3 (KB v t)) R := by
  have hv0 := hv
  induction hv with
  | @mk a b c d bits pb items pi pick ha hb hcc hd hlb hsb hl hs hp hi ih =>
  intro t dp ht hck hfit hw
  obtain ⟨k, n, p, ins⟩ := t
  have ht0 := ht
  cases ht with
  | mk hk hn hlt hst hit =>
  obtain ⟨hk8, ho, h6, hci⟩ := Qy hck
  obtain ⟨hf1, hf2, hf3⟩ := We hfit
  obtain ⟨m1, m2, m3, m4⟩ := qa hck hfit
  obtain ⟨q1, q2, q3⟩ := Zn hck hfit
  have hcz := yr hck
  have hrow := fun (h8 : k ≠ 8) (j : Nat) x (h : items[j]? = some x) => wa hcz hfit h8 h
  have hwi : ∀ x ∈ items, wV x ≤ 20000 := fun x hx => Nat.le_trans (ym hx) hw
  have hrec : k ≠ 8 → ∀ (i : Nat) x, items[i]? = some x → PureR Tryz.prog 85 [(JC k 0 ins i).val, x.val].toArray (J3 (KB x (JC k 0 ins i))) R := fun h8 i x hx => by
    obtain ⟨_, r1, r2, r3⟩ := hrow h8 i x hx
    have hm := List.mem_of_getElem? hx
    exact ih x hm (hi x hm) _ 0 (hit _ r1) r2 r3 (hwi x hm)
  have hlen := Yq _ _ dp hck hfit
  rw [WT] at hlen ⊢
  by_cases h1 : k = 1
  · subst h1
    rw [if_pos (.inl rfl)]; exact XU rfl (enters_of Tryz.func125 (by kernel_rfl) rfl) (Jdt _ hv0).toR
  by_cases h2 : k = 2
  · subst h2
    rw [if_pos (.inr rfl)]; exact XU rfl (enters_of Tryz.func125 (by kernel_rfl) rfl) (Jdt _ hv0).toR
  rw [if_neg (by omega)] at hlen ⊢
  have hone : k ≠ 7 → k ≠ 8 → ∀ x0, ins = [x0] → ∀ N : Nat, n = (N : Int) → N ≤ 512 → items.length ≤ N → PureR Tryz.prog 127 [Ty.val (.mk k n p ins), KP items.length pi].toArray (J3 (Xa k n ins items (Kh items k 0 ins 0))) R := fun h7 h8 x0 e N en hN hle => by
    subst e; subst en; refine Jxa ht0 h7 h8 (VY hcz _ List.mem_cons_self) hs hle hN (fun v hv => ?_) hwi hi fun i x hx => ?_
    · obtain ⟨j, hj⟩ := List.getElem?_of_mem hv
      have := (hrow h8 j v hj).2.2.2
      rwa [Zv h7 h8] at this
    · have := hrec h8 i x hx
      rwa [Zv h7 h8] at this
  by_cases h4 : k = 4
  · subst h4
    obtain ⟨w1, w2, w3, w4⟩ := q1 (.inr rfl)
    rw [if_pos rfl, yp (by decide)] at hlen ⊢
    have hrl : (Xa 4 n ins items (Kh items 4 0 ins 0)).length = 32 := Jpu hcz hfit (.inr (.inl rfl))
    obtain ⟨x0, hx0⟩ := List.length_eq_one_iff.1 w4
    exact XU rfl (enters_of Tryz.func128 (by kernel_rfl) rfl) (J0k hs hrl m1 (hone (by decide) (by decide) x0 hx0 n.toNat (by omega) (by omega) (by omega)))
  rw [if_neg h4] at hlen ⊢
  by_cases h5 : k = 5
  · subst h5
    obtain ⟨w1, w2, w3⟩ := q2 (.inl rfl)
    rw [if_pos rfl] at hlen ⊢; refine XU rfl (enters_of Tryz.func130 (by kernel_rfl) rfl) (J0l ?_)
    have := Ji2 (k := 5) (p := p) (ins := ins) (l := bits) (n := n.toNat) (by omega) (by omega) hsb
    rwa [show ((n.toNat : Nat) : Int) = n by omega] at this
  rw [if_neg h5] at hlen ⊢
  by_cases h6 : k = 6
  · subst h6
    obtain ⟨w1, w2, w3⟩ := q2 (.inr rfl)
    rw [if_pos rfl] at hlen ⊢; refine XU rfl (enters_of Tryz.func132 (by kernel_rfl) rfl) (J0m hsb (Wd (qD w3) (ZL _)) m2 ?_)
    have := Ji2 (k := 6) (p := p) (ins := ins) (l := bits) (n := n.toNat) (by omega) (by omega) hsb
    rwa [show ((n.toNat : Nat) : Int) = n by omega] at this
  rw [if_neg h6] at hlen ⊢
  by_cases h8 : k = 8
  · subst h8
    obtain ⟨w1, w2, w3, w4⟩ := m4 rfl
    obtain ⟨m, rfl⟩ : ∃ m : Nat, pick = (m : Int) := ⟨pick.toNat, by omega⟩
    have hx8 := XQ (l := items) (i := 0) (by omega)
    have hg := VB (j := 0) hf3 hx8.1
    have hin := ji (v := .mk a b c d bits pb items pi (m : Int)) (i := 0) hcz hf2 (show 0 < items.length by omega)
    have hty := Qi hin
    have hX := ih _ hx8.2 (hi _ hx8.2) _ 0 (hit _ hty.2) (VY hcz _ hty.2) hg (hwi _ hx8.2)
    have hXl := Yq _ _ 0 (VY hcz _ hty.2) hg
    rw [if_pos rfl, Jky w1, Int.toNat_natCast]; exact XU rfl (enters_of Tryz.func136 (by kernel_rfl) rfl) (J0o hst hs (by omega) (show ins[m]? = some _ from hty.1) hx8.1 hXl hX)
  rw [if_neg h8, yp h8] at hlen ⊢
  by_cases h3 : k = 3
  · subst h3
    obtain ⟨w1, w2, w3, w4⟩ := q1 (.inl rfl)
    obtain ⟨x0, hx0⟩ := List.length_eq_one_iff.1 w4
    exact XU rfl (enters_of Tryz.func126 (by kernel_rfl) rfl) (J0j (hone (by decide) (by decide) x0 hx0 n.toNat (by omega) (by omega) (by omega)))
  have h7 : k = 7 := by omega
  subst h7
  obtain ⟨w1, w2, w3⟩ := q3 rfl
  have hM : Xa 7 n ins items (Kh items 7 0 ins 0) = Vi (Kh items 7 0 ins 0) ins.length := by unfold Xa; rw [if_pos rfl]
  rw [hM]
  have hrl := WA items 7 0 ins 0
  refine XU rfl (enters_of Tryz.func133 (by kernel_rfl) rfl) (J0n hst (by omega) w3 (fun s hs => ?_) (xm ht0 (by decide) hs (by omega) (fun i hi => ?_) (hrec (by decide))))
  · obtain ⟨j, x, h1, rfl⟩ := Yp hs
    rw [Nat.zero_add]
    obtain ⟨_, r1, r2, r3⟩ := hrow (by decide) j x h1
    exact Yq x _ 0 r2 r3
  · show i < ins.length
    omega
def Yu (t : Ty) (v : Vl) : BS × Int := if QT t v ≠ 0 then ([], QT t v) else (KB v t, 0)
theorem Jtw {R : Jo} {t : Ty} {v : Vl} (ht : t.In R) (hv : v.In R) (hw : wV v ≤ 20000) : PureR Tryz.prog 58 [t.val, v.val].toArray (jm (Yu t v)) R := by
  have h1 := Jnb ht hv
  have h2 := fun h => Jxb hv t 0 ht (X6 (t := t) (v := v) h).1 (X6 h).2 hw
  unfold Yu
  generalize QT t v = e at h1 h2 ⊢
  generalize KB v t = s at h2 ⊢
  obtain ⟨k, n, p, ins⟩ := t
  obtain ⟨a, b, c, d, bits, pb, items, pi, pick⟩ := v
  refine Je Tryz.func58 rfl rfl fun w => ?_; refine sR fun _ hK1 => ?_; refine LN rfl fun r1 => ?_; refine LN rfl fun r2 => ?_; refine LS 2 [] rfl rfl (nK hK1 ?_); refine sQ fun _ hK2 => sR fun _ hK3 => ?_; refine LS 2 [1, 0] rfl rfl ?_; refine Jh rfl rfl rfl (enters_of Tryz.func76 (by kernel_rfl) rfl) h1 (fun q hq => Or.inr hq) ?_; refine Ji rfl (nK hK3 ?_); refine sR fun _ hK4 => LS 2 [] rfl rfl (nK hK4 ?_); refine Jc rfl (fun h5 => ?_) (fun h5 => ?_)
  try simp only [ZZ] at h5
  refine sR fun _ hK6 => LS 3 [] rfl rfl (nK hK6 ?_); refine Jb (Jd ?_); refine Jt rfl rfl (.cons (J1 rfl) (.cons (J1 rfl) .nil)) (fun w1 hs1 => ?_); refine ⟨?_, hs1.keep⟩; rw [if_pos (by omega)]; rfl
  · try simp only [ZZ] at h5
    refine Jg (hK2 ?_); refine sR fun _ hK7 => LS 2 [1, 0] rfl rfl ?_; refine Jh rfl rfl rfl Jru (h2 (by omega)) (fun q hq => Or.inr hq) ?_; refine LS 2 [] rfl rfl (nK hK7 ?_); refine Jb ?_; refine Jt rfl rfl (.cons (J1 rfl) (.cons (J1 rfl) .nil)) (fun w1 hs1 => ?_); refine ⟨?_, hs1.keep⟩; rw [if_neg (by omega)]; rfl
section
variable {c : Cx} {l : Ko} {L : Jo} {X : XP} {d : List Deferred} {i : Nat} {ps : String} {af : Array Edge} {gd : Option (Nat × Bool)} {ty : TypeId}
end
section
variable {a b c d : Nat} {bits : List Bool} {pb : Pl} {items : List Vl} {pi : Pl} {pick n : Int} {p : Pl} {ins : List Ty}
end
theorem Ji4 (l : List Vl) : (Xe l).length = l.length := by rw [QZ, List.length_map]
theorem Jvl : ∀ l : List Vl, (∀ x ∈ l, wV (VH x) = wV x) → wL (Xe l) = wL l
  | [], _ => by rw [Xe]
  | x :: xs, h => by rw [Xe, wL, wL, h x List.mem_cons_self, Jvl xs fun y hy => h y (List.mem_cons_of_mem _ hy)]
theorem Jpv (v : Vl) : wV (VH v) = wV v := by
  induction v using Vl.ind with
  | h a b c d bits pb items pi pick ih => rw [KE, wV, wV, Jvl items ih]
theorem Ji5 (k pick : Int) (ins : List Ty) : ∀ (l : List Vl), (∀ x ∈ l, ∀ t, JW (VH x) t = JW x t) → ∀ i : Nat, Qt (Xe l) k pick ins i = Qt l k pick ins i
  | [], _, i => by rw [Xe]
  | x :: xs, h, i => by rw [Xe, Qt, Qt, h x List.mem_cons_self, Ji5 k pick ins xs fun y hy => h y (List.mem_cons_of_mem _ hy)]
theorem Jxc (k n : Int) (m : Nat) (v : Vl) : zt k n m (VH v) = zt k n m v := by
  obtain ⟨a, b, c, d, bits, pb, items, pi, pick⟩ := v
  rw [KE]; rw [KY k n m a b c d bits none (Xe items) none pick _ rfl, KY k n m a b c d bits pb items pi pick _ rfl]; simp only [KK, Ji4]
theorem Jbh (v : Vl) : ∀ t, JW (VH v) t = JW v t := by
  induction v using Vl.ind with
  | h a b c d bits pb items pi pick ih =>
  intro t
  obtain ⟨k, n, p, ins⟩ := t
  have hl := Ji4 items
  have ho := Jxc k n ins.length (.mk a b c d bits pb items pi pick)
  rw [KE] at ho ⊢; rw [JW, JW, hl, Ji5 k pick ins items ih, ho]
abbrev b8c (r3 : Nat) : Nat × Obj := (r3, .cells #[.int .i64 1, .int .i64 2, .slice none 0 0, .int .i64 6, .int .i64 8, .slice none 0 0, .int .i64 2, .int .i64 0, .slice none 0 0] 76 (0, 0))
abbrev d8c (r5 : Nat) : Nat × Obj := (r5, .cells #[.int .u64 258, .int .u64 0, .int .u64 0, .int .u64 0, .slice none 0 0, .slice none 0 0, .int .i64 0, .int .u64 0, .int .u64 0, .int .u64 0, .int .u64 0, .slice none 0 0, .slice none 0 0, .int .i64 0, .int .u64 1, .int .u64 0, .int .u64 0, .int .u64 0, .slice none 0 0, .slice none 0 0, .int .i64 0] 81 (0, 0))
theorem Ji6 {t : Ty} {v : Vl} (h : (Ws t v).2 = 0) : QT t v = 0 ∧ (QM v t).length ≤ 65536 ∧ Ws t v = (QM v t, 0) := by
  unfold Ws at h ⊢
  by_cases h1 : QT t v = 0
  · rw [if_neg (by rw [h1]; decide)] at h ⊢
    by_cases h2 : 65536 < (QM v t).length
    · rw [if_pos h2] at h; cases h
    · rw [if_neg h2]; exact ⟨h1, by omega, rfl⟩
  · rw [if_pos h1] at h; exact absurd h h1
theorem Jtx {t : Ty} {v : Vl} (h : (Ws t v).2 ≠ 0) : (Ws t v).1 = [] ∧ (QT t v = (Ws t v).2 ∨ (Ws t v).2 = 5) := by
  unfold Ws at h ⊢
  by_cases h1 : QT t v ≠ 0
  · rw [if_pos h1]; exact ⟨rfl, .inl rfl⟩
  · rw [if_neg h1] at h ⊢
    by_cases h2 : 65536 < (QM v t).length
    · rw [if_pos h2]; exact ⟨rfl, .inr rfl⟩
    · rw [if_neg h2] at h; exact absurd rfl h
theorem Jpw {R : Jo} {t : Ty} {v : Vl} (hv : v.In R) (hw : wV v ≤ 20000) (h : (Ws t v).2 = 0) : getR t (QM v t) = (VH v, 0) := by
  obtain ⟨h1, h2, _⟩ := Ji6 h
  obtain ⟨hc, hf⟩ := X6 h1
  unfold getR
  rw [if_neg (by rw [hc]; decide), if_neg (by omega)]; exact Jtk hv t hc hf hw
section
variable {a b c d : Nat} {bits : List Bool} {pb : Pl} {items : List Vl} {pi : Pl} {pick n : Int} {p p' : Pl} {ins : List Ty}
end
structure OInv (s : BS) (H : Nat) (TY : List Ty) (i A la : Nat) (pre : List Nat) : Prop where
  le : i ≤ TY.length
  at_ : (A : Int) = JU (TY.take i)
  off : Qu s H TY 0 H false = (Qu s H (TY.drop i) A la (decide (0 < pre.length))).map (pre ++ ·)
section
variable {s : BS} {H : Nat} {TY : List Ty} {i A la : Nat} {pre : List Nat} {x : Ty}
theorem OInv.start : OInv s H TY 0 0 H [] := ⟨Nat.zero_le _, rfl, by rw [List.drop_zero, show decide (0 < ([] : List Nat).length) = false from rfl]; cases Qu s H TY 0 H false <;> rfl⟩
theorem OInv.bound (h : OInv s H TY i A la pre) (hx : TY[i]? = some x) (hH : JU TY = (H : Int)) : (A : Int) + V1 x ≤ H := by
  have e : TY = TY.take i ++ (x :: TY.drop (i + 1)) := by rw [← KO hx, List.take_append_drop]
  rw [e, VA, JU] at hH
  have := ZR (TY.drop (i + 1))
  have := h.at_
  omega
theorem OInv.fix (h : OInv s H TY i A la pre) (hx : TY[i]? = some x) (hf : JB x = true) (h0 : 0 ≤ JQ x) : OInv s H TY (i + 1) (A + (JQ x).toNat) la pre := by
  have h1 := h.off
  rw [KO hx, Qu, if_pos hf] at h1; refine ⟨(List.getElem?_eq_some_iff.1 hx).1, ?_, h1⟩; rw [Ks hx, VA, JU, JU, V1, if_pos hf, ← h.at_]; omega
theorem OInv.bad (h : OInv s H TY i A la pre) (hx : TY[i]? = some x) (hf : JB x = false) {v : Nat} (hv : v = Wq ((s.drop A).take 4)) (hb : (¬ 0 < pre.length ∧ v ≠ H) ∨ v < la ∨ s.length < v) : Qu s H TY 0 H false = none := by
  subst hv
  rw [h.off, KO hx, Qu, if_neg (by rw [hf]; decide), if_pos (by
    rcases hb with ⟨h1, h2⟩ | h1
    · exact .inl ⟨decide_eq_false h1, h2⟩
    · exact .inr h1)]
  rfl
theorem OInv.var (h : OInv s H TY i A la pre) (hx : TY[i]? = some x) (hf : JB x = false) {v : Nat} (hv : v = Wq ((s.drop A).take 4)) (h1 : 0 < pre.length ∨ v = H) (h2 : la ≤ v) (h3 : v ≤ s.length) : OInv s H TY (i + 1) (A + 4) v (pre ++ [v]) := by
  have hn : ¬ JB x = true := by rw [hf]; decide
  have hlv : Wq ((s.drop A).take 4) = v := hv.symm
  have ho := h.off
  rw [KO hx, Qu, if_neg hn, hlv, if_neg (by
    rintro (⟨g1, g2⟩ | g | g)
    · simp only [decide_eq_false_iff_not] at g1; omega
    · omega
    · omega), Option.map_map] at ho
  refine ⟨(List.getElem?_eq_some_iff.1 hx).1, ?_, ?_⟩
  · rw [Ks hx, VA, JU, JU, V1, if_neg hn, ← h.at_]; omega
  · rw [ho, show decide (0 < (pre ++ [v]).length) = true by simp]
    congr 1
    funext r
    simp
theorem OInv.done (h : OInv s H TY TY.length A la pre) : Qu s H TY 0 H false = if ¬ 0 < pre.length ∧ H ≠ s.length then none else some (pre ++ [s.length]) := by
  rw [h.off, List.drop_length, Qu]
  by_cases hc : ¬ 0 < pre.length ∧ H ≠ s.length
  · rw [if_pos hc, if_pos ⟨decide_eq_false hc.1, hc.2⟩]; rfl
  · rw [if_neg hc, if_neg (by rintro ⟨g1, g2⟩; exact hc ⟨of_decide_eq_false g1, g2⟩)]; rfl
end
theorem Ji7 : ∀ {l : List (Gf × BS)}, (∀ q ∈ l, Nonempty (VR (q.1 q.2).1)) → ∃ (vs : List Vl) (E : Jo), (∀ x ∈ vs, x.In E) ∧ vs.map VH = (Vs l).1 ∧ vs.length ≤ l.length
  | [], _ => ⟨[], [], fun x hx => (nomatch hx), rfl, Nat.le_refl _⟩
  | (f, s) :: l, h => by
    obtain ⟨vs, E, h1, h2, h3⟩ := Ji7 (l := l) fun q hq => h q (List.mem_cons_of_mem _ hq)
    obtain ⟨y⟩ := h (f, s) List.mem_cons_self
    rw [Vs]
    split
    · exact ⟨[], [], fun x hx => (nomatch hx), rfl, Nat.zero_le _⟩
    · split
      · exact ⟨[], [], fun x hx => (nomatch hx), rfl, Nat.zero_le _⟩
      · refine ⟨y.x :: vs, y.L ++ E, fun x hx => ?_, ?_, ?_⟩
        · rcases List.mem_cons.1 hx with rfl | hx
          · exact y.ok.mono fun q hq => List.mem_append_left _ hq
          · exact (h1 x hx).mono fun q hq => List.mem_append_right _ hq
        · rw [List.map_cons, y.er, h2]
        · simp only [List.length_cons]; omega
theorem Jty {xs : List Value} {n e : Nat} (h : xs.length = n * 7) : Seg [(0, .cells xs.toArray e (0, 0))] n xs (some (⟨0, 0, none⟩, n)) := ⟨Nat.le_refl _, fun _ => ⟨rfl, _, _, _, List.mem_singleton_self _, by simp⟩⟩
theorem Jxd {R : Jo} {t : Ty} (ht : t.In R) : V0 t 0 = 0 → ∀ s : BS, s.length ≤ 100000 → Nonempty (VR (KH t s).1) := by
  induction ht with
  | @mk k n p ins hk hn hil hs hi ih =>
  intro hc s hl
  obtain ⟨hk8, ho, _, _⟩ := Qy hc
  have hsub := VY hc
  have z : ∀ {e : Int}, Nonempty (VR ((v0L, e) : Vl × Int).1) := ⟨⟨v0L, [], Jiz, rfl⟩⟩
  have nm : ∀ {e : Int}, Nonempty (VR ((vn (Xi s), e) : Vl × Int).1) := by
    obtain ⟨a, b, c, d, hnm⟩ := Ja8 s
    exact ⟨⟨.mk a b c d [] none [] none 0, [], Jgg hnm, by rw [KE, Xe, hnm]; rfl⟩⟩
  have bt : ∀ {m : Nat} {e : Int}, m ≤ 800000 → Nonempty (VR ((Zo (JH s m), e) : Vl × Int).1) := fun {m e} hm => ⟨⟨.mk 0 0 0 0 (JH s m) (some (⟨0, 0, none⟩, m)) [] none 0, _, yD (r := 0) (e := 0) (sp := []) (Nat.le_refl m) (Nat.le_refl m) hm, by rw [KE, Xe]; rfl⟩⟩
  have it : ∀ {vs : List Vl} {E : Jo} {pick e : Int}, (∀ x ∈ vs, x.In E) → vs.length ≤ 1000000 → jx pick → Nonempty (VR ((JX (vs.map VH) pick, e) : Vl × Int).1) := fun {vs E pick e} h1 h2 h3 => ⟨⟨.mk 0 0 0 0 [] none vs (some (⟨0, 0, none⟩, vs.length)) pick, _, Zr (Lr := [(0, .cells (Qf vs).toArray 0 (0, 0))]) (by omega) (Jty (Jtu vs)) h1 h3, by rw [KE, QZ]; rfl⟩⟩
  by_cases hnf : JB (.mk k n p ins) = true ∧ (s.length : Int) ≠ JQ (.mk k n p ins)
  · rw [g_w hnf]; exact z
  by_cases h1 : k = 1
  · rw [g_1 hnf h1]; exact nm
  by_cases h2 : k = 2
  · rw [g_2 hnf h1 h2]; split
    · exact z
    · exact nm
  by_cases h5 : k = 5
  · rw [g_5 hnf h1 h2 h5]; split
    · exact z
    · exact bt (by subst h5; unfold Kf at ho; simp at ho; omega)
  by_cases h6 : k = 6
  · rw [g_6 hnf h1 h2 h5 h6]; unfold blT; split
    · exact z
    · rename_i hno
      split
      · exact z
      · exact bt (by have := (Ja3 hno).1; omega)
  by_cases h8 : k = 8
  · by_cases hse : s = []
    · rw [Jy1 hnf h1 h2 h5 h6 h8 hse]; exact z
    by_cases hb : ins.length ≤ (s.getD 0 0).toNat
    · rw [Jy2 hnf h1 h2 h5 h6 h8 hse hb]; exact z
    obtain ⟨x, hx⟩ : ∃ x, ins[(s.getD 0 0).toNat]? = some x := ⟨_, List.getElem?_eq_getElem (by omega)⟩
    have hxm := List.mem_of_getElem? hx
    rw [g_8 hnf h1 h2 h5 h6 h8 hse hx]
    split
    · exact z
    · obtain ⟨y⟩ := ih x hxm (hsub x hxm) (s.drop 1) (by rw [List.length_drop]; omega)
      have := it (vs := [y.x]) (E := y.L) (pick := ((s.getD 0 0).toNat : Int)) (e := 0) (fun z hz => by rw [List.mem_singleton.1 hz]; exact y.ok) (by simp) (by have := Vg (s.getD 0 0); unfold jx; omega)
      rw [List.map_singleton, y.er] at this; exact this
  · have hk3 : k = 3 ∨ k = 4 ∨ k = 7 := by omega
    have hmX := qf (s := s) hk8 ho hk3
    rw [g_r hnf h1 h2 h5 h6 h8, Jiw hmX]
    split
    · exact z
    · rename_i hp0
      have hp0 := Decidable.not_not.1 hp0
      split
      · exact z
      · have hmm : (JT k n ins s).2 = 0 := Decidable.byContradiction fun hm => hm (by rw [← ZS hm]; exact hp0)
        have hPl : (Yz k n ins s).length ≤ 512 := by unfold Yz; rw [ZP, WS]; exact (qe hk8 ho hk3 hmm).1
        obtain ⟨vs, E, g1, g2, g3⟩ := Ji7 (l := (Yz k n ins s).map (gq s)) (fun q hq => by
          obtain ⟨⟨x, f, f2⟩, hm, rfl⟩ := List.mem_map.1 hq
          obtain ⟨i, hi⟩ := List.getElem?_of_mem hm
          have hxm := Jpl (hmX hmm) hi
          exact ih x hxm (hsub x hxm) ((s.take f2).drop f) (by rw [List.length_drop, List.length_take]; omega))
        rw [List.length_map] at g3; rw [← g2]; exact it g1 (by omega) i0
theorem Ji8 {s : BS} {H : Nat} : ∀ {ts : List Ty} {a la : Nat} {op : Bool} {os : List Nat}, Qu s H ts a la op = some os → 0 < os.length
  | [], _, _, _, _, h => by
    rw [Qu] at h
    split at h
    · cases h
    · cases h; exact Nat.one_pos
  | x :: xs, a, la, op, os, h => by
    rw [Qu] at h
    split at h
    · exact Ji8 h
    · split at h
      · cases h
      · obtain ⟨r, h2, rfl⟩ := Option.map_eq_some_iff.1 h
        exact Nat.succ_pos _
structure RInv (s : BS) (H : Nat) (TY : List Ty) (ps : List (Ty × Nat × Nat)) (os : List Nat) (i A m : Nat) : Prop where
  le : i ≤ TY.length
  at_ : (A : Int) = JU (TY.take i)
  tl : ps.drop i = KF (TY.drop i) A (os.drop m)
  off : ∃ la op, Qu s H (TY.drop i) A la op = some (os.drop m)
section
variable {s : BS} {H : Nat} {TY : List Ty} {ps : List (Ty × Nat × Nat)} {os : List Nat} {i A m : Nat} {x : Ty}
theorem RInv.start (h : Qu s H TY 0 H false = some os) : RInv s H TY (KF TY 0 os) os 0 0 0 := ⟨Nat.zero_le _, rfl, rfl, ⟨H, false, h⟩⟩
theorem Jvm {α : Type} {l r : List α} {i : Nat} {q : α} (h : l.drop i = q :: r) : l[i]? = some q ∧ l.drop (i + 1) = r := by
  have h1 : (l.drop i)[0]? = some q := by rw [h]; rfl
  rw [List.getElem?_drop, Nat.add_zero] at h1; exact ⟨h1, by rw [KO h1] at h; exact (List.cons.inj h).2⟩
theorem RInv.bound (h : RInv s H TY ps os i A m) (hx : TY[i]? = some x) (hH : JU TY = (H : Int)) : (A : Int) + V1 x ≤ H := by
  have e : TY = TY.take i ++ (x :: TY.drop (i + 1)) := by rw [← KO hx, List.take_append_drop]
  rw [e, VA, JU] at hH
  have := ZR (TY.drop (i + 1))
  have := h.at_
  omega
theorem RInv.fix (h : RInv s H TY ps os i A m) (hx : TY[i]? = some x) (hf : JB x = true) (h0 : 0 ≤ JQ x) : ps[i]? = some (x, A, A + (JQ x).toNat) ∧ RInv s H TY ps os (i + 1) (A + (JQ x).toNat) m := by
  have h1 := h.tl
  obtain ⟨la, op, h2⟩ := h.off
  rw [KO hx, KF, if_pos hf] at h1; rw [KO hx, Qu, if_pos hf] at h2
  obtain ⟨g1, g2⟩ := Jvm h1
  refine ⟨g1, (List.getElem?_eq_some_iff.1 hx).1, ?_, g2, ⟨la, op, h2⟩⟩; rw [Ks hx, VA, JU, JU, V1, if_pos hf, ← h.at_]; omega
theorem RInv.var (h : RInv s H TY ps os i A m) (hx : TY[i]? = some x) (hf : JB x = false) : m + 1 < os.length ∧ ps[i]? = some (x, os.getD m 0, os.getD (m + 1) 0) ∧ RInv s H TY ps os (i + 1) (A + 4) (m + 1) := by
  have hn : ¬ JB x = true := by rw [hf]; decide
  have h1 := h.tl
  obtain ⟨la, op, h2⟩ := h.off
  rw [KO hx, KF, if_neg hn] at h1; rw [KO hx, Qu, if_neg hn] at h2
  split at h2
  · cases h2
  · obtain ⟨r, h3, h4⟩ := Option.map_eq_some_iff.1 h2
    have hp := Ji8 h3
    have hlen : (os.drop m).length = r.length + 1 := by rw [← h4]; rfl
    rw [List.length_drop] at hlen
    have ht : (os.drop m).tail = os.drop (m + 1) := by rw [List.tail_drop]
    have e0 : (os.drop m).getD 0 0 = os.getD m 0 := by rw [List.getD_eq_getElem?_getD, List.getD_eq_getElem?_getD, List.getElem?_drop, Nat.add_zero]
    have e1 : (os.drop m).getD 1 0 = os.getD (m + 1) 0 := by rw [List.getD_eq_getElem?_getD, List.getD_eq_getElem?_getD, List.getElem?_drop]
    rw [ht, e0, e1] at h1
    obtain ⟨g1, g2⟩ := Jvm h1
    refine ⟨by omega, g1, (List.getElem?_eq_some_iff.1 hx).1, ?_, g2, ⟨Wq ((s.drop A).take 4), true, ?_⟩⟩
    · rw [Ks hx, VA, JU, JU, V1, if_neg hn, ← h.at_]; omega
    · rw [h3, ← ht, ← h4]; rfl
end
theorem Jpx (t : Ty) : (Xn t).k = t.k := by cases t; rw [Xn]; rfl
theorem Jvn (t : Ty) : (Xn t).n = t.n := by cases t; rw [Xn]; rfl
theorem Ji9 (t : Ty) : (Xn t).ins = VM t.ins := by cases t; rw [Xn]; rfl
theorem erT_def : Xn default = default := by show Xn (.mk 0 0 none []) = .mk 0 0 none []; rw [Xn, VM]
mutual
theorem ql : ∀ (t : Ty) (d : Int), V0 (Xn t) d = V0 t d
  | .mk k n p ins, d => by rw [Xn, V0, V0, Jei ins, Zt]
theorem Jei : ∀ (l : List Ty) (d : Int), XW (VM l) d = XW l d
  | [], _ => by rw [VM]
  | x :: xs, d => by rw [VM, XW, XW, ql x, Jei xs]
end
mutual
theorem Jej : ∀ (t : Ty), Wr (Xn t) = Wr t
  | .mk k n p ins => by rw [Xn, Wr, Wr, Jek ins]
theorem Jek : ∀ (l : List Ty), jh (VM l) = jh l
  | [] => by rw [VM]
  | x :: xs => by rw [VM, jh, jh, Jej x, Jek xs]
end
mutual
theorem XB : ∀ (t : Ty), JQ (Xn t) = JQ t
  | .mk k n p ins => by rw [Xn, JQ, JQ, Jel ins]
theorem Jel : ∀ (l : List Ty), VK (VM l) = VK l
  | [] => by rw [VM]
  | x :: xs => by rw [VM, VK, VK, XB x, Jel xs]
end
theorem Xo (t : Ty) : JB (Xn t) = JB t := by unfold JB; rw [ql, Jej]
theorem Jpy (t : Ty) : V1 (Xn t) = V1 t := by unfold V1; rw [Xo, XB]
theorem yK : ∀ l : List Ty, JU (l.map Xn) = JU l
  | [] => rfl
  | x :: xs => by rw [List.map_cons, JU, JU, Jpy, yK xs]
theorem Jem (ins : List Ty) (i : Nat) : (VM ins).getD i default = Xn (ins.getD i default) := by
  rw [yH, List.getD_eq_getElem?_getD, List.getD_eq_getElem?_getD, List.getElem?_map]
  cases ins[i]? with
  | none => exact erT_def.symm
  | some x => rfl
theorem Zw (k pick : Int) (ins : List Ty) (i : Nat) : JC k pick (VM ins) i = Xn (JC k pick ins i) := by unfold JC; exact Jem ins _
mutual
theorem Jja : ∀ (v : Vl) (t : Ty), JW v (Xn t) = JW v t
  | .mk a b c d bits pb items pi pick, .mk k n p ins => by rw [Xn, JW, JW, Zt, Jen items]
theorem Jen : ∀ (l : List Vl) (k pick : Int) (ins : List Ty) (i : Nat), Qt l k pick (VM ins) i = Qt l k pick ins i
  | [], _, _, _, _ => by rw [Qt, Qt]
  | x :: xs, k, pick, ins, i => by rw [Qt, Qt, Zw, Jja x, Jen xs]
end
theorem Jeo (t : Ty) (v : Vl) : QT (Xn t) v = QT t v := by unfold QT; rw [ql, Jja]
theorem yM (h : Nat) : ∀ (l : List (Ty × BS)) (f th : BS), XG h (l.map fun p => (Xn p.1, p.2)) f th = XG h l f th
  | [], f, th => rfl
  | (x, s) :: l, f, th => by rw [List.map_cons, XG, XG, Xo, yM h l, yM h l]
mutual
theorem Jbi : ∀ (v : Vl) (t : Ty), QM v (Xn t) = QM v t
  | .mk a b c d bits pb items pi pick, t => by
    have h1 : ((Kt items t.k pick t.ins 0).map fun p => (Xn p.1, p.2)).headD (default, []) = (fun p : Ty × BS => (Xn p.1, p.2)) ((Kt items t.k pick t.ins 0).headD (default, [])) := by
      cases Kt items t.k pick t.ins 0 with
      | nil => show (default, []) = (Xn default, []); rw [erT_def]
      | cons x l => rfl
    have h2 : (((Kt items t.k pick t.ins 0).map fun p => (Xn p.1, p.2)).map Prod.fst) = ((Kt items t.k pick t.ins 0).map Prod.fst).map Xn := by rw [List.map_map, List.map_map]; rfl
    rw [QM, QM, Jpx, Jvn, Ji9, Jep items, yM, h1, h2, yK]
theorem Jep : ∀ (l : List Vl) (k pick : Int) (ins : List Ty) (i : Nat), Kt l k pick (VM ins) i = (Kt l k pick ins i).map fun p => (Xn p.1, p.2)
  | [], _, _, _, _ => by rw [Kt, Kt]; rfl
  | x :: xs, k, pick, ins, i => by rw [Kt, Kt, Zw, Jbi x, Jep xs]; rfl
end
theorem Jpz (t : Ty) (v : Vl) : Ws (Xn t) v = Ws t v := by unfold Ws; rw [Jeo, Jbi]
theorem Jp0 (k : Int) (ins : List Ty) (m : Nat) : Kq k (VM ins) m = (Kq k ins m).map Xn := by
  unfold Kq
  rw [List.map_map]; exact List.map_congr_left fun i _ => Zw k 0 ins i
theorem yN (s : BS) (h : Nat) : ∀ (l : List Ty) (a la : Nat) (op : Bool), Qu s h (l.map Xn) a la op = Qu s h l a la op
  | [], _, _, _ => rfl
  | x :: xs, a, la, op => by rw [List.map_cons, Qu, Qu, Xo, XB, yN s h xs, yN s h xs]
theorem qO (s : BS) : ∀ (l : List Ty) (a : Nat) (os : List Nat), Vj s (l.map Xn) a os = Vj s l a os
  | [], _, _ => rfl
  | x :: xs, a, os => by rw [List.map_cons, Vj, Vj, Xo, XB, qO s xs, qO s xs]
theorem Jp1 (k n : Int) (ins : List Ty) (s : BS) : JT k n (VM ins) s = JT k n ins s := by
  unfold JT
  rw [Zt, Zw, Xo, XB]
theorem Jp2 (k n : Int) (ins : List Ty) (fs : List Gf) (s : BS) : ze k n (VM ins) fs s = ze k n ins fs s := by
  unfold ze
  rw [Jp1, Jp0, yK, yN]
  split
  · rfl
  · split
    · rfl
    · cases Qu s (JU (Kq k ins (JT k n ins s).1)).toNat (Kq k ins (JT k n ins s).1) 0 (JU (Kq k ins (JT k n ins s).1)).toNat false with
      | none => rfl
      | some os => simp only [qO]
theorem Jtz (k n : Int) (p : Pl) (ins : List Ty) (fs : List Gf) (s : BS) : ZX k n none (VM ins) fs s = ZX k n p ins fs s := by
  have h1 : JB (.mk k n none (VM ins)) = JB (.mk k n p ins) := by have := Xo (.mk k n p ins); rw [Xn] at this; exact this
  have h2 : JQ (.mk k n none (VM ins)) = JQ (.mk k n p ins) := by have := XB (.mk k n p ins); rw [Xn] at this; exact this
  unfold ZX
  rw [h1, h2, Zt, Jp2]
mutual
theorem Jbj : ∀ (t : Ty), KH (Xn t) = KH t
  | .mk k n p ins => by funext s; rw [Xn, KH, KH, Jeq ins, Jtz k n p]
theorem Jeq : ∀ (l : List Ty), YJ (VM l) = YJ l
  | [] => by rw [VM]
  | x :: xs => by rw [VM, YJ, YJ, Jbj x, Jeq xs]
end
theorem Jp3 (t : Ty) (s : BS) : getR (Xn t) s = getR t s := by unfold getR; rw [ql, Jbj]
theorem Jp4 (items : List Vl) (x : Ty) : Xj items (Xn x) = Xj items x := by unfold Xj; rw [List.map_congr_left fun v _ => Jbi v x]
theorem Jp5 (k n : Int) (ins : List Ty) (items : List Vl) (rs : List BS) : Xa k n (VM ins) items rs = Xa k n ins items rs := by
  unfold Xa X8
  rw [Jem, Zt, Jpx, Jp4, XB]
mutual
theorem Jer : ∀ (v : Vl) (t : Ty), KB v (Xn t) = KB v t
  | .mk a b c d bits pb items pi pick, t => by rw [KB, KB, Jpx, Jvn, Ji9, xo items, Jp5]
theorem xo : ∀ (l : List Vl) (k pick : Int) (ins : List Ty) (i : Nat), Kh l k pick (VM ins) i = Kh l k pick ins i
  | [], _, _, _, _ => by rw [Kh, Kh]
  | x :: xs, k, pick, ins, i => by rw [Kh, Kh, Zw, Jer x, xo xs]
end
theorem Jkz (t : Ty) (v : Vl) : Yu (Xn t) v = Yu t v := by unfold Yu; rw [Jeo, Jer]
def Ya (x : BS × BS) : Vl := JX [Zu x.1, Zu x.2] 0
def xq (a : AcE) : Vl := JX [Zu a.addr, .mk a.nonce 0 0 0 [] none [] none 0, .mk a.bal.a a.bal.b a.bal.c a.bal.d [] none [] none 0, Zu a.code, JX (a.slots.map Ya) 0] 0
def VI (l : List AcE) : Vl := JX (l.map xq) 0
theorem YL : V0 Qg 0 = 0 := by decide +kernel
def Qs (l : List AcE) : BS × Int := if Qa l ≠ 0 then ([], Qa l) else Ws Qg (VI l)
def qm (l : List AcE) : BS × Int := if Qa l ≠ 0 then ([], Qa l) else Yu Qg (VI l)
def XC (v : Vl) : BS := v.items.map fun x => UInt8.ofNat (x.num.getD 0 0)
def Wu (v : Vl) (i : Nat) : Vl := v.items.getD i v0L
def Wv (v : Vl) : BS × BS := (XC (Wu v 0), XC (Wu v 1))
def w4B (v : Vl) : W4 := ⟨v.num.getD 0 0, v.num.getD 1 0, v.num.getD 2 0, v.num.getD 3 0⟩
def acB (v : Vl) : AcE := ⟨XC (Wu v 0), (Wu v 1).num.getD 0 0, w4B (Wu v 2), XC (Wu v 3), (Wu v 4).items.map Wv⟩
def YM (v : Vl) : List AcE := v.items.map acB
def Vf (s : BS) : List AcE × Int := if (getR Qg s).2 ≠ 0 then ([], (getR Qg s).2) else if Qa (YM (getR Qg s).1) ≠ 0 then ([], Qa (YM (getR Qg s).1)) else (YM (getR Qg s).1, 0)
theorem wf (s : BS) : XC (Zu s) = s := by
  unfold XC Zu JX Vl.items
  rw [List.map_map]; exact (List.map_congr_left fun b _ => by show UInt8.ofNat b.toNat = b; simp).trans (List.map_id s)
theorem Jp6 (x : BS × BS) : Wv (Ya x) = x := by
  show (XC (Zu x.1), XC (Zu x.2)) = x
  rw [wf, wf]
theorem Jt0 (a : AcE) : acB (xq a) = a := by
  show AcE.mk (XC (Zu a.addr)) a.nonce ⟨a.bal.a, a.bal.b, a.bal.c, a.bal.d⟩ (XC (Zu a.code)) ((a.slots.map Ya).map Wv) = a
  rw [wf, wf, List.map_map, show (Wv ∘ Ya) = id from funext Jp6, List.map_id]
theorem Jp7 (l : List AcE) : YM (VI l) = l := by
  show (l.map xq).map acB = l
  rw [List.map_map, show (acB ∘ xq) = id from funext Jt0, List.map_id]
def byB (x : Vl) : UInt8 := UInt8.ofNat (x.num.getD 0 0)
theorem Jxf (v : Vl) : XC v = v.items.map byB := rfl
theorem Jk0 (q : Nat) : Value.int .u8 (IntKind.u8.wrap (q : Int)) = bV (UInt8.ofNat q) := by
  rw [jC]
  congr 1
  apply UInt8.toNat_inj.1
  simp
def ofS (l : List Vl) (i : Nat) : BS := (l.take i).map byB ++ List.replicate (l.length - i) 0
theorem Jbk (l : List Vl) {i : Nat} (h : i ≤ l.length) : (ofS l i).length = l.length := by unfold ofS; simp; omega
theorem Jp8 {l : List Vl} {i : Nat} {x : Vl} (h : l[i]? = some x) : ((ofS l i).map bV).set i (bV (byB x)) = (ofS l (i + 1)).map bV := by
  have hlt := (List.getElem?_eq_some_iff.1 h).1
  unfold ofS
  rw [← List.map_set]
  congr 1
  rw [List.set_append_right _ _ (by simp; omega), Ks h, List.map_append, List.append_assoc]
  congr 1
  rw [show (List.map byB (List.take i l)).length = i by simp; omega, Nat.sub_self, show l.length - i = (l.length - (i + 1)) + 1 by omega, List.replicate_succ, List.set_cons_zero]
  rfl
theorem Jt1 {R : Jo} {v : Vl} (hv : v.In R) (hl : v.items.length ≤ 100000) : PureR Tryz.prog 62 [v.val].toArray (J3 (XC v)) R := by
  obtain ⟨a, b, c, d, bits, pb, items, pi, pick⟩ := v
  have hs : Seg R items.length (Qf items) pi := by cases hv; assumption
  change items.length ≤ 100000 at hl; rw [Jxf]; refine Je Tryz.func62 rfl rfl fun w => ?_; refine sR fun _ hK1 => ?_; refine LN rfl fun r1 => ?_; refine Ji rfl (nK hK1 ?_); refine sR fun _ hK2 => ?_
  refine LS 2 [0] rfl rfl ?_; refine LR rfl (J4 rfl hs rfl) ?_; refine Xg (n := items.length) (b := 1) rfl rfl rfl rfl rfl rfl rfl rfl rfl (by omega) (by omega) fun rm => ?_; rw [show List.replicate items.length (Value.int .u8 0) = (ofS items 0).map bV from by unfold ofS; simp [bV]]; refine Ji rfl (nK hK2 ?_); refine sQ fun _ hK3 => sR fun _ hK4 => ?_
  refine LS 2 [1] rfl rfl ?_; refine LR rfl (J4 rfl hs rfl) ?_; refine Ji rfl (nK hK4 ?_); refine Js (JL (σ := Nat) (fun i => i ≤ items.length) (fun i => [(3, .slice (some ⟨rm, 0, none⟩) items.length items.length), (11, KP items.length pi), (12, .int .i64 (items.length : Int)), (13, .int .i64 (i : Int))]) (fun i => [(rm, .cells ((ofS items i).map bV).toArray 5 (0, 0))]) (fun _ _ _ => True) (fun i => items.length - i) 0 (Nat.zero_le _) (.cons rfl (.cons rfl (.cons rfl (.cons rfl .nil)))) (.cons_cons _ (List.nil_sublist _)) (fun _ _ h => h) ?_); intro i hi1; refine sR fun _ hK5 => JY rfl (nK hK5 ?_); refine sQ fun _ hK6 => ?_; refine Jc rfl (fun h7 => ?_) (fun h7 => ?_)
  · try simp only [ZZ] at h7
    refine Jg (hK6 ?_); refine sB fun _ hK8 => sQ fun _ hK9 => ?_
    obtain ⟨⟨ya, yb, yc, yd, ybits, ypb, yitems, ypi, ypick⟩, hx, hxm⟩ := Vt (show i < items.length by omega)
    refine Ja (Ji rfl ?_)
    refine LR rfl (Jr (j := i) rfl hs rfl rfl rfl (by first | rfl | omega) (by omega)) ?_; refine LR rfl (QL (fun q hq => Or.inr hq) rfl hs hx rfl rfl) ?_; refine LN rfl fun r2 => ?_; refine Ji rfl ?_
    refine LT 0 rfl rfl (nK hK9 ?_); refine Ja (LS 3 [] rfl rfl ?_)
    refine LR rfl (JP (j := 0) rfl rfl rfl rfl rfl (by first | decide | omega) (by first | (simp only [Nat.zero_add, Nat.reduceAdd, Nat.reduceMul, Nat.zero_mul, Nat.mul_one, Nat.add_zero]; exact rfl) | exact rfl)) ?_; refine LS 2 [0] rfl rfl ?_; refine Jy (show _ = bV (UInt8.ofNat ya) from Jk0 ya) ?_; refine LR rfl (Kj (j := i) (m := 1) (off' := i) rfl rfl rfl rfl (by omega) (by omega) (by omega)) ?_; refine KV (k := 1) (off := i) (xs := (ofS items i).map bV) (ys := (ofS items (i + 1)).map bV) rfl rfl rfl rfl rfl rfl (by rw [List.length_map, Jbk _ (by omega)]; omega) (Jp8 hx) rfl ?_; refine Jf (Jj (hK8 ?_)); refine Ja ?_
    refine JY rfl ?_; refine Jy (show _ = Value.int .i64 ((i + 1 : Nat) : Int) from by rw [wrap_i64 (by omega) (by omega)]; congr 1 <;> omega) ?_; refine Ji rfl (Jf (J8 ?_)); exact J2 (i + 1) (by omega) (by omega) (.cons rfl (.cons rfl (.cons rfl (.cons rfl .nil)))) (.cons _ (List.Sublist.refl _)) (fun _ _ h => h)
  · try simp only [ZZ] at h7
    refine JJ (Jm ?_); refine Jm (J0 (hK3 ?_)); refine sQ fun _ hK10 => ?_
    obtain rfl : i = items.length := by omega
    refine Ja (Ji rfl ?_); refine LR rfl (QV (b := ofS items items.length) (row := some (rm, items.length, [])) (e := 5) (show _ = some (JD (ofS items items.length).length _) from by rw [Jbk _ (Nat.le_refl _)]; rfl) ⟨by rw [List.length_map]; omega, by rw [Jbk _ (Nat.le_refl _)]; simp⟩ (fun p hp => .inl (by rw [List.mem_singleton.1 hp, List.append_nil]; exact List.mem_cons_self)) rfl rfl rfl) ?_; refine Ji rfl (nK hK10 ?_); refine Jb (pT rfl rfl rfl fun w1 hs1 => ?_); refine ⟨?_, hs1.keep⟩; rw [show ofS items items.length = items.map byB from by unfold ofS; simp]; rfl
theorem Jzc {s : BS} {r : Nat} {Lr : Jo} (hl : s.length ≤ 100000) (h : (r, Obj.cells (Qf (s.map jd)).toArray 0 (0, 0)) ∈ Lr) : Vl.In Lr (.mk 0 0 0 0 [] none (s.map jd) (some (⟨r, 0, none⟩, s.length)) 0) :=
  .mk u0 u0 u0 u0 (by decide) rfl (by rw [List.length_map]; omega) ⟨by rw [List.length_map]; exact Nat.le_refl _, fun _ => ⟨rfl, _, 0, (0, 0), h, by rw [List.drop_zero, List.toList_toArray, List.take_length]⟩⟩ i0 fun x hx => by
    obtain ⟨b, _, rfl⟩ := List.mem_map.1 hx
    exact (Jvh b).mono fun q hq => absurd hq List.not_mem_nil
def Jp9 {s : BS} (hl : s.length ≤ 100000) : VR (Zu s) := ⟨_, [(0, .cells (Qf (s.map jd)).toArray 0 (0, 0))], Jzc hl (List.mem_singleton_self _), Jvi s _⟩
theorem Jqa {Lr : Jo} {its : List Vl} {r e n : Nat} (h : (r, Obj.cells (Qf its).toArray e (0, 0)) ∈ Lr) (hn : its.length = n) (hl : n ≤ 1000) (hi : ∀ x ∈ its, x.In Lr) : Vl.In Lr (.mk 0 0 0 0 [] none its (some (⟨r, 0, none⟩, n)) 0) :=
  .mk u0 u0 u0 u0 (by decide) rfl (by omega) ⟨Nat.le_of_eq hn, fun _ => ⟨rfl, _, e, (0, 0), h, by rw [List.drop_zero, List.toList_toArray, List.take_length]⟩⟩ i0 hi
theorem Jxg {us : List Vl} {F yL zL : Jo} {y z : Vl} {rb e : Nat} (hin : ∀ x ∈ us, x.In F) (hy : y.In yL) (hz : z.In zL) {q : Vl} (hq : q ∈ us ++ [Vl.mk 0 0 0 0 [] none [y, z] (some (⟨rb, 0, none⟩, 2)) 0]) : q.In ((rb, Obj.cells (Qf [y, z]).toArray e (0, 0)) :: (zL ++ (yL ++ F))) := by
  rcases List.mem_append.1 hq with hq | hq
  · exact (hin q hq).mono fun p hp => by simp [hp]
  · rw [List.mem_singleton.1 hq]
    refine Jqa List.mem_cons_self rfl (by decide) fun x hx => ?_; simp only [List.mem_cons, List.not_mem_nil, or_false] at hx
    rcases hx with rfl | rfl
    · exact hy.mono fun p hp => by simp [hp]
    · exact hz.mono fun p hp => by simp [hp]
theorem Jxh {slots : List (BS × BS)} {j : Nat} {us : List Vl} {k v : BS} {y z : Vl} {p : Pl} (her : us.map VH = (slots.take j).map Ya) (hx : slots[j]? = some (k, v)) (hy : VH y = Zu k) (hz : VH z = Zu v) : (us ++ [Vl.mk 0 0 0 0 [] none [y, z] p 0]).map VH = (slots.take (j + 1)).map Ya := by
  rw [List.map_append, her, Ks hx, List.map_append]
  congr 1
  show [VH _] = [Ya (k, v)]
  rw [KE, QZ, List.map_cons, List.map_cons, List.map_nil, hy, hz]; rfl
theorem Jxi {vs us : List Vl} {E F U yL zL : Jo} {y z : Vl} {rb e nonce ba bb bc bd n : Nat} {p : Pl} (hin : ∀ x ∈ vs, x.In E) (hs : Seg U n (Qf us) p) (hn : us.length = n) (hn2 : n ≤ 100000) (hin2 : ∀ x ∈ us, x.In F) (hnu : XD nonce) (hba : W4.ok ⟨ba, bb, bc, bd⟩) (hy : y.In yL) (hz : z.In zL) {q : Vl}
    (hq : q ∈ vs ++ [Vl.mk 0 0 0 0 [] none [y, .mk nonce 0 0 0 [] none [] none 0, .mk ba bb bc bd [] none [] none 0, z, .mk 0 0 0 0 [] none us p 0] (some (⟨rb, 0, none⟩, 5)) 0]) : q.In ((rb, Obj.cells (Qf [y, .mk nonce 0 0 0 [] none [] none 0, .mk ba bb bc bd [] none [] none 0, z, .mk 0 0 0 0 [] none us p 0]).toArray e (0, 0)) :: (zL ++ (yL ++ (U ++ (F ++ E))))) := by
  rcases List.mem_append.1 hq with hq | hq
  · exact (hin q hq).mono fun p hp => by simp [hp]
  · rw [List.mem_singleton.1 hq]
    refine Jqa List.mem_cons_self rfl (by decide) fun x hx => ?_; simp only [List.mem_cons, List.not_mem_nil, or_false] at hx
    rcases hx with rfl | rfl | rfl | rfl | rfl
    · exact hy.mono fun p hp => by simp [hp]
    · exact .mk hnu u0 u0 u0 (by decide) rfl (by decide) rfl i0 (fun x hx => nomatch hx)
    · exact .mk hba.a hba.b hba.c hba.d (by decide) rfl (by decide) rfl i0 (fun x hx => nomatch hx)
    · exact hz.mono fun p hp => by simp [hp]
    · refine .mk u0 u0 u0 u0 (by decide) rfl (by omega) (by rw [hn]; exact hs.mono fun p hp => by simp [hp]) i0 fun x hx => (hin2 x hx).mono fun p hp => by simp [hp]
theorem Jxj {accts : List AcL} {i : Nat} {vs us : List Vl} {addr code : BS} {nonce ba bb bc bd : Nat} {slots : List (BS × BS)} {ap p p2 : Pl} {y z : Vl} (her : vs.map VH = (accts.take i).map fun a => xq a.er) (hx : accts[i]? = some ⟨addr, nonce, ⟨ba, bb, bc, bd⟩, code, slots, ap⟩) (hy : VH y = Zu addr) (hz : VH z = Zu code) (hu : us.map VH = (slots.take slots.length).map Ya) :
    (vs ++ [Vl.mk 0 0 0 0 [] none [y, .mk nonce 0 0 0 [] none [] none 0, .mk ba bb bc bd [] none [] none 0, z, .mk 0 0 0 0 [] none us p 0] p2 0]).map VH = (accts.take (i + 1)).map fun a => xq a.er := by
  rw [List.map_append, her, Ks hx, List.map_append]
  congr 1
  show [VH _] = [xq (AcL.er ⟨addr, nonce, ⟨ba, bb, bc, bd⟩, code, slots, ap⟩)]
  rw [List.take_length] at hu; simp only [KE, QZ, List.map_cons, List.map_nil, hy, hz, hu]
  rfl
theorem Jxk (accts : List AcL) : Vl.mk 0 0 0 0 [] none (accts.map fun a => xq a.er) none 0 = VI (accts.map AcL.er) := by
  unfold VI JX
  rw [List.map_map]; rfl
open Classical in
theorem Jt2 {α : Type} (a b : α) (Z Y M U W : List α) : (a :: b :: (Z ++ (Y ++ (M ++ (U ++ W))))).Perm (U ++ (a :: b :: (M ++ (Z ++ (Y ++ W))))) := by
  rw [List.perm_iff_count]; intro x; simp only [List.count_append, List.count_cons]; omega
open Classical in
theorem Jt3 {α : Type} (a b : α) (Z Y M U F V E : List α) : (a :: b :: (Z ++ (Y ++ (M ++ (U ++ (F ++ (V ++ E))))))).Perm (V ++ (a :: b :: (M ++ (Z ++ (Y ++ (U ++ (F ++ E))))))) := by
  rw [List.perm_iff_count]; intro x; simp only [List.count_append, List.count_cons]; omega
open Classical in
theorem Jt4 {α : Type} (r a b : α) (M Z Y F W : List α) : (r :: a :: b :: (M ++ (Z ++ (Y ++ (F ++ W))))).Perm (a :: (M ++ (r :: ((b :: (Z ++ (Y ++ F))) ++ W)))) := by
  rw [List.perm_iff_count]; intro x; simp only [List.count_append, List.count_cons]; omega
open Classical in
theorem Jt5 {α : Type} (r a b : α) (M W : List α) : (r :: a :: b :: (M ++ W)).Perm (a :: (M ++ (r :: (b :: W)))) := by
  rw [List.perm_iff_count]; intro x; simp only [List.count_append, List.count_cons]; omega
def Ac1 (a : AcL) : Prop := a.addr.length ≤ 100000 ∧ a.code.length ≤ 100000 ∧ a.slots.length ≤ 100000 ∧ ∀ x ∈ a.slots, x.1.length ≤ 100000 ∧ x.2.length ≤ 100000
set_option maxHeartbeats 2000000 in
theorem Jjc {R : Jo} {accts : List AcL} {p : Pl} (hs : StL.In R ⟨accts, p⟩) (hn : accts.length ≤ 100000) (hb : ∀ a ∈ accts, Ac1 a) : PureT (α := VR (VI (accts.map AcL.er))) Tryz.prog 54 [KP accts.length p].toArray (fun y => y.x.val) [] (fun y => y.L) R := by
  have hseg : Seg R accts.length (jP accts) p := hs.seg
  refine JI Tryz.func54 rfl rfl fun w => ?_; refine sR fun _ hK1 => ?_; refine LN rfl fun r1 => ?_; refine nK hK1 (sR fun _ hK2 => ?_); refine LN rfl fun r2 => ?_; refine nK hK2 (sQ fun _ hK3 => ?_); refine sR fun _ hK4 => Ji rfl (LR rfl (J4 rfl hseg rfl) (Ji rfl ?_)); refine nK hK4 (Js ?_); refine JL (σ := Nat × List Vl × V5 × Jo) (fun q => q.1 ≤ accts.length ∧ rowOk 7 q.1 (Qf q.2.1) q.2.2.1 ∧ (∀ x ∈ q.2.1, Vl.In q.2.2.2 x) ∧ q.2.1.map VH = (accts.take q.1).map fun a => xq a.er) (fun q => [(2, VG r1), (3, VG r2), (9, KP accts.length p), (10, .int .i64 (accts.length : Int)), (11, .int .i64 (q.1 : Int))]) (fun q => (r2, .cells #[.int .u64 0, .int .u64 0, .int .u64 0, .int .u64 0, .slice none 0 0, JD q.1 q.2.2.1, .int .i64 0] 81 (0, 0)) :: (r1, .cells #[.int .u64 0, .int .u64 0, .int .u64 0, .int .u64 0, .slice none 0 0, .slice none 0 0, .int .i64 0] 81 (0, 0)) :: (JV 81 (Qf q.2.1) q.2.2.1 ++ q.2.2.2)) (fun _ _ _ => True) (fun q => accts.length - q.1) (0, [], none, []) ⟨Nat.zero_le _, ⟨rfl, rfl⟩, fun x hx => (nomatch hx), rfl⟩ (.cons rfl (.cons rfl (.cons rfl (.cons rfl (.cons rfl .nil))))) (by simp only [JV, List.nil_append, List.append_nil]; exact List.Sublist.refl _) (fun _ _ h => h) ?_; rintro ⟨i, vs, row, E⟩ ⟨hi1, hrow, hin, her⟩; simp only at hi1 hrow hin her; refine sR fun _ hK5 => JY rfl (nK hK5 ?_); refine sQ fun _ hK6 => ?_; refine Jc rfl (fun h7 => ?_) (fun h7 => ?_)
  · try simp only [ZZ] at h7
    refine Jg (hK6 ?_); refine sB fun _ hK8 => sQ fun _ hK9 => ?_
    obtain ⟨a, ha, hma⟩ := Vt (show i < accts.length by omega)
    have ha2 := hs.accts a hma
    obtain ⟨hb1, hb2, hb3, hb4⟩ := hb a hma
    obtain ⟨addr, nonce, ⟨ba, bb, bc, bd⟩, code, slots, ap⟩ := a
    have hnu : XD nonce := ha2.nonce
    have hba : W4.ok ⟨ba, bb, bc, bd⟩ := ha2.bal
    have hsg : Seg R slots.length (wQ slots) ap := ha2.seg
    simp only at hb1 hb2 hb3 hb4; refine Ja ?_
    refine LR rfl (Jr (j := i) rfl hseg rfl rfl rfl (by first | rfl | omega) (by omega)) ?_; refine LR rfl (KL AcL.len (fun q hq => Or.inr hq) rfl hseg ha rfl rfl) ?_; refine LN rfl fun r3 => ?_
    refine LT 0 rfl rfl (nK hK9 ?_); refine sR fun _ hK10 => ?_; refine LN rfl fun r4 => ?_; refine nK hK10 (sQ fun _ hK11 => ?_); refine sR fun _ hK12 => ?_
    refine LS 2 [1] rfl rfl ?_; refine LR rfl (J4 rfl hsg rfl) ?_; refine Ji rfl (nK hK12 ?_); refine Js ?_; refine JL (σ := Nat × List Vl × V5 × Jo) (fun q => q.1 ≤ slots.length ∧ rowOk 7 q.1 (Qf q.2.1) q.2.2.1 ∧ (∀ x ∈ q.2.1, Vl.In q.2.2.2 x) ∧ q.2.1.map VH = (slots.take q.1).map Ya) (fun q => [(2, VG r1), (3, VG r2), (5, VG r3), (6, VG r4), (9, KP accts.length p), (10, .int .i64 (accts.length : Int)), (11, .int .i64 (i : Int)), (16, KP slots.length ap), (17, .int .i64 (slots.length : Int)), (18, .int .i64 (q.1 : Int))]) (fun q => (r4, .cells #[.int .u64 0, .int .u64 0, .int .u64 0, .int .u64 0, .slice none 0 0, JD q.1 q.2.2.1, .int .i64 0] 81 (0, 0)) :: (r3, .cells #[J3 addr, uV nonce, uV ba, uV bb, uV bc, uV bd, J3 code, KP slots.length ap] 34 (0, 0)) :: (r2, .cells #[.int .u64 0, .int .u64 0, .int .u64 0, .int .u64 0, .slice none 0 0, JD i row, .int .i64 0] 81 (0, 0)) :: (r1, .cells #[.int .u64 0, .int .u64 0, .int .u64 0, .int .u64 0, .slice none 0 0, .slice none 0 0, .int .i64 0] 81 (0, 0)) :: (JV 81 (Qf q.2.1) q.2.2.1 ++ (q.2.2.2 ++ (JV 81 (Qf vs) row ++ E)))) (fun _ _ _ => True) (fun q => slots.length - q.1) (0, [], none, []) ⟨Nat.zero_le _, ⟨rfl, rfl⟩, fun x hx => (nomatch hx), rfl⟩ (.cons rfl (.cons rfl (.cons rfl (.cons rfl (.cons rfl (.cons rfl (.cons rfl (.cons rfl (.cons rfl (.cons rfl .nil)))))))))) (by simp only [JV, List.nil_append, List.append_nil]; exact List.Sublist.refl _) (fun _ _ h => h) ?_; rintro ⟨j, us, rw2, F⟩ ⟨hj1, hrow2, hin2, her2⟩; simp only at hj1 hrow2 hin2 her2; refine sR fun _ hK13 => JY rfl (nK hK13 ?_); refine sQ fun _ hK14 => ?_; refine Jc rfl (fun h15 => ?_) (fun h15 => ?_)
    · try simp only [ZZ] at h15
      refine Jg (hK14 ?_); refine sB fun _ hK16 => sQ fun _ hK17 => ?_
      obtain ⟨⟨k, v⟩, hx, hmx⟩ := Vt (show j < slots.length by omega)
      obtain ⟨hk1, hv1⟩ := hb4 _ hmx
      simp only at hk1 hv1; refine Ja ?_
      refine LR rfl (Jr (j := j) rfl hsg rfl rfl rfl (by first | rfl | omega) (by omega)) ?_; refine LR rfl (KL Kn (fun q hq => Or.inr hq) rfl hsg hx rfl rfl) ?_; refine LN rfl fun r5 => ?_
      refine LT 0 rfl rfl (nK hK17 ?_)
      refine JS [(r4, .cells #[.int .u64 0, .int .u64 0, .int .u64 0, .int .u64 0, .slice none 0 0, JD j rw2, .int .i64 0] 81 (0, 0)), (r5, .cells #[J3 k, J3 v] 59 (0, 0))] [(0, .pure), (1, .pure), (2, .pure), (3, .pure), (4, .grow (Qz (Jp9 hk1) (fun y => y.x.val) (fun y => y.L))), (5, .pure), (6, .pure), (7, .grow (Qz (Jp9 hv1) (fun y => y.x.val) (fun y => y.L))), (8, .dep [26, 29] (Jcm 2 81)), (9, .pure), (10, .dep [31] (Jcm 1 81))] 11 [0, 1, 2, 3, 5, 6, 4, 7, 8, 9, 10] (by kernel_rfl) (by kernel_rfl) (by first | exact (fun _ h => absurd h List.not_mem_nil) | simp [SubS] | (intro p hp; simp [hp])) ?_
      refine Jv (k := 0) rfl rfl rfl rfl rfl (fun _ hS => (JM rfl rfl rfl)) ?_; refine Jv (k := 1) rfl rfl rfl rfl rfl (fun _ hS => (Jk rfl (.inl (hS _ (Kw (n := 0) rfl))) rfl rfl)) ?_
      refine Jv (k := 2) rfl rfl rfl rfl rfl (fun _ hS => (JM rfl rfl rfl)) ?_; refine Jv (k := 3) rfl rfl rfl rfl rfl (fun _ hS => (Jk rfl (.inl (hS _ (Kw (n := 1) rfl))) rfl rfl)) ?_
      refine Jv (k := 5) rfl rfl rfl rfl rfl (fun _ hS => (JM rfl rfl rfl)) ?_; refine Jv (k := 6) rfl rfl rfl rfl rfl (fun _ hS => (Jk rfl (.inl (hS _ (Kw (n := 1) rfl))) rfl rfl)) ?_; refine Qe (k := 4) rfl rfl rfl rfl rfl Jrt (Jbf hk1) (fun q hq => nomatch hq) fun y => ?_
      obtain ⟨⟨ya, yb, yc, yd, ybits, ypb, yitems, ypi, ypick⟩, yL, yok, yer⟩ := y
      refine Qe (k := 7) rfl rfl rfl rfl rfl Jrt (Jbf hv1) (fun q hq => nomatch hq) fun y => ?_
      obtain ⟨⟨za, zb, zc, zd, zbits, zpb, zitems, zpi, zpick⟩, zL, zok, zer⟩ := y
      refine V8 (k := 8) (dv := [_, _]) (n := 2) (sz := 7) (vs := [_, _]) (zs := [_, _, _, _, _, _, _, _, _, _, _, _, _, _]) (r := [uV ya, uV yb, uV yc, uV yd, KP ybits.length ypb, KP yitems.length ypi, .int .i64 ypick, uV za, uV zb, uV zc, uV zd, KP zbits.length zpb, KP zitems.length zpi, .int .i64 zpick]) rfl rfl rfl rfl rfl rfl rfl rfl rfl rfl rfl rfl rfl (by rw [Kv]; exact rfl) rfl fun rb => ?_; refine Jv (k := 9) rfl rfl rfl rfl rfl (fun _ hS => (JK (r := [_, _, _, _, _, _, _]) rfl rfl)) ?_; refine V8 (k := 10) (dv := [_]) (n := 1) (sz := 7) (vs := [_]) (zs := [_, _, _, _, _, _, _]) (r := [.int .u64 0, .int .u64 0, .int .u64 0, .int .u64 0, .slice none 0 0, .slice (some ⟨rb, 0, none⟩) 2 2, .int .i64 0]) rfl rfl rfl rfl rfl rfl rfl rfl rfl rfl rfl rfl rfl (by rw [Kv]; exact rfl) rfl fun rc => ?_; refine KD ?_; refine KC (Jt2 (M := [_, _, _, _, _]) ..) ?_; refine Km (L0 := _) (xs := Qf us) (row := rw2) (n := j) (sz := 7) (b := 88) (news := [_, _, _, _, _, _, _]) (List.Perm.refl _) rfl rfl rfl rfl (kn 0 rfl) rfl rfl rfl rfl rfl (by decide) rfl rfl rfl (by decide) hrow2 (by omega) (by omega) fun ra cap sp hra => ?_
      refine LS 1 [] rfl rfl ?_; refine Kx (k := 4) (cs' := #[.int .u64 0, .int .u64 0, .int .u64 0, .int .u64 0, .slice none 0 0, JD (j + 1) (some (ra, cap, sp)), .int .i64 0]) rfl rfl rfl rfl rfl rfl rfl rfl rfl rfl ?_; refine Jf (Jj (hK16 ?_)); refine Ja ?_
      refine JY rfl ?_; refine Jy (show _ = Value.int .i64 ((j + 1 : Nat) : Int) from by rw [wrap_i64 (by omega) (by omega)]; congr 1 <;> omega) ?_; refine Ji rfl (Jf (J8 ?_))
      have hvc : Qf us ++ Vl.cells (.mk 0 0 0 0 [] none [(.mk ya yb yc yd ybits ypb yitems ypi ypick), (.mk za zb zc zd zbits zpb zitems zpi zpick)] (some (⟨rb, 0, none⟩, 2)) 0) = Qf (us ++ [.mk 0 0 0 0 [] none [(.mk ya yb yc yd ybits ypb yitems ypi ypick), (.mk za zb zc zd zbits zpb zitems zpi zpick)] (some (⟨rb, 0, none⟩, 2)) 0]) := by unfold Qf; rw [List.flatMap_append]; simp
      refine XA (Jt4 (M := [_, _, _, _, _]) ..) ?_; exact J2 (j + 1, us ++ [.mk 0 0 0 0 [] none [(.mk ya yb yc yd ybits ypb yitems ypi ypick), (.mk za zb zc zd zbits zpb zitems zpi zpick)] (some (⟨rb, 0, none⟩, 2)) 0], some (ra, cap, sp), _ :: (zL ++ (yL ++ F))) ⟨by simp only; omega, by simp only; rw [← hvc]; exact hra, fun z hz => Jxg hin2 yok zok hz, Jxh her2 hx yer zer⟩ (by simp only; omega) (.cons rfl (.cons rfl (.cons rfl (.cons rfl (.cons rfl (.cons rfl (.cons rfl (.cons rfl (.cons rfl (.cons rfl .nil)))))))))) (by simp only; rw [← hvc]; exact .cons _ (.cons _ (List.Sublist.refl _))) (fun _ _ h => h)
    · try simp only [ZZ] at h15
      refine JJ (Jm ?_); refine Jm (J0 (hK11 ?_))
      obtain rfl : j = slots.length := by omega
      have hul : us.length = slots.length := by have := congrArg List.length her2; simpa using this
      have hvr2 : JD slots.length rw2 = KP us.length (Vv rw2) := by rw [hul]; exact (Wm _ _ (fun h => by rw [h] at hrow2; exact hrow2.1)).symm
      rw [hvr2]
      refine JS [(r2, .cells #[.int .u64 0, .int .u64 0, .int .u64 0, .int .u64 0, .slice none 0 0, JD i row, .int .i64 0] 81 (0, 0)), (r3, .cells #[J3 addr, uV nonce, uV ba, uV bb, uV bc, uV bd, J3 code, KP slots.length ap] 34 (0, 0)), (r4, .cells #[.int .u64 0, .int .u64 0, .int .u64 0, .int .u64 0, .slice none 0 0, KP us.length (Vv rw2), .int .i64 0] 81 (0, 0))] [(0, .pure), (1, .pure), (2, .pure), (3, .pure), (4, .grow (Qz (Jp9 hb1) (fun y => y.x.val) (fun y => y.L))), (5, .pure), (6, .pure), (7, .pure), (8, .pure), (9, .pure), (10, .pure), (11, .pure), (12, .pure), (13, .pure), (14, .grow (Qz (Jp9 hb2) (fun y => y.x.val) (fun y => y.L))), (15, .pure), (16, .dep [40, 44, 47, 50, 51] (Jcm 5 81)), (17, .pure), (18, .dep [53] (Jcm 1 81))] 19 [0, 1, 2, 3, 5, 6, 9, 10, 11, 12, 13, 15, 4, 7, 8, 14, 16, 17, 18] (by kernel_rfl) (by kernel_rfl) (by first | exact (fun _ h => absurd h List.not_mem_nil) | simp [SubS] | (intro p hp; simp [hp])) ?_
      refine Jv (k := 0) rfl rfl rfl rfl rfl (fun _ hS => (JM rfl rfl rfl)) ?_; refine Jv (k := 1) rfl rfl rfl rfl rfl (fun _ hS => (Jk rfl (.inl (hS _ (Kw (n := 0) rfl))) rfl rfl)) ?_
      refine Jv (k := 2) rfl rfl rfl rfl rfl (fun _ hS => (JM rfl rfl rfl)) ?_; refine Jv (k := 3) rfl rfl rfl rfl rfl (fun _ hS => (Jk rfl (.inl (hS _ (Kw (n := 1) rfl))) rfl rfl)) ?_
      refine Jv (k := 5) rfl rfl rfl rfl rfl (fun _ hS => (JM rfl rfl rfl)) ?_; refine Jv (k := 6) rfl rfl rfl rfl rfl (fun _ hS => (Jk rfl (.inl (hS _ (Kw (n := 1) rfl))) rfl rfl)) ?_
      refine Jv (k := 9) rfl rfl rfl rfl rfl (fun _ hS => (JM rfl rfl rfl)) ?_; refine Jv (k := 10) rfl rfl rfl rfl rfl (fun _ hS => (Jw (vs := [_, _, _, _]) rfl (.inl (hS _ (Kw (n := 1) rfl))) rfl rfl rfl rfl)) ?_; refine Jv (k := 11) rfl rfl rfl rfl rfl (fun _ hS => (JK (r := [_, _, _, _, _, _, _]) rfl rfl)) ?_
      refine Jv (k := 12) rfl rfl rfl rfl rfl (fun _ hS => (JM rfl rfl rfl)) ?_; refine Jv (k := 13) rfl rfl rfl rfl rfl (fun _ hS => (Jk rfl (.inl (hS _ (Kw (n := 1) rfl))) rfl rfl)) ?_; refine Jv (k := 15) rfl rfl rfl rfl rfl (fun _ hS => (Jw (vs := [_, _, _, _, _, _, _]) rfl (.inl (hS _ (Kw (n := 2) rfl))) rfl rfl rfl rfl)) ?_; refine Qe (k := 4) rfl rfl rfl rfl rfl Jrt (Jbf hb1) (fun q hq => nomatch hq) fun y => ?_
      obtain ⟨⟨ya, yb, yc, yd, ybits, ypb, yitems, ypi, ypick⟩, yL, yok, yer⟩ := y
      refine WL (k := 7) rfl rfl rfl rfl rfl Jmi (Yh _) ?_; refine Jv (k := 8) rfl rfl rfl rfl rfl (fun _ hS => (JK (r := [_, _, _, _, _, _, _]) rfl rfl)) ?_; refine Qe (k := 14) rfl rfl rfl rfl rfl Jrt (Jbf hb2) (fun q hq => nomatch hq) fun y => ?_
      obtain ⟨⟨za, zb, zc, zd, zbits, zpb, zitems, zpi, zpick⟩, zL, zok, zer⟩ := y
      refine V8 (k := 16) (dv := [_, _, _, _, _]) (n := 5) (sz := 7) (vs := [_, _, _, _, _]) (zs := [_, _, _, _, _, _, _, _, _, _, _, _, _, _, _, _, _, _, _, _, _, _, _, _, _, _, _, _, _, _, _, _, _, _, _]) (r := [uV ya, uV yb, uV yc, uV yd, KP ybits.length ypb, KP yitems.length ypi, .int .i64 ypick, uV nonce, uV 0, uV 0, uV 0, .slice none 0 0, .slice none 0 0, .int .i64 0, uV ba, uV bb, uV bc, uV bd, .slice none 0 0, .slice none 0 0, .int .i64 0, uV za, uV zb, uV zc, uV zd, KP zbits.length zpb, KP zitems.length zpi, .int .i64 zpick, uV 0, uV 0, uV 0, uV 0, .slice none 0 0, KP us.length (Vv rw2), .int .i64 0]) rfl rfl rfl rfl rfl rfl rfl rfl rfl rfl rfl rfl rfl (by rw [Kv]; exact rfl) rfl fun rb => ?_; refine Jv (k := 17) rfl rfl rfl rfl rfl (fun _ hS => (JK (r := [_, _, _, _, _, _, _]) rfl rfl)) ?_; refine V8 (k := 18) (dv := [_]) (n := 1) (sz := 7) (vs := [_]) (zs := [_, _, _, _, _, _, _]) (r := [.int .u64 0, .int .u64 0, .int .u64 0, .int .u64 0, .slice none 0 0, .slice (some ⟨rb, 0, none⟩) 5 5, .int .i64 0]) rfl rfl rfl rfl rfl rfl rfl rfl rfl rfl rfl rfl rfl (by rw [Kv]; exact rfl) rfl fun rc => ?_; refine KD ?_; refine KC (Jt3 (M := [_, _, _, _]) ..) ?_; refine Km (L0 := _) (xs := Qf vs) (row := row) (n := i) (sz := 7) (b := 88) (news := [_, _, _, _, _, _, _]) (List.Perm.refl _) rfl rfl rfl rfl (kn 0 rfl) rfl rfl rfl rfl rfl (by decide) rfl rfl rfl (by decide) hrow (by omega) (by omega) fun ra cap sp hra => ?_
      refine LS 1 [] rfl rfl ?_; refine Kx (k := 5) (cs' := #[.int .u64 0, .int .u64 0, .int .u64 0, .int .u64 0, .slice none 0 0, JD (i + 1) (some (ra, cap, sp)), .int .i64 0]) rfl rfl rfl rfl rfl rfl rfl rfl rfl rfl ?_; refine Jf (Jj (hK8 ?_)); refine Ja ?_
      refine JY rfl ?_; refine Jy (show _ = Value.int .i64 ((i + 1 : Nat) : Int) from by rw [wrap_i64 (by omega) (by omega)]; congr 1 <;> omega) ?_; refine Ji rfl (Jf (J8 ?_))
      have hvc : Qf vs ++ Vl.cells (.mk 0 0 0 0 [] none [(.mk ya yb yc yd ybits ypb yitems ypi ypick), (.mk nonce 0 0 0 [] none [] none 0), (.mk ba bb bc bd [] none [] none 0), (.mk za zb zc zd zbits zpb zitems zpi zpick), .mk 0 0 0 0 [] none us (Vv rw2) 0] (some (⟨rb, 0, none⟩, 5)) 0) = Qf (vs ++ [.mk 0 0 0 0 [] none [(.mk ya yb yc yd ybits ypb yitems ypi ypick), (.mk nonce 0 0 0 [] none [] none 0), (.mk ba bb bc bd [] none [] none 0), (.mk za zb zc zd zbits zpb zitems zpi zpick), .mk 0 0 0 0 [] none us (Vv rw2) 0] (some (⟨rb, 0, none⟩, 5)) 0]) := by unfold Qf; rw [List.flatMap_append]; simp
      refine XA (Jt5 (M := [_, _, _, _]) ..) ?_; exact J2 (i + 1, vs ++ [.mk 0 0 0 0 [] none [(.mk ya yb yc yd ybits ypb yitems ypi ypick), (.mk nonce 0 0 0 [] none [] none 0), (.mk ba bb bc bd [] none [] none 0), (.mk za zb zc zd zbits zpb zitems zpi zpick), .mk 0 0 0 0 [] none us (Vv rw2) 0] (some (⟨rb, 0, none⟩, 5)) 0], some (ra, cap, sp), _ :: (zL ++ (yL ++ (_ ++ (F ++ E))))) ⟨by simp only; omega, by simp only; rw [← hvc]; exact hra, fun z hz => Jxi hin (Ql hrow2 (by decide)) hul hb3 hin2 hnu hba yok zok hz, Jxj her ha yer zer her2⟩ (by simp only; omega) (.cons rfl (.cons rfl (.cons rfl (.cons rfl (.cons rfl .nil))))) (by simp only; rw [← hvc]; exact .cons _ (.cons _ (.cons _ (List.Sublist.refl _)))) (fun _ _ h => h)
  · try simp only [ZZ] at h7
    refine JJ (Jm ?_); refine Jm (J0 (hK3 ?_)); refine sQ fun _ hK18 => ?_
    have honeV : ([.int .u64 0, .int .u64 0, .int .u64 0, .int .u64 0, .slice none 0 0, JD i row, .int .i64 0] : List Value).all QW = true := by cases row <;> rfl
    refine Ja (LR rfl (Jq (xs := [.int .u64 0, .int .u64 0, .int .u64 0, .int .u64 0, .slice none 0 0, JD i row, .int .i64 0]) (n := 7) rfl (kn 0 rfl) rfl rfl rfl) (Jz (k := 1) (n := 7) (ys := [.int .u64 0, .int .u64 0, .int .u64 0, .int .u64 0, .slice none 0 0, JD i row, .int .i64 0]) rfl rfl rfl rfl rfl rfl rfl honeV rfl ?_)); refine nK hK18 (Jb ?_); refine Jt rfl rfl (.cons (J9 (vs := [_, _, _, _, _, _, _]) rfl (kn 1 rfl) rfl rfl) .nil) (fun w1 hs1 => ?_)
    have hiM : i = accts.length := by omega
    have hvl : vs.length = i := by have := congrArg List.length her; simp at this; omega
    rw [hiM, List.take_length] at her; rw [← hvl] at hrow
    have hvr : JD i row = KP vs.length (Vv row) := by rw [← hvl]; exact (Wm _ _ (fun h => by rw [h] at hrow; exact hrow.1)).symm
    exact ⟨⟨.mk 0 0 0 0 [] none vs (Vv row) 0, JV 81 (Qf vs) row ++ E, Zr (by omega) (Ql hrow (by decide)) hin i0, by rw [KE, QZ, her]; exact Jxk ..⟩, congrArg (fun z => Ending.returned (Value.agg #[.int .u64 0, .int .u64 0, .int .u64 0, .int .u64 0, .slice none 0 0, z, .int .i64 0])) hvr, hs1.weakL (.cons _ (.cons _ (List.Sublist.refl _)))⟩
def vA (x : AcL) : Value := .agg (AcL.cells x).toArray
theorem Jbl (x : AcL) : Pure Tryz.prog 39 [vA x].toArray (J3 (AcL.addr x)) := by
  refine JG Tryz.func39 rfl rfl fun w => ?_; refine sR fun _ hK1 => ?_; refine LN rfl fun r1 => ?_; refine Ji rfl (nK hK1 ?_); refine sR fun _ hK2 => ?_
  refine LS 3 [0] rfl rfl (nK hK2 ?_); refine Jb (pT rfl rfl rfl fun w1 hs1 => ?_); exact ⟨rfl, hs1.keep⟩
theorem Jqb {R : Jo} {xs : List AcL} {p : Pl} (hl : xs.length ≤ 9223372036854775807) (hs : Seg R xs.length (xs.flatMap AcL.cells) p) {g : FuncId} {caps : List Value} {pr : AcL → Bool} (eg : Enters Tryz.prog g) (hg : ∀ x ∈ xs, PureR Tryz.prog g (vA x :: caps).toArray (.bool (pr x)) R) :
    PureR Tryz.prog 34 [KP xs.length p, .func (.func g) #[] caps.toArray].toArray (.int .i64 (YB pr xs)) R := by
  refine Je Tryz.func34 rfl rfl fun w => ?_; refine sR fun _ hK1 => Ji rfl (nK hK1 ?_); refine sQ fun _ hK2 => sR fun _ hK3 => ?_; refine Ji rfl (LR rfl (J4 rfl hs rfl) (Ji rfl ?_)); refine nK hK3 (Js ?_); refine JL (σ := Nat) (fun i => i ≤ xs.length ∧ ∀ j, j < i → ∀ y, xs[j]? = some y → pr y = false) (fun i => [(0, KP xs.length p), (1, .func (.func g) #[] caps.toArray), (7, .int .i64 (xs.length : Int)), (8, .int .i64 (i : Int))]) (fun _ => []) (fun _ _ _ => True) (fun i => xs.length - i) 0 ⟨by omega, fun j hj => absurd hj (by omega)⟩ (.cons rfl (.cons rfl (.cons rfl (.cons rfl .nil)))) (List.nil_sublist _) (fun _ _ h => h) ?_; rintro i ⟨hi1, hinv⟩; refine sR fun _ hK4 => JY rfl (nK hK4 ?_); refine sQ fun _ hK5 => ?_; refine Jc rfl (fun h6 => ?_) (fun h6 => ?_)
  try simp only [ZZ] at h6
  refine Jg (hK5 ?_); refine sB fun _ hK7 => sR fun _ hK8 => ?_; refine LS 2 [] rfl rfl (nK hK8 ?_); refine sQ fun _ hK9 => ?_
  obtain ⟨x, hx, hmx⟩ := Vt (show i < xs.length by omega)
  refine Ja (LS 3 [] rfl rfl ?_)
  refine LR rfl (Jr (j := i) rfl hs rfl rfl rfl (by first | rfl | omega) (by omega)) ?_; refine LR rfl (KL AcL.len (fun q hq => Or.inr hq) rfl hs hx rfl rfl) ?_; refine Jh rfl rfl rfl eg (hg x hmx) (fun q hq => Or.inr hq) ?_; refine nK hK9 ?_; refine Jc rfl (fun h10 => ?_) (fun h10 => ?_)
  try simp only [ZZ] at h10
  refine sR fun _ hK11 => LS 2 [] rfl rfl (nK hK11 ?_); refine Jb (Jn (Jd ?_)); refine Jd (Jn (Jd ?_)); refine pT rfl rfl rfl fun w1 hs1 => ?_; refine ⟨?_, hs1.keep⟩; rw [Jde hx (by assumption) hinv]; rfl
  try simp only [ZZ] at h10
  refine Jg (Jj (hK7 ?_)); refine Ja (JY rfl (Ju (by omega) (by omega) ?_)); refine Ji rfl (Jf (J8 ?_))
  exact J2 (i + 1) ⟨by omega, fun j hj y hy => by
    rcases Nat.lt_succ_iff_lt_or_eq.1 hj with hj | rfl
    exact hinv j hj y hy
    rw [hx] at hy; cases hy; assumption⟩ (by omega) (.cons rfl (.cons rfl (.cons rfl (.cons rfl .nil)))) (List.nil_sublist _) (fun _ _ h => h)
  · try simp only [ZZ] at h6
    refine JJ (Jm ?_); refine Jm (J0 (hK2 ?_)); refine sR fun _ hK12 => Ji rfl (nK hK12 ?_); refine Jb (pT rfl rfl rfl fun w1 hs1 => ?_); refine ⟨?_, hs1.keep⟩; rw [Jdd fun j x hx => hinv j (by have := (List.getElem?_eq_some_iff.1 hx).1; omega) x hx]; rfl
theorem Jqc {R : Jo} {xs : List AcL} {p : Pl} (hl : xs.length ≤ 9223372036854775807) (hs : Seg R xs.length (xs.flatMap AcL.cells) p) :
    PureR Tryz.prog 38 [KP xs.length p, fV 39].toArray (.bool (Vr AcL.addr xs)) R := by
  refine Je Tryz.func38 rfl rfl fun w => ?_; refine sR fun K1 hK1 => Ji rfl (nK hK1 ?_); clear hK1 K1; refine sQ fun K2 hK2 => sR fun K3 hK3 => ?_; refine Ji rfl (nK hK3 ?_); clear hK3 K3; refine Js ?_; refine JL (σ := Nat) (fun i => (i = 0 ∨ i < xs.length) ∧ ∀ j x y, j < i → xs[j]? = some x → xs[j + 1]? = some y → Op.bytesLess (AcL.addr x) (AcL.addr y) = true) (fun i => [(0, KP xs.length p), (1, fV 39), (5, .int .i64 ((i + 1 : Nat) : Int))]) (fun _ => []) (fun _ _ _ => True) (fun i => xs.length - i) 0 ⟨.inl rfl, fun j _ _ hj => absurd hj (by omega)⟩ (.cons rfl (.cons rfl (.cons rfl .nil))) (List.nil_sublist _) (fun _ _ h => h) ?_; rintro i ⟨hi1, hinv⟩; refine sQ fun K4 hK4 => sR fun K5 hK5 => ?_; refine LS 2 [] rfl rfl ?_; refine LR rfl (J4 rfl hs rfl) ?_; refine JY rfl (nK hK5 ?_); clear hK5 K5; refine Jc rfl (fun h6 => ?_) (fun h6 => ?_)
  try simp only [ZZ] at h6
  refine Jg (hK4 ?_); clear hK4 K4; refine sB fun K7 hK7 => sQ fun K8 hK8 => ?_
  obtain ⟨x, hx, hmx⟩ := Vt (show i < xs.length by omega)
  obtain ⟨y, hy, hmy⟩ := Vt (show i + 1 < xs.length by omega)
  refine Kc 14 (by kernel_rfl) (by kernel_rfl) ?_; refine Jl rfl rfl rfl (Jp rfl) ?_; refine Jl rfl rfl rfl (Jp rfl) ?_; refine Jl rfl rfl rfl (Jp rfl) ?_; refine Jl rfl rfl rfl (JA rfl rfl rfl) ?_; refine WH (by omega) (by omega) ?_
  refine Jl rfl rfl rfl (Jr (j := i) rfl hs rfl rfl rfl (by first | rfl | omega) (by omega)) ?_; refine Jl rfl rfl rfl (KL AcL.len (fun q hq => Or.inr hq) rfl hs hx rfl rfl) ?_; refine QB rfl rfl rfl Jrq (Jbl x) ?_; refine Jl rfl rfl rfl (Jp rfl) ?_; refine Jl rfl rfl rfl (Jp rfl) ?_; refine Jl rfl rfl rfl (Jp rfl) ?_
  refine Jl rfl rfl rfl (Jr (j := (i + 1)) rfl hs rfl rfl rfl (by first | rfl | omega) (by omega)) ?_; refine Jl rfl rfl rfl (KL AcL.len (fun q hq => Or.inr hq) rfl hs hy rfl rfl) ?_; refine QB rfl rfl rfl Jrq (Jbl y) ?_; refine Jl rfl rfl rfl (Jh0 rfl rfl) ?_; refine KA ?_; refine nK hK8 ?_; clear hK8 K8; refine Jc rfl (fun h9 => ?_) (fun h9 => ?_)
  try simp only [ZZ] at h9
  refine sR fun K10 hK10 => Ji rfl (nK hK10 ?_); clear hK10 K10; refine Jb (Jn (Jd ?_)); clear hK7 K7; refine Jd (Jn (Jd ?_)); clear hK2 K2; refine pT rfl rfl rfl fun w1 hs1 => ?_; refine ⟨?_, hs1.keep⟩; rw [jS hx hy (by simp_all)]; rfl
  try simp only [ZZ] at h9
  refine Jg (Jj (hK7 ?_)); clear hK7 K7; refine Ja (LS 2 [] rfl rfl (Ju (by omega) (by omega) ?_)); refine Ji rfl (Jf (J8 ?_))
  exact J2 (i + 1) ⟨.inr (by omega), fun j u v hj hu hv => by
    rcases Nat.lt_succ_iff_lt_or_eq.1 hj with hj | rfl
    exact hinv j u v hj hu hv
    rw [hx] at hu; rw [hy] at hv; cases hu; cases hv; simp_all⟩ (by omega) (.cons rfl (.cons rfl (.cons rfl .nil))) (List.nil_sublist _) (fun _ _ h => h)
  · try simp only [ZZ] at h6
    refine JJ (Jm ?_); clear hK4 K4; refine Jm (J0 (hK2 ?_)); clear hK2 K2; refine sR fun K11 hK11 => Ji rfl (nK hK11 ?_); clear hK11 K11; refine Jb (pT rfl rfl rfl fun w1 hs1 => ?_); refine ⟨?_, hs1.keep⟩; rw [ZH fun j u v hu hv => hinv j u v (by have := (List.getElem?_eq_some_iff.1 hv).1; omega) hu hv]; rfl
def vS (x : (BS × BS)) : Value := .agg (QY x).toArray
theorem Jbm (x : (BS × BS)) : Pure Tryz.prog 48 [vS x].toArray (J3 (Prod.fst x)) := by
  refine JG Tryz.func48 rfl rfl fun w => ?_; refine sR fun _ hK1 => ?_; refine LN rfl fun r1 => ?_; refine Ji rfl (nK hK1 ?_); refine sR fun _ hK2 => ?_
  refine LS 3 [0] rfl rfl (nK hK2 ?_); refine Jb (pT rfl rfl rfl fun w1 hs1 => ?_); exact ⟨rfl, hs1.keep⟩
theorem yO {R : Jo} {xs : List (BS × BS)} {p : Pl} (hl : xs.length ≤ 9223372036854775807) (hs : Seg R xs.length (xs.flatMap QY) p) {g : FuncId} {caps : List Value} {pr : (BS × BS) → Bool} (eg : Enters Tryz.prog g) (hg : ∀ x ∈ xs, PureR Tryz.prog g (vS x :: caps).toArray (.bool (pr x)) R) :
    PureR Tryz.prog 40 [KP xs.length p, .func (.func g) #[] caps.toArray].toArray (.int .i64 (YB pr xs)) R := by
  refine Je Tryz.func40 rfl rfl fun w => ?_; refine sR fun _ hK1 => Ji rfl (nK hK1 ?_); refine sQ fun _ hK2 => sR fun _ hK3 => ?_; refine Ji rfl (LR rfl (J4 rfl hs rfl) (Ji rfl ?_)); refine nK hK3 (Js ?_); refine JL (σ := Nat) (fun i => i ≤ xs.length ∧ ∀ j, j < i → ∀ y, xs[j]? = some y → pr y = false) (fun i => [(0, KP xs.length p), (1, .func (.func g) #[] caps.toArray), (7, .int .i64 (xs.length : Int)), (8, .int .i64 (i : Int))]) (fun _ => []) (fun _ _ _ => True) (fun i => xs.length - i) 0 ⟨by omega, fun j hj => absurd hj (by omega)⟩ (.cons rfl (.cons rfl (.cons rfl (.cons rfl .nil)))) (List.nil_sublist _) (fun _ _ h => h) ?_; rintro i ⟨hi1, hinv⟩; refine sR fun _ hK4 => JY rfl (nK hK4 ?_); refine sQ fun _ hK5 => ?_; refine Jc rfl (fun h6 => ?_) (fun h6 => ?_)
  try simp only [ZZ] at h6
  refine Jg (hK5 ?_); refine sB fun _ hK7 => sR fun _ hK8 => ?_; refine LS 2 [] rfl rfl (nK hK8 ?_); refine sQ fun _ hK9 => ?_
  obtain ⟨x, hx, hmx⟩ := Vt (show i < xs.length by omega)
  refine Ja (LS 3 [] rfl rfl ?_)
  refine LR rfl (Jr (j := i) rfl hs rfl rfl rfl (by first | rfl | omega) (by omega)) ?_; refine LR rfl (KL Kn (fun q hq => Or.inr hq) rfl hs hx rfl rfl) ?_; refine Jh rfl rfl rfl eg (hg x hmx) (fun q hq => Or.inr hq) ?_; refine nK hK9 ?_; refine Jc rfl (fun h10 => ?_) (fun h10 => ?_)
  try simp only [ZZ] at h10
  refine sR fun _ hK11 => LS 2 [] rfl rfl (nK hK11 ?_); refine Jb (Jn (Jd ?_)); refine Jd (Jn (Jd ?_)); refine pT rfl rfl rfl fun w1 hs1 => ?_; refine ⟨?_, hs1.keep⟩; rw [Jde hx (by assumption) hinv]; rfl
  try simp only [ZZ] at h10
  refine Jg (Jj (hK7 ?_)); refine Ja (JY rfl (Ju (by omega) (by omega) ?_)); refine Ji rfl (Jf (J8 ?_))
  exact J2 (i + 1) ⟨by omega, fun j hj y hy => by
    rcases Nat.lt_succ_iff_lt_or_eq.1 hj with hj | rfl
    exact hinv j hj y hy
    rw [hx] at hy; cases hy; assumption⟩ (by omega) (.cons rfl (.cons rfl (.cons rfl (.cons rfl .nil)))) (List.nil_sublist _) (fun _ _ h => h)
  · try simp only [ZZ] at h6
    refine JJ (Jm ?_); refine Jm (J0 (hK2 ?_)); refine sR fun _ hK12 => Ji rfl (nK hK12 ?_); refine Jb (pT rfl rfl rfl fun w1 hs1 => ?_); refine ⟨?_, hs1.keep⟩; rw [Jdd fun j x hx => hinv j (by have := (List.getElem?_eq_some_iff.1 hx).1; omega) x hx]; rfl
theorem Jqd {R : Jo} {xs : List (BS × BS)} {p : Pl} (hl : xs.length ≤ 9223372036854775807) (hs : Seg R xs.length (xs.flatMap QY) p) :
    PureR Tryz.prog 68 [KP xs.length p, fV 48].toArray (.bool (Vr Prod.fst xs)) R := by
  refine Je Tryz.func68 rfl rfl fun w => ?_; refine sR fun K1 hK1 => Ji rfl (nK hK1 ?_); clear hK1 K1; refine sQ fun K2 hK2 => sR fun K3 hK3 => ?_; refine Ji rfl (nK hK3 ?_); clear hK3 K3; refine Js ?_; refine JL (σ := Nat) (fun i => (i = 0 ∨ i < xs.length) ∧ ∀ j x y, j < i → xs[j]? = some x → xs[j + 1]? = some y → Op.bytesLess (Prod.fst x) (Prod.fst y) = true) (fun i => [(0, KP xs.length p), (1, fV 48), (5, .int .i64 ((i + 1 : Nat) : Int))]) (fun _ => []) (fun _ _ _ => True) (fun i => xs.length - i) 0 ⟨.inl rfl, fun j _ _ hj => absurd hj (by omega)⟩ (.cons rfl (.cons rfl (.cons rfl .nil))) (List.nil_sublist _) (fun _ _ h => h) ?_; rintro i ⟨hi1, hinv⟩; refine sQ fun K4 hK4 => sR fun K5 hK5 => ?_; refine LS 2 [] rfl rfl ?_; refine LR rfl (J4 rfl hs rfl) ?_; refine JY rfl (nK hK5 ?_); clear hK5 K5; refine Jc rfl (fun h6 => ?_) (fun h6 => ?_)
  try simp only [ZZ] at h6
  refine Jg (hK4 ?_); clear hK4 K4; refine sB fun K7 hK7 => sQ fun K8 hK8 => ?_
  obtain ⟨x, hx, hmx⟩ := Vt (show i < xs.length by omega)
  obtain ⟨y, hy, hmy⟩ := Vt (show i + 1 < xs.length by omega)
  refine Kc 14 (by kernel_rfl) (by kernel_rfl) ?_; refine Jl rfl rfl rfl (Jp rfl) ?_; refine Jl rfl rfl rfl (Jp rfl) ?_; refine Jl rfl rfl rfl (Jp rfl) ?_; refine Jl rfl rfl rfl (JA rfl rfl rfl) ?_; refine WH (by omega) (by omega) ?_
  refine Jl rfl rfl rfl (Jr (j := i) rfl hs rfl rfl rfl (by first | rfl | omega) (by omega)) ?_; refine Jl rfl rfl rfl (KL Kn (fun q hq => Or.inr hq) rfl hs hx rfl rfl) ?_; refine QB rfl rfl rfl Jrr (Jbm x) ?_; refine Jl rfl rfl rfl (Jp rfl) ?_; refine Jl rfl rfl rfl (Jp rfl) ?_; refine Jl rfl rfl rfl (Jp rfl) ?_
  refine Jl rfl rfl rfl (Jr (j := (i + 1)) rfl hs rfl rfl rfl (by first | rfl | omega) (by omega)) ?_; refine Jl rfl rfl rfl (KL Kn (fun q hq => Or.inr hq) rfl hs hy rfl rfl) ?_; refine QB rfl rfl rfl Jrr (Jbm y) ?_; refine Jl rfl rfl rfl (Jh0 rfl rfl) ?_; refine KA ?_; refine nK hK8 ?_; clear hK8 K8; refine Jc rfl (fun h9 => ?_) (fun h9 => ?_)
  try simp only [ZZ] at h9
  refine sR fun K10 hK10 => Ji rfl (nK hK10 ?_); clear hK10 K10; refine Jb (Jn (Jd ?_)); clear hK7 K7; refine Jd (Jn (Jd ?_)); clear hK2 K2; refine pT rfl rfl rfl fun w1 hs1 => ?_; refine ⟨?_, hs1.keep⟩; rw [jS hx hy (by simp_all)]; rfl
  try simp only [ZZ] at h9
  refine Jg (Jj (hK7 ?_)); clear hK7 K7; refine Ja (LS 2 [] rfl rfl (Ju (by omega) (by omega) ?_)); refine Ji rfl (Jf (J8 ?_))
  exact J2 (i + 1) ⟨.inr (by omega), fun j u v hj hu hv => by
    rcases Nat.lt_succ_iff_lt_or_eq.1 hj with hj | rfl
    exact hinv j u v hj hu hv
    rw [hx] at hu; rw [hy] at hv; cases hu; cases hv; simp_all⟩ (by omega) (.cons rfl (.cons rfl (.cons rfl .nil))) (List.nil_sublist _) (fun _ _ h => h)
  · try simp only [ZZ] at h6
    refine JJ (Jm ?_); clear hK4 K4; refine Jm (J0 (hK2 ?_)); clear hK2 K2; refine sR fun K11 hK11 => Ji rfl (nK hK11 ?_); clear hK11 K11; refine Jb (pT rfl rfl rfl fun w1 hs1 => ?_); refine ⟨?_, hs1.keep⟩; rw [ZH fun j u v hu hv => hinv j u v (by have := (List.getElem?_eq_some_iff.1 hv).1; omega) hu hv]; rfl
theorem Jt6 (a : BS) : (!decide (a = a)) = false := by simp
theorem Jjd (a : BS) : Pure Tryz.prog 158 [J3 a].toArray (.bool false) := by
  refine JG Tryz.func158 rfl rfl fun w => ?_; refine sR fun _ hK1 => Ji rfl (nK hK1 ?_); refine sR fun _ hK2 => LS 2 [] rfl rfl ?_; refine LR rfl (Y2 rfl rfl) ?_; refine Jy (congrArg Value.bool (Jt6 a)) ?_; refine Ji rfl (nK hK2 ?_); refine Jb (pT rfl rfl rfl fun w1 hs1 => ?_); exact ⟨rfl, hs1.keep⟩
theorem xr (a b : BS) : Pure Tryz.prog 106 [J3 a, J3 b].toArray (.int .i64 (vz a b)) := by
  refine JG Tryz.func106 rfl rfl fun w => ?_; refine sR fun K1 hK1 => Ji rfl (nK hK1 ?_); clear hK1 K1; refine sR fun K2 hK2 => Ji rfl (JF rfl rfl rfl (enters_of Tryz.func158 (by kernel_rfl) rfl) (Jjd a) (Ji rfl ?_)); refine nK hK2 ?_; clear hK2 K2; refine sR fun K3 hK3 => Ji rfl (JF rfl rfl rfl (enters_of Tryz.func158 (by kernel_rfl) rfl) (Jjd b) (Ji rfl ?_)); refine nK hK3 ?_; clear hK3 K3; refine sQ fun K4 hK4 => sR fun K5 hK5 => ?_; refine Ji rfl (nK hK5 ?_); clear hK5 K5; refine Jc rfl (fun h6 => ?_) (fun h6 => ?_)
  try exact Bool.noConfusion h6
  · try simp only [ZZ] at h6
    refine Jg (hK4 ?_); clear hK4 K4; refine sQ fun K12 hK12 => sR fun K13 hK13 => ?_; refine Ji rfl (nK hK13 ?_); clear hK13 K13; refine Jc rfl (fun h14 => ?_) (fun h14 => ?_)
    try exact Bool.noConfusion h14
    · try simp only [ZZ] at h14
      refine Jg (hK12 ?_); clear hK12 K12; refine sQ fun K16 hK16 => sR fun K17 hK17 => ?_; refine LS 2 [] rfl rfl ?_; refine LR rfl (Jri rfl rfl) ?_; refine nK hK17 ?_; clear hK17 K17; refine Jc rfl (fun h18 => ?_) (fun h18 => ?_)
      try simp only [ZZ] at h18
      refine sR fun K19 hK19 => Ji rfl (nK hK19 ?_); clear hK19 K19; refine Jb (Jd ?_); clear hK16 K16; refine pT rfl rfl rfl fun w1 hs1 => ?_; refine ⟨?_, hs1.keep⟩
      unfold vz
      simp_all [JN]
      · try simp only [ZZ] at h18
        refine Jg (hK16 ?_); clear hK16 K16; refine sQ fun K20 hK20 => sR fun K21 hK21 => ?_; refine LS 2 [] rfl rfl ?_; refine LR rfl (Jsx rfl rfl) ?_; refine nK hK21 ?_; clear hK21 K21; refine Jc rfl (fun h22 => ?_) (fun h22 => ?_)
        try simp only [ZZ] at h22
        refine sR fun K23 hK23 => Ji rfl (nK hK23 ?_); clear hK23 K23; refine Jb (Jd ?_); clear hK20 K20; refine pT rfl rfl rfl fun w1 hs1 => ?_; refine ⟨?_, hs1.keep⟩
        unfold vz
        simp_all [JN]
        · try simp only [ZZ] at h22
          refine Jg (hK20 ?_); clear hK20 K20; refine sR fun K24 hK24 => Ji rfl (nK hK24 ?_); clear hK24 K24; refine Jb (pT rfl rfl rfl fun w1 hs1 => ?_); refine ⟨?_, hs1.keep⟩
          unfold vz
          simp_all [JN]
theorem Jqe : Lib.repeatL [0] 32 = Wc := by decide +kernel
theorem Jgi : Pure Tryz.prog 42 [].toArray (J3 Wc) := by
  rw [← Jqe]; refine JG Tryz.func42 rfl rfl fun w => ?_; refine sR fun _ hK1 => Ji rfl (nK hK1 ?_); refine sR fun _ hK2 => ?_; refine JF rfl rfl rfl Jv8 (q6 (n := 32) (by decide)) ?_; refine Ji rfl (nK hK2 ?_); refine Jb (pT rfl rfl rfl fun w1 hs1 => ?_); exact ⟨rfl, hs1.keep⟩
theorem Jzd {R : Jo} {rb e : Nat} (hb : (rb, Obj.cells #[fV 39] e (0, 0)) ∈ R) (x : AcL) (k : BS) : PureR Tryz.prog 105 [vA x, J3 k, .pointer (some ⟨rb, 0, none⟩)].toArray (.int .i64 (vz (AcL.addr x) k)) R := by
  refine Je Tryz.func105 rfl rfl fun w => ?_; refine sR fun _ hK1 => ?_; refine LN rfl fun r1 => ?_; refine Ji rfl (nK hK1 ?_); refine sR fun _ hK2 => ?_; refine LR rfl (Jk rfl (Or.inr hb) rfl rfl) ?_; refine LR rfl (Jw (vs := [_, _, _, _, _, _, _, _]) rfl (kn 0 rfl) rfl rfl rfl rfl) ?_; refine JF rfl rfl rfl Jrq (Jbl x) ?_; refine Ji rfl (JF rfl rfl rfl (enters_of Tryz.func106 (by kernel_rfl) rfl) (xr (AcL.addr x) k) (Ji rfl ?_)); refine nK hK2 (Jb ?_); refine pT rfl rfl rfl fun w1 hs1 => ?_; exact ⟨rfl, hs1.keep⟩
theorem Jk1 {R : Jo} {xs : List AcL} {p : Pl} (hl : xs.length ≤ 1000) (hs : Seg R xs.length (xs.flatMap AcL.cells) p) (hso : KG AcL.addr xs) {k : BS} {g : FuncId} {caps : List Value} (eg : Enters Tryz.prog g) (hg : ∀ x ∈ xs, PureR Tryz.prog g (vA x :: J3 k :: caps).toArray (.int .i64 (vz (AcL.addr x) k)) R) :
    PureR Tryz.prog 104 [KP xs.length p, J3 k, .func (.func g) #[] caps.toArray].toArray (.tuple #[.int .i64 (jy AcL.addr k xs : Nat), .bool (VZ AcL.addr k xs)]) R := by
  refine Je Tryz.func104 rfl rfl fun w => ?_; refine sR fun _ hK1 => LS 2 [] rfl rfl (nK hK1 ?_); refine sR fun _ hK2 => Ji rfl (LR rfl (J4 rfl hs rfl) (Ji rfl ?_)); refine nK hK2 (sR fun _ hK3 => ?_); refine LS 3 [] rfl rfl (nK hK3 ?_); refine sB fun _ hK4 => ?_; refine JL (σ := Nat × Nat) (fun s => (s.1 ≤ s.2 ∧ s.2 ≤ xs.length) ∧ (∀ q y, q < s.1 → xs[q]? = some y → Op.bytesLess (AcL.addr y) k = true) ∧ ∀ q y, s.2 ≤ q → xs[q]? = some y → Op.bytesLess (AcL.addr y) k = false) (fun s => [(0, KP xs.length p), (1, J3 k), (2, .func (.func g) #[] caps.toArray), (8, .int .i64 (xs.length : Int)), (9, .int .i64 (s.1 : Int)), (10, .int .i64 (s.2 : Int))]) (fun _ => []) (fun _ _ _ => True) (fun s => s.2 - s.1) (0, xs.length) ⟨⟨Nat.zero_le _, Nat.le_refl _⟩, fun q _ hq => absurd hq (Nat.not_lt_zero q), fun q y hq hy => absurd (List.getElem?_eq_some_iff.1 hy).1 (by omega)⟩ (.cons rfl (.cons rfl (.cons rfl (.cons rfl (.cons rfl (.cons rfl .nil)))))) (List.nil_sublist _) (fun _ _ h => h) ?_; rintro ⟨i, j⟩ ⟨⟨hi0, hj0⟩, hi1, hi2⟩; simp only at hi0 hj0 hi1 hi2; change HC _ _ [(0, _), (1, _), (2, _), (8, _), (9, .int .i64 (i : Int)), (10, .int .i64 (j : Int))] _ _ _ _; refine sQ fun _ hK5 => sR fun _ hK6 => ?_; refine LS 3 [] rfl rfl (nK hK6 ?_); refine Jc rfl (fun h7 => ?_) (fun h7 => ?_)
  try simp only [ZZ] at h7
  refine Jg (hK5 ?_); refine Js (sR fun _ hK8 => (LS 3 [] rfl rfl ?_)); refine Ju (by omega) (by omega) ?_; refine JY rfl (qT (by omega) (by omega) (LR rfl (wo (n := 1) (b := (((i + j) / 2 : Nat) : Int)) rfl rfl rfl (by decide) (by omega) (by omega)) ?_)); refine JY rfl (Ju (by omega) (by omega) (Ji rfl ?_)); refine nK hK8 (sQ fun _ hK9 => ?_)
  obtain ⟨x, hx, hmx⟩ := Vt (show (i + j) / 2 < xs.length by omega)
  refine Ja (LS 3 [] rfl rfl ?_)
  refine LR rfl (Jr (j := ((i + j) / 2)) rfl hs rfl rfl rfl (by first | rfl | omega) (by omega)) ?_; refine LR rfl (KL AcL.len (fun q hq => Or.inr hq) rfl hs hx rfl rfl) ?_; refine Ji rfl (Jh rfl rfl rfl eg (hg x hmx) (fun q hq => Or.inr hq) ?_); refine JY rfl (Jy (congrArg Value.bool (Jh3 (AcL.addr x) k)) ?_); refine nK hK9 ?_; refine Jc rfl (fun h10 => ?_) (fun h10 => ?_)
  try simp only [ZZ] at h10
  refine Ja (LS 2 [] rfl rfl (Ju (by omega) (by omega) ?_)); refine Ji rfl (Jf ?_); refine Jj (J8 ?_); exact J2 ((i + j) / 2 + 1, j) ⟨⟨by simp only; omega, hj0⟩, Jdg hso hx (by assumption), hi2⟩ (by simp only; omega) (.cons rfl (.cons rfl (.cons rfl (.cons rfl (.cons rfl (.cons rfl .nil)))))) (List.nil_sublist _) (fun _ _ h => h)
  try simp only [ZZ] at h10
  refine Ja (LS 2 [] rfl rfl (Jf ?_)); refine Jj (J8 ?_); exact J2 (i, (i + j) / 2) ⟨⟨by simp only; omega, by simp only; omega⟩, hi1, Jdh hso hx (by assumption)⟩ (by simp only; omega) (.cons rfl (.cons rfl (.cons rfl (.cons rfl (.cons rfl (.cons rfl .nil)))))) (List.nil_sublist _) (fun _ _ h => h)
  · try simp only [ZZ] at h7
    refine JJ (Jm ?_); refine Jm (J0 (hK4 ?_)); refine sQ fun _ hK11 => ?_
    have hij : i = j := by omega
    have hlo : i = jy AcL.addr k xs := Jn2 (by omega) hi1 (fun y hy => hi2 i y (by omega) hy)
    refine Ja (LS 5 [] rfl rfl ?_)
    refine J6 39 rfl (fun hb12 => ?_) (fun hb12 => ?_) <;> (try simp only [ZZ] at hb12) <;> first | (refine Ji rfl ?_) | (refine LK rfl ?_)
    all_goals refine LW 2 [] rfl rfl ?_
    all_goals first
      | (obtain ⟨x, hx, hmx⟩ := Vt (show i < xs.length by omega); refine LR rfl (Jr (j := i) rfl hs rfl rfl rfl (by first | rfl | omega) (by omega)) ?_)
      | (refine LK rfl ?_)
    all_goals first
      | (refine LR rfl (KL AcL.len (fun q hq => Or.inr hq) rfl hs hx rfl rfl) ?_)
      | (refine LK rfl ?_)
    all_goals refine LW 1 [] rfl rfl ?_
    all_goals first
      | (refine Jh rfl rfl rfl eg (hg x hmx) (fun q hq => Or.inr hq) ?_)
      | (refine LK rfl ?_)
    all_goals first
      | (refine JY rfl ?_; refine Jy (congrArg Value.bool (Jdf (AcL.addr x) k)) ?_)
      | (refine LK rfl ?_)
    all_goals refine LW 1 [] rfl rfl ?_
    all_goals refine LS 2 [] rfl rfl ?_
    all_goals refine Jf ?_
    all_goals (
     refine hK11 (Jb ?_); refine Jt rfl rfl (.cons (J1 rfl) (.cons (J1 rfl) .nil)) (fun w1 hs1 => ?_); refine ⟨?_, hs1.keep⟩
     first
       | (rw [← Jdi (kf := AcL.addr) (hlo ▸ hx), ← hlo]; rfl)
       | (rw [qC (kf := AcL.addr) (by omega), ← hlo]; rfl)
     skip)
theorem Jqf {R : Jo} {xs : List AcL} {p : Pl} (hl : xs.length ≤ 1000) (hs : Seg R xs.length (xs.flatMap AcL.cells) p) (hso : KG AcL.addr xs) {k : BS} :
    PureR Tryz.prog 70 [KP xs.length p, J3 k, fV 39].toArray (.tuple #[.int .i64 (jy AcL.addr k xs : Nat), .bool (VZ AcL.addr k xs)]) R := by
  refine Je Tryz.func70 rfl rfl fun w => ?_; refine sR fun _ hK1 => ?_; refine LN rfl fun r1 => ?_; refine LS 2 [] rfl rfl (nK hK1 ?_); refine sR fun _ hK2 => LS 2 [] rfl rfl ?_; refine LR rfl (Ku rfl rfl) ?_; refine Jh (Rl := (r1, Obj.cells #[fV 39] _ (0, 0)) :: R) rfl rfl rfl (enters_of Tryz.func104 (by kernel_rfl) rfl) (Jk1 (caps := [.pointer (some ⟨r1, 0, none⟩)]) hl (hs.mono fun q hq => List.mem_cons_of_mem _ hq) hso (enters_of Tryz.func105 (by kernel_rfl) rfl) (fun x hx => Jzd List.mem_cons_self x k)) (fun q hq => (List.mem_cons.1 hq).elim (fun h => Or.inl (by rw [h]; exact List.mem_cons_self)) Or.inr) ?_; refine LS 4 [] rfl rfl (nK hK2 ?_); refine Jb ?_; refine Jt rfl rfl (.cons (J1 rfl) (.cons (J1 rfl) .nil)) (fun w1 hs1 => ?_); exact ⟨rfl, hs1.keep⟩
end Go.Proofs.YteceenlfegnigaaGreatDoor
