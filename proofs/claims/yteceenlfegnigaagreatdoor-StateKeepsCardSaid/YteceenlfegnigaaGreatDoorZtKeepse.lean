import Derived.Test.YteceenlfegnigaaGreatDoorZtKeepsd
set_option maxRecDepth 100000
namespace Go.Proofs.YteceenlfegnigaaGreatDoor
set_option linter.all false
open Go.SL Go.RowKit Go.Shelf
def KB : List Ty → Nat → List Nat → List (Ty × Nat × Nat)
  | [], _, _ => []
  | x :: xs, a, os => if JH x then (x, a, a + (JS x).toNat) :: KB xs (a + (JS x).toNat) os else (x, os.getD 0 0, os.getD 1 0) :: KB xs (a + 4) os.tail
theorem qm : ∀ (ts : List Ty) (a : Nat) (os : List Nat), (KB ts a os).length = ts.length
  | [], _, _ => rfl
  | x :: xs, a, os => by rw [KB]; split <;> rw [List.length_cons, qm xs, List.length_cons]
theorem ZM (s : BS) : ∀ (ts : List Ty) (a : Nat) (os : List Nat), V1 s ts a os = (KB ts a os).map fun q => (s.take q.2.2).drop q.2.1
  | [], _, _ => rfl
  | x :: xs, a, os => by
    rw [V1, KB]
    split
    · rw [List.map_cons, ZM s xs]
      congr 1
      simp only
      rw [List.drop_take]
      congr 1; omega
    · rw [List.map_cons, ZM s xs]
theorem qn : ∀ (ts : List Ty) (a : Nat) (os : List Nat), (KB ts a os).map Prod.fst = ts
  | [], _, _ => rfl
  | x :: xs, a, os => by rw [KB]; split <;> rw [List.map_cons, qn xs]
def cV : List Ty → Nat
  | [] => 0
  | x :: xs => if JH x then cV xs else cV xs + 1
theorem Jad : ∀ (ts : List Ty) (x : Ty), cV (ts ++ [x]) = if JH x then cV ts else cV ts + 1
  | [], x => rfl
  | y :: ys, x => by
    rw [List.cons_append, cV, cV, Jad ys x]
    by_cases h1 : JH y = true <;> by_cases h2 : JH x = true <;> simp [h1, h2]
def Vj : List Ty → Int
  | [] => -1
  | x :: xs => if 0 ≤ Vj xs then Vj xs + 1 else if JH x then -1 else 0
theorem Yf : ∀ ts : List Ty, -1 ≤ Vj ts ∧ Vj ts < ts.length
  | [] => by rw [Vj]; simp
  | x :: xs => by
    have := Yf xs
    rw [Vj, List.length_cons]
    split
    · omega
    · split <;> omega
theorem ZN : ∀ (ts : List Ty) (x : Ty), Vj (ts ++ [x]) = if JH x then Vj ts else (ts.length : Int)
  | [], x => rfl
  | y :: ys, x => by
    rw [List.cons_append, Vj, Vj, ZN ys x]
    by_cases h2 : JH x = true
    · rw [if_pos h2, if_pos h2]
    · rw [if_neg h2, if_neg h2, if_pos (by omega), List.length_cons]; omega
theorem qo {x : Ty} (hx : JH x = true) : ∀ (ts : List Ty) (a : Nat) (os : List Nat), (∀ y ∈ ts, JH y = true → 0 ≤ JS y) → ∀ b : Nat, (b : Int) = a + Ka ts → KB (ts ++ [x]) a os = KB ts a os ++ [(x, b, b + (JS x).toNat)]
  | [], a, os, _, b, hb => by
    rw [Ka] at hb
    have : b = a := by omega
    subst this
    show KB [x] _ os = [(x, _, _)]
    rw [KB, if_pos hx, KB]
  | y :: ys, a, os, hy, b, hb => by
    have hy2 : ∀ z ∈ ys, JH z = true → 0 ≤ JS z := fun z hz => hy z (List.mem_cons_of_mem _ hz)
    rw [Ka, WB] at hb; rw [List.cons_append, KB, KB]
    by_cases hf : JH y = true
    · have h0 := hy y List.mem_cons_self hf
      rw [if_pos hf] at hb; rw [if_pos hf, if_pos hf, qo hx ys _ os hy2 b (by omega)]; rfl
    · rw [if_neg hf] at hb
      rw [if_neg hf, if_neg hf, qo hx ys _ os.tail hy2 b (by omega)]; rfl
theorem qp {x : Ty} (hx : ¬ JH x = true) (v e : Nat) : ∀ (ts : List Ty) (a : Nat) (pre : List Nat), pre.length = cV ts → KB (ts ++ [x]) a (pre ++ [v, e]) = KB ts a (pre ++ [v]) ++ [(x, v, e)]
  | [], a, pre, hp => by
    rw [cV] at hp
    obtain rfl := List.length_eq_zero_iff.1 hp
    show KB [x] _ [v, e] = [(x, v, e)]
    rw [KB, if_neg hx, KB]; rfl
  | y :: ys, a, pre, hp => by
    rw [cV] at hp; rw [List.cons_append, KB, KB]
    by_cases hf : JH y = true
    · rw [if_pos hf] at hp
      rw [if_pos hf, if_pos hf, qp hx v e ys _ pre hp]; rfl
    · rw [if_neg hf] at hp
      rw [if_neg hf, if_neg hf]
      cases pre with
      | nil => simp at hp
      | cons u pre =>
        have hp2 : pre.length = cV ys := by simpa using hp
        have e1 : (u :: pre ++ [v, e]).tail = pre ++ [v, e] := rfl
        have e2 : (u :: pre ++ [v]).tail = pre ++ [v] := rfl
        rw [e1, e2, qp hx v e ys _ pre hp2]
        have e3 : (u :: pre ++ [v, e]).getD 1 0 = (u :: pre ++ [v]).getD 1 0 := by cases pre <;> rfl
        rw [e3]; rfl
theorem ZO : ∀ (ts : List Ty) (a : Nat) (os os' : List Nat), Vj ts = -1 → KB ts a os = KB ts a os'
  | [], _, _, _, _ => rfl
  | x :: xs, a, os, os', h => by
    rw [Vj] at h
    have := Yf xs
    by_cases h1 : 0 ≤ Vj xs
    · rw [if_pos h1] at h; omega
    · rw [if_neg h1] at h
      by_cases hf : JH x = true
      · rw [KB, KB, if_pos hf, if_pos hf, ZO xs _ os os' (by omega)]
      · rw [if_neg hf] at h; omega
theorem Jn3 : ∀ {ts : List Ty}, 0 ≤ Vj ts → 0 < cV ts
  | [], h => by rw [Vj] at h; omega
  | x :: xs, h => by
    rw [Vj] at h; rw [cV]
    by_cases h1 : 0 ≤ Vj xs
    · have := Jn3 h1
      split <;> omega
    · rw [if_neg h1] at h
      split
      · rename_i hf; rw [if_pos hf] at h; omega
      · omega
theorem Jhl : ∀ {ts : List Ty}, Vj ts = -1 → cV ts = 0
  | [], _ => rfl
  | x :: xs, h => by
    rw [Vj] at h; rw [cV]
    have := Yf xs
    by_cases h1 : 0 ≤ Vj xs
    · rw [if_pos h1] at h; omega
    · rw [if_neg h1] at h
      by_cases hf : JH x = true
      · rw [if_pos hf]; exact Jhl (by omega)
      · rw [if_neg hf] at h; omega
theorem wY (v e : Nat) : ∀ (ts : List Ty) (a : Nat) (pre : List Nat) (j : Nat), pre.length = cV ts → Vj ts = (j : Int) → ∃ x f, (KB ts a (pre ++ [e]))[j]? = some (x, f, e) ∧ KB ts a (pre ++ [v]) = (KB ts a (pre ++ [e])).set j (x, f, v)
  | [], _, _, j, _, h => by rw [Vj] at h; omega
  | y :: ys, a, pre, j, hp, h => by
    have hge := Yf ys
    rw [cV] at hp; rw [Vj] at h; rw [KB, KB]
    by_cases h1 : 0 ≤ Vj ys
    · rw [if_pos h1] at h
      obtain ⟨j', rfl⟩ : ∃ j', j = j' + 1 := ⟨j - 1, by omega⟩
      by_cases hf : JH y = true
      · rw [if_pos hf] at hp
        obtain ⟨x, f, g1, g2⟩ := wY v e ys (a + (JS y).toNat) pre j' hp (by omega)
        rw [if_pos hf, if_pos hf]; exact ⟨x, f, by rw [List.getElem?_cons_succ]; exact g1, by rw [List.set_cons_succ, ← g2]⟩
      · rw [if_neg hf] at hp
        cases pre with
        | nil => simp at hp
        | cons u pre =>
          obtain ⟨x, f, g1, g2⟩ := wY v e ys (a + 4) pre j' (by simpa using hp) (by omega)
          rw [if_neg hf, if_neg hf]
          have hpos : 0 < cV ys := Jn3 h1
          have e3 : (u :: pre ++ [v]).getD 1 0 = (u :: pre ++ [e]).getD 1 0 := by
            cases pre with
            | nil => simp at hp; omega
            | cons _ _ => rfl
          rw [e3]; exact ⟨x, f, by rw [List.getElem?_cons_succ]; exact g1, by rw [List.set_cons_succ]; exact congrArg _ g2⟩
    · rw [if_neg h1] at h
      by_cases hf : JH y = true
      · rw [if_pos hf] at h; omega
      · rw [if_neg hf] at h hp
        have hj : j = 0 := by omega
        subst hj
        have hc0 : cV ys = 0 := Jhl (by omega)
        cases pre with
        | nil => simp at hp
        | cons u pre =>
          have hn : pre = [] := List.length_eq_zero_iff.1 (by simp at hp; omega)
          subst hn; rw [if_neg hf, if_neg hf]; refine ⟨y, u, rfl, ?_⟩; rw [ZO ys (a + 4) (([u] ++ [v]).tail) (([u] ++ [e]).tail) (by omega)]; rfl
def prC (q : Ty × Nat × Nat) : List Value := q.1.cells ++ [.int .i64 (q.2.1 : Int), .int .i64 (q.2.2 : Int)]
def Xs (l : List (Ty × Nat × Nat)) : List Value := l.flatMap prC
theorem Zr (q : Ty × Nat × Nat) : (prC q).length = 5 := by unfold prC; rw [List.length_append, Ty.len]; rfl
theorem Jdd (l : List (Ty × Nat × Nat)) : (Xs l).length = l.length * 5 := KT Zr l
theorem Jvc (x : Ty) (f e v : Nat) : (prC (x, f, e)).set 4 (.int .i64 (v : Int)) = prC (x, f, v) := by
  obtain ⟨k, n, p, ins⟩ := x; rfl
theorem Jde : ∀ {l : List (Ty × Nat × Nat)} {j : Nat} {x : Ty} {f e : Nat} (v : Nat), l[j]? = some (x, f, e) → (Xs l).set (j * 5 + 4) (.int .i64 (v : Int)) = Xs (l.set j (x, f, v))
  | [], _, _, _, _, _, h => by simp at h
  | q :: l, 0, x, f, e, v, h => by
    cases h
    unfold Xs
    rw [List.set_cons_zero, List.flatMap_cons, List.flatMap_cons, List.set_append_left _ _ (by rw [Zr]; decide), Nat.zero_mul, Nat.zero_add, Jvc]
  | q :: l, j + 1, x, f, e, v, h => by
    have ih := Jde (l := l) v (by simpa using h)
    unfold Xs at ih ⊢
    rw [List.set_cons_succ, List.flatMap_cons, List.flatMap_cons, List.set_append_right _ _ (by rw [Zr]; omega), Zr, show (j + 1) * 5 + 4 - 5 = j * 5 + 4 by omega, ih]
theorem WZ (l : List (Ty × Nat × Nat)) (q : Ty × Nat × Nat) : Xs (l ++ [q]) = Xs l ++ prC q := by unfold Xs; rw [List.flatMap_append]; simp
def QU (k n : Int) (ins : List Ty) (s : BS) : List Nat × Int :=
  if (JT k n ins s).2 ≠ 0 then ([], (JT k n ins s).2)
  else if (s.length : Int) < Ka (Kt k ins (JT k n ins s).1) then ([], 2)
  else match QA s (Ka (Kt k ins (JT k n ins s).1)).toNat (Kt k ins (JT k n ins s).1) 0 (Ka (Kt k ins (JT k n ins s).1)).toNat false with
    | none => ([], 2)
    | some os => (os, 0)
theorem Jn4 {R : Jq} {k n : Int} {p : Pl} {ins : List Ty} {m : Nat} (ht : Ty.In R (.mk k n p ins)) (hm : m ≤ 1000000) (hx : ∀ i, i < m → VV k 0 i < ins.length) (rt ri : Nat) :
    Jnl Tryz.prog 230 [V6 ri, V6 rt] (ZH ri m :: VF rt (.mk k n p ins) :: R) 0 (nxN (itV k ins) m) (Jd4 m) := by
  refine Jc8 Tryz.func230 rfl rfl fun q xids w2 XI XF pc hY => ?_; refine sR fun _ hK1 => ?_; refine LR rfl (Jk (v := .int .i64 (m : Int)) rfl (J6 (k := 0) rfl) rfl rfl) ?_; refine Ji rfl (nK hK1 ?_); refine Jt (JK (σ := Nat) (fun i => i ≤ m) (fun i => [(0, .func (.yield q) #[] #[]), (1, V6 ri), (2, V6 rt), (5, .int .i64 (m : Int)), (6, .int .i64 (i : Int))]) (fun _ => []) (fun i => XI i) (fun i => m - i) 0 (Nat.zero_le _) (.cons rfl (.cons rfl (.cons rfl (.cons rfl (.cons rfl .nil))))) (List.Sublist.refl _) (fun _ _ h => h) ?_); intro i hi; refine sR fun _ hK2 => JV rfl (nK hK2 ?_); refine sQ fun _ hK3 => ?_; refine Jc rfl (fun h4 => ?_) (fun h4 => ?_)
  · try simp only [ZZ] at h4
    refine Jf (hK3 ?_); refine sB fun _ hK5 => sR fun _ hK6 => ?_; refine LS 2 [] rfl rfl (nK hK6 ?_); refine sQ fun _ hK7 => ?_
    have hil : i < m := by omega
    refine Ja (LS 2 [] rfl rfl (LR rfl (Jo (xs := Ty.cells (.mk k n p ins)) (n := 3) rfl (J6 (k := 1) rfl) rfl rfl (Ty.len _)) ?_)); refine Ji rfl (Jh rfl rfl rfl (enters_of Tryz.func231 (by kernel_rfl) rfl) (Jtk ht (fun _ => Int.le_refl 0) (hx i hil)) (fun q hq => Or.inr (List.mem_cons_of_mem _ (List.mem_cons_of_mem _ hq))) ?_); refine Jjb (XT := XI (i + 1)) (XF := XF) (pc := pc) rfl rfl rfl rfl (hY i (itV k ins i) (i + 1) ⟨hil, rfl, rfl⟩) ?_ ?_ (fun ch hch => Jhe fun w1 hs1 => .inr ⟨ch, rfl, hch, hs1.keep⟩)
    all_goals refine JV rfl ?_
    all_goals refine Jg ?_
    all_goals (
     refine hK7 ?_; refine Jc rfl (fun h8 => ?_) (fun h8 => ?_)
     · try exact Bool.noConfusion h8
       all_goals try simp only [ZZ] at h8
       all_goals (
        refine Jb (Jn (Jd ?_)); refine Jd (Jn ?_); refine Ju rfl rfl .nil (fun w1 hs1 => ?_)
        obtain ⟨xs1, hx1⟩ := hs1.now
        exact .inl ⟨⟨_, rfl⟩, hs1.keep, .inr ⟨_, hx1⟩⟩
        skip)
     · try exact Bool.noConfusion h8
       all_goals try simp only [ZZ] at h8
       all_goals (
        refine Jf (Jj (hK5 ?_)); refine Ja ?_
        refine JV rfl ?_; refine Jz (show _ = Value.int .i64 ((i + 1 : Nat) : Int) from by rw [wrap_i64 (by omega) (by omega)]; congr 1 <;> omega) ?_; refine Ji rfl (Jg (J7 ?_)); exact J2 (i + 1) (by omega) (by omega) (.cons rfl (.cons rfl (.cons rfl (.cons rfl (.cons rfl .nil))))) (List.Sublist.refl _) (fun _ _ h => h)
        skip)
     skip)
  · try simp only [ZZ] at h4
    refine JG (Jm ?_); refine Jm (J0 ?_); refine Qt rfl rfl .nil (fun w1 hs1 => ?_)
    obtain ⟨xs1, hx1⟩ := hs1.now
    exact .inl ⟨⟨_, rfl⟩, hs1.keep, .inl ⟨i, _, (by show i = m; omega), hx1⟩⟩
theorem Jr2 {c : Cx} {d : List Deferred} {l : Kl} {L : Jq} {X : XP} {Q : Exit → Act → World → Prop} {code : Code} (js : List Nat) {L' : Jq} (hn : js.Nodup) (hL : zF L js = L') (h : HCE c d l L' X code Q) : HCE c d l L X code Q := fun a w hf hs => h a w hf (hL ▸ hs.sel js hn)
theorem qq {σ τ : Type} {c3 : Cx} {d : List Deferred} {l : Kl} {L : Jq} {Xb : XP} {I : σ → Prop} {LI : σ → Jq} {E : Code → τ → Prop} {LE : τ → Jq} {pc : List PanicEntry → Prop} (s : σ) (h : I s) (hL : L.Sublist (LI s) ∧ (LI s).Sublist L) : HQ c3 d l L Xb (vE c3 Xb I LI E LE pc .normal) := fun a w hf hs => ⟨s, h, hs.weakL hL.2⟩
theorem row_some {sz n : Nat} {xs : List Value} {row : Vu} (h : rowOk sz n xs row) (h0 : 0 < n) : ∃ r cap sp, row = some (r, cap, sp) := by
  cases row with
  | none => have := h.1; omega
  | some q => obtain ⟨r, cap, sp⟩ := q; exact ⟨r, cap, sp, rfl⟩
def vF (s : BS) (TY : List Ty) (i : Nat) (pre : List Nat) : List (Ty × Nat × Nat) := KB (TY.take i) 0 (pre ++ [s.length])
structure PInv (s : BS) (H : Nat) (TY : List Ty) (i A la : Nat) (op : Int) (pre : List Nat) : Prop where
  le : i ≤ TY.length
  cv : pre.length = cV (TY.take i)
  opv : op = Vj (TY.take i)
  at_ : (A : Int) = Ka (TY.take i)
  off : QA s H TY 0 H false = (QA s H (TY.drop i) A la (decide (0 ≤ op))).map (pre ++ ·)
section
variable {s : BS} {H : Nat} {TY : List Ty} {i A la : Nat} {op : Int} {pre : List Nat} {x : Ty}
theorem PInv.start : PInv s H TY 0 0 H (-1) [] := ⟨Nat.zero_le _, rfl, rfl, rfl, by rw [List.drop_zero, show decide ((0 : Int) ≤ -1) = false from rfl]; cases QA s H TY 0 H false <;> rfl⟩
theorem Kp {α : Type} {l : List α} {i : Nat} {x : α} (h : l[i]? = some x) : l.take (i + 1) = l.take i ++ [x] := by rw [List.take_add_one, h]; rfl
theorem KK {α : Type} {l : List α} {i : Nat} {x : α} (h : l[i]? = some x) : l.drop i = x :: l.drop (i + 1) := by
  obtain ⟨h1, rfl⟩ := List.getElem?_eq_some_iff.1 h
  exact List.drop_eq_getElem_cons h1
theorem Zs (l : List Ty) : 0 ≤ Ka l := (j8 l).1
theorem PInv.bound (h : PInv s H TY i A la op pre) (hx : TY[i]? = some x) (hH : Ka TY = (H : Int)) : (A : Int) + WB x ≤ H := by
  have e : TY = TY.take i ++ (x :: TY.drop (i + 1)) := by rw [← KK hx, List.take_append_drop]
  rw [e, V0, Ka] at hH
  have := Zs (TY.drop (i + 1))
  have := h.at_
  omega
theorem PInv.len (h : PInv s H TY i A la op pre) : (vF s TY i pre).length = i := by unfold vF; rw [qm, List.length_take, Nat.min_eq_left h.le]
theorem PInv.fix (h : PInv s H TY i A la op pre) (hx : TY[i]? = some x) (hf : JH x = true) (hz : ∀ y ∈ TY, JH y = true → 0 ≤ JS y) : PInv s H TY (i + 1) (A + (JS x).toNat) la op pre ∧ vF s TY (i + 1) pre = vF s TY i pre ++ [(x, A, A + (JS x).toNat)] := by
  have h0 := hz x (List.mem_of_getElem? hx) hf
  have hlt := (List.getElem?_eq_some_iff.1 hx).1
  have h1 := h.off
  rw [KK hx, QA, if_pos hf] at h1; refine ⟨⟨hlt, ?_, ?_, ?_, h1⟩, ?_⟩
  · rw [Kp hx, Jad, if_pos hf]; exact h.cv
  · rw [Kp hx, ZN, if_pos hf]; exact h.opv
  · rw [Kp hx, V0, Ka, Ka, WB, if_pos hf, ← h.at_]; omega
  · unfold vF
    rw [Kp hx, qo hf _ 0 _ (fun y hy => hz y (List.mem_of_mem_take hy)) A (by rw [h.at_]; simp)]
theorem PInv.bad (h : PInv s H TY i A la op pre) (hx : TY[i]? = some x) (hf : JH x = false) {v : Nat} (hv : v = W3 ((s.drop A).take 4)) (hb : (¬ 0 ≤ op ∧ v ≠ H) ∨ v < la ∨ s.length < v) : QA s H TY 0 H false = none := by
  subst hv
  rw [h.off, KK hx, QA, if_neg (by rw [hf]; decide), if_pos (by
    rcases hb with ⟨h1, h2⟩ | h1
    · exact .inl ⟨by simp [h1], h2⟩
    · exact .inr h1)]
  rfl
theorem PInv.var (h : PInv s H TY i A la op pre) (hx : TY[i]? = some x) (hf : JH x = false) {v : Nat} (hv : v = W3 ((s.drop A).take 4)) (h1 : 0 ≤ op ∨ v = H) (h2 : la ≤ v) (h3 : v ≤ s.length) :
    PInv s H TY (i + 1) (A + 4) v i (pre ++ [v]) ∧ (op = -1 → vF s TY (i + 1) (pre ++ [v]) = vF s TY i pre ++ [(x, v, s.length)]) ∧
      (∀ j : Nat, op = (j : Int) → ∃ x0 f0, (vF s TY i pre)[j]? = some (x0, f0, s.length) ∧ vF s TY (i + 1) (pre ++ [v]) = (vF s TY i pre).set j (x0, f0, v) ++ [(x, v, s.length)]) := by
  have hlt := (List.getElem?_eq_some_iff.1 hx).1
  have hn : ¬ JH x = true := by rw [hf]; decide
  have hlv : W3 ((s.drop A).take 4) = v := hv.symm
  have ho := h.off
  rw [KK hx, QA, if_neg hn, hlv, if_neg (by
    rintro (⟨g1, g2⟩ | g | g)
    · simp only [decide_eq_false_iff_not] at g1; omega
    · omega
    · omega), Option.map_map] at ho
  have hps : vF s TY (i + 1) (pre ++ [v]) = KB (TY.take i) 0 (pre ++ [v]) ++ [(x, v, s.length)] := by
    unfold vF
    rw [Kp hx, List.append_assoc]; exact qp hn v s.length _ 0 pre h.cv
  refine ⟨⟨hlt, ?_, ?_, ?_, ?_⟩, fun e => ?_, fun j e => ?_⟩
  · rw [Kp hx, Jad, if_neg hn, List.length_append, h.cv]; rfl
  · rw [Kp hx, ZN, if_neg hn, List.length_take, Nat.min_eq_left h.le]
  · rw [Kp hx, V0, Ka, Ka, WB, if_neg hn, ← h.at_]; omega
  · rw [ho, show decide (0 ≤ (i : Int)) = true by simp]
    congr 1
    funext r
    simp
  · rw [hps, ZO _ 0 (pre ++ [v]) (pre ++ [s.length]) (by rw [← h.opv]; exact e)]; rfl
  · obtain ⟨x0, f0, g1, g2⟩ := wY v s.length (TY.take i) 0 pre j h.cv (by rw [← h.opv]; exact e)
    exact ⟨x0, f0, g1, by rw [hps, g2]; rfl⟩
theorem PInv.done (h : PInv s H TY TY.length A la op pre) : vF s TY TY.length pre = KB TY 0 (pre ++ [s.length]) ∧ QA s H TY 0 H false = if ¬ 0 ≤ op ∧ H ≠ s.length then none else some (pre ++ [s.length]) := by
  refine ⟨by unfold vF; rw [List.take_length], ?_⟩; rw [h.off, List.drop_length, QA]
  by_cases hc : ¬ 0 ≤ op ∧ H ≠ s.length
  · rw [if_pos hc, if_pos ⟨by simp [hc.1], hc.2⟩]; rfl
  · rw [if_neg hc, if_neg (by rintro ⟨g1, g2⟩; exact hc ⟨by simpa using g1, g2⟩)]; rfl
end
abbrev Y6 (k n : Int) (ins : List Ty) (s : BS) : List (Ty × Nat × Nat) := KB (Kt k ins (JT k n ins s).1) 0 (QU k n ins s).1
section
variable {k n : Int} {ins : List Ty} {s : BS} {M H : Nat}
theorem jD (h : (JT k n ins s).2 ≠ 0) : (QU k n ins s).2 = (JT k n ins s).2 := by unfold QU; rw [if_pos h]
theorem Jhm (h0 : (JT k n ins s).2 = 0) (hM : M = (JT k n ins s).1) (hH : Ka (Kt k ins M) = (H : Int)) (h : s.length < H) : (QU k n ins s).2 = 2 := by
  unfold QU; rw [if_neg (by rw [h0]; decide), ← hM, hH, if_pos (by omega)]
theorem Jae (h0 : (JT k n ins s).2 = 0) (hM : M = (JT k n ins s).1) (hH : Ka (Kt k ins M) = (H : Int)) (h : H ≤ s.length) : QU k n ins s = match QA s H (Kt k ins M) 0 H false with | none => ([], 2) | some os => (os, 0) := by
  unfold QU; rw [if_neg (by rw [h0]; decide), ← hM, hH, if_neg (by omega), Int.toNat_natCast]
  all_goals (cases QA s H (Kt k ins M) 0 H false <;> rfl)
theorem Jhn (h0 : (JT k n ins s).2 = 0) (hM : M = (JT k n ins s).1) (hH : Ka (Kt k ins M) = (H : Int)) (h : H ≤ s.length) (ho : QA s H (Kt k ins M) 0 H false = none) : (QU k n ins s).2 = 2 := by
  rw [Jae h0 hM hH h, ho]
end
set_option maxHeartbeats 2000000 in
theorem Jr3 {R : Jq} {k n : Int} {p : Pl} {ins : List Ty} {s : BS} (ht : Ty.In R (.mk k n p ins)) (hc : V2 (.mk k n p ins) 0 = 0) (hk3 : k = 3 ∨ k = 4 ∨ k = 7) (hl : s.length ≤ 100000) :
    PureX (α := { row : Vu // rowOk 5 (Y6 k n ins s).length (Xs (Y6 k n ins s)) row }) Tryz.prog 147 [Ty.val (.mk k n p ins), J3 s].toArray ((QU k n ins s).2 = 0) (fun v => (QU k n ins s).2 ≠ 0 ∧ v = zq (QU k n ins s).2) (fun x => JC (Y6 k n ins s).length x.1) (fun x => JU 162 (Xs (Y6 k n ins s)) x.1) R := by
  obtain ⟨hk8, ho, _, _⟩ := QO hc
  have hmny := Jvb ht hc hk3 hl
  have hmok := vD (s := s) hk8 ho hk3
  have hmX := wO (s := s) hk8 ho hk3
  obtain ⟨M, hM⟩ : ∃ M, M = (JT k n ins s).1 := ⟨_, rfl⟩
  rw [← hM] at hmny hmok hmX
  obtain ⟨TY, hTY⟩ : ∃ TY, TY = Kt k ins M := ⟨_, rfl⟩
  have hTl : TY.length = M := by rw [hTY, Xo]
  have hzz : ∀ z ∈ TY, JH z = true → 0 ≤ JS z := fun z _ hz => by have := jA hz; omega
  have hbl := Zs TY
  obtain ⟨H, hH⟩ : ∃ H, H = (Ka TY).toNat := ⟨_, rfl⟩
  have hHi : Ka TY = (H : Int) := by omega
  have hHi' : Ka (Kt k ins M) = (H : Int) := by rw [← hTY]; exact hHi
  refine Jaa Tryz.func147 rfl rfl fun w => ?_; refine We fun K1 hK1 => ?_; refine Ja (LN rfl fun r1 => (LN rfl fun r2 => ?_)); refine Ji rfl ?_; refine Jg (hK1 _ _ _ _ ?_); refine We fun K2 hK2 => ?_; refine Ja (LS 2 [1, 0] rfl rfl ?_); refine KP rfl rfl rfl (enters_of Tryz.func185 (by kernel_rfl) rfl) hmny (fun q hq => Or.inr hq) (fun hm0 _ => ?_) (fun v hv => Qj rfl rfl (by rw [jD hv.1]; exact hv))
  have hM5 := (hmok hm0).1
  have hX := hmX hm0
  have hti := fun i (h : i < M) => ht.sub _ (Qk (hX i h)).2
  have hbg := Jcw ht (m := M) (by omega) hX
  rw [hHi'] at hbg; refine Ji rfl ?_; refine Jg (hK2 _ _ _ _ ?_); refine We fun K3 hK3 => ?_; refine Ja (LS 2 [1] rfl rfl (Jh rfl rfl rfl (enters_of Tryz.func163 (by kernel_rfl) rfl) hbg (fun q hq => Or.inr hq) ?_)); refine LN rfl fun r3 => ?_
  refine LT 0 rfl rfl ?_; refine Jg (hK3 _ _ _ _ ?_); refine We fun K4 hK4 => ?_; refine Ja (LS 2 [0, 1] rfl rfl (LR rfl (JY rfl rfl) ?_)); refine JV rfl ?_; refine KP rfl rfl rfl Zv (VA (_) 2) (fun q hq => nomatch hq) (fun hok _ => ?_) (fun v hv => Qj rfl rfl (Wt (Jhm hm0 hM hHi' (by have := Z2.1 hv.1; omega)) (by decide) hv))
  have hHl : H ≤ s.length := by have := Z1.mp hok; omega
  refine Jg (hK4 _ _ _ _ ?_); refine We fun K5 hK5 => ?_; refine Ja (LN rfl fun r4 => ?_); refine Jg (hK5 _ _ _ _ ?_); refine We fun K6 hK6 => ?_
  refine JR [(r3, .cells #[.int .i64 (H : Int)] 3 (0, 0))] [(0, .pure), (1, .grow (VZ zP (.cells #[.int .i64 0] 3 (0, 0)))), (2, .grow (VZ zP (.cells #[.int .i64 0] 3 (0, 0)))), (3, .grow (VZ zP (.cells #[.int .i64 0] 3 (0, 0)))), (4, .turn), (5, .turn), (6, .turn)] 7 [0, 1, 2, 3, 4, 5, 6] (by kernel_rfl) (by kernel_rfl) (by first | exact (fun _ h => absurd h List.not_mem_nil) | simp [SubS] | (intro p hp; simp [hp])) ?_; refine Jw (k := 0) rfl rfl rfl rfl rfl (fun _ hS => (Jk rfl (.inl (hS _ (Ku (n := 0) rfl))) rfl rfl)) ?_; refine XV (k := 1) (cs := #[_]) rfl rfl rfl rfl rfl rfl fun r5 => ?_; refine XV (k := 2) (cs := #[_]) rfl rfl rfl rfl rfl rfl fun r6 => ?_; refine XV (k := 3) (cs := #[_]) rfl rfl rfl rfl rfl rfl fun r7 => ?_
  refine W8 (k := 4) (q := 2) rfl rfl rfl rfl rfl rfl rfl rfl rfl (by first | (simp only [List.setIfInBounds_toArray, List.set_cons_zero, List.set_cons_succ]; exact rfl) | exact rfl) (by first | (simp only [List.set_cons_zero, List.set_cons_succ]; exact rfl) | exact rfl) (by first | exact (fun _ h => absurd h List.not_mem_nil) | simp [SubS] | (intro p hp; simp [hp])) ?_
  refine W8 (k := 5) (q := 1) rfl rfl rfl rfl rfl rfl rfl rfl rfl (by first | (simp only [List.setIfInBounds_toArray, List.set_cons_zero, List.set_cons_succ]; exact rfl) | exact rfl) (by first | (simp only [List.set_cons_zero, List.set_cons_succ]; exact rfl) | exact rfl) (by first | exact (fun _ h => absurd h List.not_mem_nil) | simp [SubS] | (intro p hp; simp [hp])) ?_
  refine W8 (k := 6) (q := 0) rfl rfl rfl rfl rfl rfl rfl rfl rfl (by first | (simp only [List.setIfInBounds_toArray, List.set_cons_zero, List.set_cons_succ]; exact rfl) | exact rfl) (by first | (simp only [List.set_cons_zero, List.set_cons_succ]; exact rfl) | exact rfl) (by first | exact (fun _ h => absurd h List.not_mem_nil) | simp [SubS] | (intro p hp; simp [hp])) ?_; refine KA ?_; refine Jg (hK6 _ _ _ _ ?_); refine Jhf fun K7 hK7 => ?_; refine We fun K8 hK8 => ?_; refine Ja (LS 2 [6] rfl rfl (Vk rfl rfl rfl Jle (xQ (.mk k n p ins) (M : Int)) fun pp => ?_))
  obtain ⟨ra, rb⟩ := pp
  change HL _ _ _ (ZH rb M :: VF ra (.mk k n p ins) :: _) _ _ _ _; refine Jg (hK8 _ _ _ _ ?_); refine Jjf ?_; refine Jr2 [4, 3, 2, 5, 0, 1, 6, 7, 8] (L' := [_, _, _, _, _, _, _, _, _]) (by decide) rfl ?_
  refine Jjg (τ := Unit) (fun ch => ∃ v, ((QU k n ins s).2 ≠ 0 ∧ v = zq (QU k n ins s).2) ∧ ch = wP v) (fun i (q : Nat × Nat × Nat × Int × Vu × List Nat) => q.1 = i ∧ PInv s H TY q.1 q.2.1 q.2.2.1 q.2.2.2.1 q.2.2.2.2.2 ∧ rowOk 5 q.1 (Xs (vF s TY q.1 q.2.2.2.2.2)) q.2.2.2.2.1) (fun q => (r5, .cells #[.int .i64 (q.2.1 : Int)] 3 (0, 0)) :: (r6, .cells #[.int .i64 (q.2.2.1 : Int)] 3 (0, 0)) :: (r7, .cells #[.int .i64 q.2.2.2.1] 3 (0, 0)) :: (r4, .cells #[JC q.1 q.2.2.2.2.1] 159 (0, 0)) :: JU 162 (Xs (vF s TY q.1 q.2.2.2.2.2)) q.2.2.2.2.1) (fun _ _ => False) (fun _ => []) [ZH rb M, VF ra (.mk k n p ins), _, _, _] (0, 0, H, -1, none, []) rfl rfl Jlj (Jn4 ht (by omega) hX ra rb) (by rintro _ _ _ ⟨_, rfl, _⟩; rfl) rfl (fun q hq => by rcases List.mem_cons.1 hq with rfl | hq; exact .inl (by simp); rcases List.mem_cons.1 hq with rfl | hq; exact .inl (by simp); exact .inr hq) rfl ⟨rfl, PInv.start, rfl, rfl⟩ ?_ ?_ ?_ ?_
  · rintro q Xr Xb w3 i _ _ ⟨i2, A, la, op, row, pre⟩ ⟨hii, rfl, rfl⟩ ⟨he, hinv, hrow⟩ Kr hKr
    simp only at he hinv hrow; subst he
    have hti1 := hti i2 hii
    have hxx : TY[i2]? = some (JJ k 0 ins i2) := by rw [hTY]; unfold Kt; rw [List.getElem?_map, List.getElem?_range hii]; rfl
    have hsz := vw hti1
    have hbd := hinv.bound hxx hHi
    have hbt := vx (JJ k 0 ins i2)
    have hbe := xP (JJ k 0 ins i2)
    unfold itV
    obtain ⟨x, hx⟩ : ∃ x, x = JJ k 0 ins i2 := ⟨_, rfl⟩
    rw [← hx] at hti1 hxx hsz hbd hbt hbe ⊢
    obtain ⟨y, hy⟩ : ∃ y : Nat, WB x = (y : Int) := ⟨_, (Int.toNat_of_nonneg (by omega)).symm⟩
    rw [hy] at hsz hbd hbt hbe
    obtain ⟨xk, xn, xp, xi⟩ := x
    refine Wj fun K9 hK9 => Ja ?_; refine Ji rfl ?_; refine Jg (hK9 _ _ _ _ ?_); refine Ja (LN rfl fun r8 => ?_)
    refine QS (k := 0) (n := 3) (cs' := #[_, _, _]) (vs := #[_, _, _]) rfl rfl rfl rfl rfl rfl rfl (by exact Nat.le_of_ble_eq_true rfl) rfl (by first | (simp only [List.set_cons_zero, List.set_cons_succ]; exact rfl) | exact rfl) ?_; refine Jg ?_; refine hKr _ _ ?_; clear hKr; refine Jt (Wj fun K10 hK10 => Ja (LR rfl (Jo (xs := Ty.cells (.mk xk xn xp xi)) (n := 3) rfl (kn 0 rfl) rfl rfl (Ty.len _)) ?_)); refine Jh rfl rfl rfl Jf5 hsz (fun q hq => Or.inr (List.mem_append_right _ hq)) ?_; refine LS 5 [] rfl rfl ?_; refine Jg (hK10 _ _ _ _ ?_); refine Wj fun K11 hK11 => Ja ?_; refine LR rfl (Jo (xs := Ty.cells (.mk xk xn xp xi)) (n := 3) rfl (kn 0 rfl) rfl rfl (Ty.len _)) ?_; refine LS 4 [1, 1] rfl rfl ?_; refine Jz (show _ = Value.int .i64 ((A + y : Nat)) from congrArg (Value.int .i64) (by rw [wrap_i64 (by omega) (by omega)]; omega)) ?_; refine LR rfl (JI (r := [_, _, _, _, _]) rfl rfl) ?_; refine LN rfl fun r9 => ?_
    refine LT 0 rfl rfl ?_; refine Jg (hK11 _ _ _ _ ?_); refine Wj fun K12 hK12 => ?_; refine Wj fun K13 hK13 => Ja ?_; refine LS 2 [] rfl rfl ?_; refine Jg (hK13 _ _ _ _ ?_); refine Jc rfl (fun h14 => ?_) (fun h14 => ?_)
    · try simp only [ZZ] at h14
      refine Wj fun K15 hK15 => ?_
      have hff : JH (Ty.mk xk xn xp xi) = false := ‹_›
      rw [hff, if_neg (by decide)] at hbe; refine Ja (LR rfl (Jk rfl (J6 (k := 3) rfl) rfl rfl) (LR rfl (Jk rfl (kn 2 rfl) rfl rfl) ?_)); refine LR rfl (V5 (kl := some (.i64, (A : Int))) (kh := none) (m := A) (n := s.length) rfl rfl rfl rfl rfl rfl (by omega) (by omega) (show _ = s.drop A from by rw [List.take_length])) ?_; refine JD rfl rfl rfl Jlg (Jnw (s := s.drop A) (by rw [List.length_drop]; omega)) ?_
      obtain ⟨v, hv⟩ : ∃ v, v = W3 ((s.drop A).take 4) := ⟨_, rfl⟩
      rw [← hv]; refine LS 1 [] rfl rfl ?_
      refine LT 0 rfl rfl ?_; refine Jg (hK15 _ _ _ _ ?_); refine Wj fun K16 hK16 => Ja ?_; refine LS 5 [0, 3] rfl rfl ?_
      refine JB 55 rfl (fun hb17 => ?_) (fun hb17 => ?_) <;> (try simp only [ZZ] at hb17) <;> first | (refine LR rfl (JM rfl rfl rfl) ?_) | (refine LK rfl ?_)
      all_goals refine LW 1 [0] rfl rfl ?_
      all_goals first
        | (refine LR rfl (Jk rfl (J6 (k := 3) rfl) rfl rfl) ?_)
        | (refine LK rfl ?_)
      all_goals first
        | (refine LR rfl (JY rfl rfl) ?_)
        | (refine LK rfl ?_)
      all_goals refine LW 3 [] rfl rfl ?_
      all_goals first
        | (refine LK rfl ?_)
        | (refine JB 62 rfl (fun hb22 => ?_) (fun hb22 => ?_) <;> (try simp only [ZZ] at hb22) <;> first | (refine LR rfl (Jk rfl (kn 0 rfl) rfl rfl) ?_) | (refine LR rfl (Jk rfl (kn 1 rfl) rfl rfl) ?_) | (refine LR rfl (Jk rfl (kn 2 rfl) rfl rfl) ?_) | (refine LR rfl (Jk rfl (kn 3 rfl) rfl rfl) ?_) | (refine LR rfl (Jk rfl (kn 4 rfl) rfl rfl) ?_) | (refine LR rfl (Jk rfl (kn 5 rfl) rfl rfl) ?_) | (refine LR rfl (Jk rfl (kn 6 rfl) rfl rfl) ?_) | (refine LR rfl (Jk rfl (J6 (k := 0) rfl) rfl rfl) ?_) | (refine LR rfl (Jk rfl (J6 (k := 1) rfl) rfl rfl) ?_) | (refine LR rfl (Jk rfl (J6 (k := 2) rfl) rfl rfl) ?_) | (refine LR rfl (Jk rfl (J6 (k := 3) rfl) rfl rfl) ?_) | (refine LR rfl (Jk rfl (J6 (k := 4) rfl) rfl rfl) ?_) | (refine LK rfl ?_))
      all_goals refine LW 2 [] rfl rfl ?_
      all_goals first
        | (refine LK rfl ?_)
        | (refine JB 65 rfl (fun hb25 => ?_) (fun hb25 => ?_) <;> (try simp only [ZZ] at hb25) <;> first | (refine LR rfl (JM rfl rfl rfl) ?_) | (refine LK rfl ?_))
      all_goals refine LW 1 [0] rfl rfl ?_
      all_goals first
        | (refine LR rfl (Jk rfl (J6 (k := 2) rfl) rfl rfl) ?_)
        | (refine LK rfl ?_)
      all_goals refine LW 3 [] rfl rfl ?_
      all_goals refine KP rfl rfl rfl Zv (VA (_) 2) (fun q hq => nomatch hq) (fun hok _ => ?_) (fun v1 hv1 => by first | exact Bool.noConfusion hv1.1 | ((repeat (first | refine Jnk ?_ | refine Jja ?_)); exact Jjd ⟨v1, Wt (Jhn hm0 hM hHi' hHl (by rw [← hTY]; exact hinv.bad hxx hff hv (by first | (refine .inr (.inl ?_); omega) | (refine .inr (.inr ?_); omega) | (refine .inl ⟨?_, fun e => ?_⟩; omega; have := Z4.1 hv1.1; omega)))) (by decide) hv1, rfl⟩))
      all_goals try exact Bool.noConfusion hok
      all_goals refine Jg ?_
      all_goals (
       refine hK16 _ _ _ _ ?_; refine Wj fun K30 hK30 => ?_; refine Wj fun K31 hK31 => ?_
       obtain ⟨hvi, hvn, hvj⟩ := hinv.var hxx hff hv (by first | (left; omega) | (right; have := Z3.1 hok; omega)) (by omega) (by omega)
       refine Ja (LS 2 [4] rfl rfl ?_); refine Jg (hK31 _ _ _ _ ?_); refine Jc rfl (fun h32 => ?_) (fun h32 => ?_)
       try simp only [ZZ] at h32
       obtain ⟨j, hj0⟩ : ∃ j : Nat, op = (j : Int) := ⟨op.toNat, by omega⟩
       have hj : j < i2 := by have := hinv.opv; have := Yf (TY.take i2); rw [List.length_take, Nat.min_eq_left hinv.le] at this; omega
       obtain ⟨rr, cap, sp, rfl⟩ := row_some hrow (by omega)
       obtain ⟨x0, f0, g1, g2⟩ := hvj j hj0
       have hjp : j * 5 + 4 < (Xs (vF s TY i2 pre)).length := by rw [Jdd, hinv.len]; omega
       have hjl : j * 5 + 4 < (Xs (vF s TY i2 pre) ++ sp).length := by rw [List.length_append]; omega
       have hrowJ : rowOk 5 i2 (Xs ((vF s TY i2 pre).set j (x0, f0, v))) (some (rr, cap, sp)) := ⟨by rw [Jdd, List.length_set, hinv.len], hrow.2⟩
       refine Ja (LR rfl (Jk (v := JC i2 (some (rr, cap, sp))) rfl (kn 5 rfl) rfl rfl) (LR rfl (Jk rfl (kn 4 rfl) rfl rfl) ?_))
       refine LS 2 [0] rfl rfl ?_; refine LR rfl (Jd7 (row := some (rr, cap, sp)) (j := j) (m := 5) (off' := j * 5) rfl hrow rfl rfl rfl hj0 hj rfl) ?_; refine LR rfl (Kx (off' := j * 5 + 4) rfl rfl rfl) ?_; refine Kv (k := 6) (cs' := (Xs ((vF s TY i2 pre).set j (x0, f0, v)) ++ sp).toArray) rfl rfl rfl rfl rfl rfl (by rw [List.getElem?_toArray, List.getElem?_eq_getElem hjl]; rfl) (Jt7 _) (by rw [List.setIfInBounds_toArray, List.set_append_left _ _ hjp, Jde v g1]) rfl ?_; refine Jg (hK30 _ _ _ _ ?_); refine Ja (LR rfl (Jk rfl (J6 (k := 3) rfl) rfl rfl) (LR rfl (JY rfl rfl) ?_)); refine LS 4 [0] rfl rfl ?_
       refine LT 0 rfl rfl ?_
       refine LT 3 rfl rfl ?_
       refine Kv (k := 4) rfl rfl rfl rfl rfl rfl rfl rfl (by first | (simp only [List.setIfInBounds_toArray, List.set_cons_zero, List.set_cons_succ]; exact rfl) | exact rfl) (by first | (simp only [List.set_cons_zero, List.set_cons_succ]; exact rfl) | exact rfl) ?_; refine Jg (hK12 _ _ _ _ ?_); refine Wj fun K33 hK33 => Ja ?_; refine LR rfl (Jk (v := JC i2 (some (rr, cap, sp))) rfl (kn 5 rfl) rfl rfl) ?_; refine LR rfl (Jx (vs := [_, _, _, _, _]) rfl (kn 0 rfl) rfl rfl rfl rfl) ?_; refine Ke (vs := [_]) (zs := [_, _, _, _, _]) (r := [_, _, _, _, _]) rfl rfl rfl rfl rfl rfl rfl rfl rfl (by rw [Ks]; exact rfl) rfl fun r10 => ?_; refine Kj (L0 := [_, _, _, _, _, _, _]) (xs := Xs ((vF s TY i2 pre).set j (x0, f0, v))) (row := some (rr, cap, sp)) (n := i2) (sz := 5) (b := 56) (news := [_, _, _, _, _]) (List.perm_append_comm (l₁ := [_, _, _, _, _, _, _])) rfl rfl rfl rfl (kn 0 rfl) rfl rfl rfl rfl rfl (by decide) rfl rfl rfl (by decide) hrowJ (by omega) (by omega) fun ra2 cap2 sp2 hra => ?_; refine Kv (k := 7) (cs' := #[JC (i2 + 1) (some (ra2, cap2, sp2))]) rfl rfl rfl rfl rfl rfl rfl rfl rfl rfl ?_; refine Jg (hK33 _ _ _ _ ?_); refine Ja (LS 3 [4] rfl rfl ?_); refine Jz (show _ = Value.int .i64 ((A + y : Nat)) from congrArg (Value.int .i64) (by rw [wrap_i64 (by omega) (by omega)]; omega)) ?_
       refine LT 4 rfl rfl ?_; refine Jg ?_; refine Jj (Vb [4, 5, 6, 7, 0] (L' := [_, _, _, _, _]) (by decide) rfl ?_)
       (obtain rfl : y = 4 := by omega
        exact qq (i2 + 1, A + 4, v, (i2 : Int), some (ra2, cap2, sp2), pre ++ [v]) ⟨rfl, hvi, by simp only; rw [g2, WZ]; exact hra⟩ (by simp only; rw [g2, WZ]; exact ⟨List.Sublist.refl _, List.Sublist.refl _⟩))
       try simp only [ZZ] at h32
       refine Jf (hK30 _ _ _ _ ?_); refine Ja (LR rfl (Jk rfl (J6 (k := 3) rfl) rfl rfl) (LR rfl (JY rfl rfl) ?_)); refine LS 4 [0] rfl rfl ?_
       refine LT 0 rfl rfl ?_
       refine LT 3 rfl rfl ?_
       refine Kv (k := 4) rfl rfl rfl rfl rfl rfl rfl rfl (by first | (simp only [List.setIfInBounds_toArray, List.set_cons_zero, List.set_cons_succ]; exact rfl) | exact rfl) (by first | (simp only [List.set_cons_zero, List.set_cons_succ]; exact rfl) | exact rfl) ?_; refine Jg (hK12 _ _ _ _ ?_); refine Wj fun K34 hK34 => Ja ?_; refine LR rfl (Jk (v := JC i2 row) rfl (kn 5 rfl) rfl rfl) ?_; refine LR rfl (Jx (vs := [_, _, _, _, _]) rfl (kn 0 rfl) rfl rfl rfl rfl) ?_; refine Ke (vs := [_]) (zs := [_, _, _, _, _]) (r := [_, _, _, _, _]) rfl rfl rfl rfl rfl rfl rfl rfl rfl (by rw [Ks]; exact rfl) rfl fun r11 => ?_; refine Kj (L0 := [_, _, _, _, _, _, _]) (xs := Xs (vF s TY i2 pre)) (row := row) (n := i2) (sz := 5) (b := 56) (news := [_, _, _, _, _]) (List.perm_append_comm (l₁ := [_, _, _, _, _, _, _])) rfl rfl rfl rfl (kn 0 rfl) rfl rfl rfl rfl rfl (by decide) rfl rfl rfl (by decide) hrow (by omega) (by omega) fun ra2 cap2 sp2 hra => ?_; refine Kv (k := 7) (cs' := #[JC (i2 + 1) (some (ra2, cap2, sp2))]) rfl rfl rfl rfl rfl rfl rfl rfl rfl rfl ?_; refine Jg (hK34 _ _ _ _ ?_); refine Ja (LS 3 [4] rfl rfl ?_); refine Jz (show _ = Value.int .i64 ((A + y : Nat)) from congrArg (Value.int .i64) (by rw [wrap_i64 (by omega) (by omega)]; omega)) ?_
       refine Kv (k := 4) rfl rfl rfl rfl rfl rfl rfl rfl (by first | (simp only [List.setIfInBounds_toArray, List.set_cons_zero, List.set_cons_succ]; exact rfl) | exact rfl) (by first | (simp only [List.set_cons_zero, List.set_cons_succ]; exact rfl) | exact rfl) ?_; refine Jg ?_; refine Jj (Vb [4, 5, 6, 7, 0] (L' := [_, _, _, _, _]) (by decide) rfl ?_)
       (obtain rfl : y = 4 := by omega
        have g3 := hvn (by have := hinv.opv; have := Yf (TY.take i2); omega)
        exact qq (i2 + 1, A + 4, v, (i2 : Int), some (ra2, cap2, sp2), pre ++ [v]) ⟨rfl, hvi, by simp only; rw [g3, WZ]; exact hra⟩ (by simp only; rw [g3, WZ]; exact ⟨List.Sublist.refl _, List.Sublist.refl _⟩))
       skip)
    try simp only [ZZ] at h14
    refine Jf (hK12 _ _ _ _ ?_); refine Wj fun K35 hK35 => Ja ?_; refine LR rfl (Jk (v := JC i2 row) rfl (kn 5 rfl) rfl rfl) ?_; refine LR rfl (Jx (vs := [_, _, _, _, _]) rfl (kn 0 rfl) rfl rfl rfl rfl) ?_; refine Ke (vs := [_]) (zs := [_, _, _, _, _]) (r := [_, _, _, _, _]) rfl rfl rfl rfl rfl rfl rfl rfl rfl (by rw [Ks]; exact rfl) rfl fun r12 => ?_; refine Kj (L0 := [_, _, _, _, _, _, _]) (xs := Xs (vF s TY i2 pre)) (row := row) (n := i2) (sz := 5) (b := 56) (news := [_, _, _, _, _]) (List.perm_append_comm (l₁ := [_, _, _, _, _, _, _])) rfl rfl rfl rfl (kn 0 rfl) rfl rfl rfl rfl rfl (by decide) rfl rfl rfl (by decide) hrow (by omega) (by omega) fun ra2 cap2 sp2 hra => ?_; refine Kv (k := 7) (cs' := #[JC (i2 + 1) (some (ra2, cap2, sp2))]) rfl rfl rfl rfl rfl rfl rfl rfl rfl rfl ?_; refine Jg (hK35 _ _ _ _ ?_); refine Ja (LS 3 [4] rfl rfl ?_); refine Jz (show _ = Value.int .i64 ((A + y : Nat)) from congrArg (Value.int .i64) (by rw [wrap_i64 (by omega) (by omega)]; omega)) ?_
    refine LT 4 rfl rfl ?_; refine Jg ?_; refine Jj (Vb [4, 5, 6, 7, 0] (L' := [_, _, _, _, _]) (by decide) rfl ?_)
    (have hfx : JH (Ty.mk xk xn xp xi) = true := ‹_›
     rw [hfx, if_pos rfl] at hbe
     obtain ⟨f1, f2⟩ := hinv.fix hxx hfx hzz
     rw [show (JS (Ty.mk xk xn xp xi)).toNat = y by omega] at f1 f2
     exact qq (i2 + 1, A + y, la, op, some (ra2, cap2, sp2), pre) ⟨rfl, f1, by simp only; rw [f2, WZ]; exact hra⟩ (by simp only; rw [f2, WZ]; exact ⟨List.Sublist.refl _, List.Sublist.refl _⟩))
  · rintro D i ⟨i2, A, la, op, row, pre⟩ hfi ⟨he, hinv, hrow⟩
    simp only at he hinv hrow
    have hin : i = M := hfi
    have he2 : i2 = TY.length := by omega
    subst he2
    have hfin := hinv.done
    refine Jj (hK7 _ _ _ _ ?_); refine We fun K36 hK36 => ?_; refine Ja (LR rfl (Jk (v := .int .i64 op) rfl (kn 3 rfl) rfl rfl) (LS 2 [] rfl rfl ?_))
    refine JB 96 rfl (fun hb37 => ?_) (fun hb37 => ?_) <;> (try simp only [ZZ] at hb37) <;> first | (refine LR rfl (Jk (v := .int .i64 (H : Int)) rfl (Or.inl (List.mem_cons_of_mem _ (List.mem_append_right _ (List.mem_cons_of_mem _ (List.mem_cons_of_mem _ List.mem_cons_self))))) rfl rfl) ?_) | (refine LK rfl ?_)
    all_goals first
      | (refine LR rfl (Jk (v := J3 s) rfl (Or.inl (List.mem_cons_of_mem _ (List.mem_append_right _ (List.mem_cons_of_mem _ (List.mem_cons_of_mem _ (List.mem_cons_of_mem _ List.mem_cons_self)))))) rfl rfl) ?_)
      | (refine LK rfl ?_)
    all_goals first
      | (refine LR rfl (JY rfl rfl) ?_)
      | (refine LK rfl ?_)
    all_goals refine LW 2 [] rfl rfl ?_
    all_goals refine KP rfl rfl rfl Zv (VA (_) 2) (fun q hq => nomatch hq) (fun hok _ => ?_) (fun v hv => by first | exact Bool.noConfusion hv.1 | exact Jc7 (k := 0) rfl rfl (Qj rfl rfl (Wt (Jhn hm0 hM hHi' hHl (by rw [← hTY]; exact (hfin.2).trans (if_pos ⟨by omega, fun e => by have := Z4.1 hv.1; omega⟩))) (by decide) hv)))
    all_goals refine Jg ?_
    all_goals (
     refine hK36 _ _ _ _ ?_; refine We fun K41 hK41 => ?_; refine Ja (LR rfl (Jk (v := JC TY.length row) rfl (kn 4 rfl) rfl rfl) (Ji rfl ?_)); refine Jg (hK41 _ _ _ _ ?_); refine Jnm ?_; refine Jb ?_
     have hpo := Jae hm0 hM hHi' hHl
     rw [← hTY, hfin.2, if_neg (by first | (rintro ⟨g1, g2⟩; omega) | (rintro ⟨g1, g2⟩; have := Z3.1 hok; omega))] at hpo; simp only at hpo
     have hps : Y6 k n ins s = vF s TY TY.length pre := by unfold Y6; rw [hpo, ← hM, ← hTY, hfin.1]
     rw [hps]; refine QH (k := 0) rfl rfl ?_; refine Ju rfl rfl (.cons (J1 rfl) .nil) (fun w1 hs1 => ?_); exact .inl ⟨by rw [hpo], ⟨row, by rw [hinv.len]; exact hrow⟩, congrArg (fun m => Ending.returned (JC m row)) hinv.len.symm, hs1.weakL (.cons _ (.cons _ (.cons _ (.cons _ (.cons _ (List.sublist_append_left _ _))))))⟩
     skip)
  exact fun _ _ _ h => h.elim
  · rintro D _ ⟨v, hv, rfl⟩
    exact Jc7 (k := 0) rfl rfl (Qj rfl rfl hv)
open Go.Proofs (Enters enters_of)
theorem zt : ∀ {l : List (Gf × BS)} {vs : List Vl} {f : Gf} {s : BS} {v : Vl}, V7 l = (vs, 0) → f s = (v, 0) → V7 (l ++ [(f, s)]) = (vs ++ [v], 0)
  | [], vs, f, s, v, h, hv => by
    rw [V7] at h
    obtain rfl := (Prod.mk.inj h).1
    rw [List.nil_append, V7, V7, hv, if_neg (by simp), if_neg (by simp)]; rfl
  | (f', s') :: l, vs, f, s, v, h, hv => by
    rw [V7] at h
    by_cases h1 : (f' s').2 ≠ 0
    · rw [if_pos h1] at h; exact absurd (Prod.mk.inj h).2 h1
    rw [if_neg h1] at h
    by_cases h2 : (V7 l).2 ≠ 0
    · rw [if_pos h2] at h; exact absurd (Prod.mk.inj h).2 h2
    rw [if_neg h2] at h
    obtain rfl := (Prod.mk.inj h).1
    have ih := zt (l := l) (vs := (V7 l).1) (Prod.ext rfl (Decidable.not_not.1 h2)) hv
    rw [List.cons_append, V7, if_neg h1, ih, if_neg (by simp)]; rfl
theorem Jdf : ∀ {l r : List (Gf × BS)} {vs : List Vl} {f : Gf} {s : BS}, V7 l = (vs, 0) → (f s).2 ≠ 0 → (V7 (l ++ (f, s) :: r)).2 = (f s).2
  | [], r, vs, f, s, _, hv => by rw [List.nil_append, V7, if_pos hv]
  | (f', s') :: l, r, vs, f, s, h, hv => by
    rw [V7] at h
    by_cases h1 : (f' s').2 ≠ 0
    · rw [if_pos h1] at h; exact absurd (Prod.mk.inj h).2 h1
    rw [if_neg h1] at h
    by_cases h2 : (V7 l).2 ≠ 0
    · rw [if_pos h2] at h; exact absurd (Prod.mk.inj h).2 h2
    have ih := Jdf (r := r) (l := l) (vs := (V7 l).1) (Prod.ext rfl (Decidable.not_not.1 h2)) hv
    rw [List.cons_append, V7, if_neg h1, if_pos (by rw [ih]; exact hv)]; exact ih
theorem wZ {s : BS} {H : Nat} (hH : H ≤ s.length) : ∀ {ts : List Ty} {a la : Nat} {op : Bool} {os : List Nat}, QA s H ts a la op = some os → la ≤ s.length → (op = false → la = H) → (∀ x ∈ ts, JH x = true → 0 ≤ JS x) → (a : Int) + Ka ts = H → ∀ q ∈ KB ts a os, q.2.1 ≤ q.2.2 ∧ q.2.2 ≤ s.length
  | [], _, _, _, _, _, _, _, _, _, q, hq => by rw [KB] at hq; cases hq
  | x :: xs, a, la, op, os, h, hla, hop, hz, hb, q, hq => by
    have hz2 : ∀ y ∈ xs, JH y = true → 0 ≤ JS y := fun y hy => hz y (List.mem_cons_of_mem _ hy)
    have hn := Zs xs
    rw [Ka, WB] at hb; rw [QA] at h; rw [KB] at hq
    by_cases hf : JH x = true
    · rw [if_pos hf] at h hb hq
      have h0 := hz x List.mem_cons_self hf
      rcases List.mem_cons.1 hq with rfl | hq
      · simp only; omega
      · exact wZ hH h hla hop hz2 (by omega) q hq
    · rw [if_neg hf] at h hb hq
      split at h
      · cases h
      · rename_i h1
        obtain ⟨r, h2, rfl⟩ := Option.map_eq_some_iff.1 h
        obtain ⟨o, r2, rfl, g1, g2, _⟩ := vB h2 (by omega) (fun h => by cases h)
        rcases List.mem_cons.1 hq with rfl | hq
        · exact ⟨g1, g2⟩
        · exact wZ hH h2 (by omega) (fun h => by cases h) hz2 (by omega) q hq
def gq (s : BS) (q : Ty × Nat × Nat) : Gf × BS := (KJ q.1, (s.take q.2.2).drop q.2.1)
theorem jE {α β γ : Type} (f : α → β) (g : α → γ) : ∀ l : List α, (l.map f).zip (l.map g) = l.map fun a => (f a, g a)
  | [] => rfl
  | x :: xs => by rw [List.map_cons, List.map_cons, List.zip_cons_cons, jE f g xs]; rfl
theorem Jr4 {k n : Int} {ins : List Ty} {s : BS} (hX : (JT k n ins s).2 = 0 → ∀ i, i < (JT k n ins s).1 → VV k 0 i < ins.length) :
    xX k n ins (Y5 ins) s = if (QU k n ins s).2 ≠ 0 then (v0L, (QU k n ins s).2) else if (V7 ((Y6 k n ins s).map (gq s))).2 ≠ 0 then (v0L, (V7 ((Y6 k n ins s).map (gq s))).2) else (KI (V7 ((Y6 k n ins s).map (gq s))).1 0, 0) := by
  unfold xX
  by_cases hm : (JT k n ins s).2 ≠ 0
  · rw [if_pos hm, if_pos (by rw [jD hm]; exact hm), jD hm]
  rw [if_neg hm]
  have hm0 := Decidable.not_not.1 hm
  have hX := hX hm0
  unfold Y6 QU
  rw [if_neg hm]
  by_cases hb : (s.length : Int) < Ka (Kt k ins (JT k n ins s).1)
  · rw [if_pos hb, if_pos hb, if_pos (by simp)]
  rw [if_neg hb, if_neg hb]
  generalize (JT k n ins s).1 = M at *
  cases QA s (Ka (Kt k ins M)).toNat (Kt k ins M) 0 (Ka (Kt k ins M)).toNat false with
  | none => simp
  | some os =>
    simp only [ne_eq, not_true_eq_false, if_false]
    have e : ((List.range M).map fun i => (Y5 ins).getD (VV k 0 i) g0).zip (V1 s (Kt k ins M) 0 os) = (KB (Kt k ins M) 0 os).map (gq s) := by
      have e1 : ((List.range M).map fun i => (Y5 ins).getD (VV k 0 i) g0) = (KB (Kt k ins M) 0 os).map fun q => KJ q.1 := by
        have e2 : ((KB (Kt k ins M) 0 os).map Prod.fst).map KJ = (Kt k ins M).map KJ := by rw [qn]
        rw [List.map_map] at e2; rw [show (fun q : Ty × Nat × Nat => KJ q.1) = KJ ∘ Prod.fst from rfl, e2]
        unfold Kt
        rw [List.map_map]; exact List.map_congr_left fun i hi => vC (Qk (hX i (List.mem_range.1 hi))).1
      rw [e1, ZM, jE]; rfl
    rw [e]
section
variable {k n : Int} {p : Pl} {ins : List Ty} {s : BS}
theorem g_w (h : JH (.mk k n p ins) = true ∧ (s.length : Int) ≠ JS (.mk k n p ins)) : KJ (.mk k n p ins) s = (v0L, 2) := by rw [KJ]; unfold ZJ; rw [if_pos h]
variable (hnf : ¬ (JH (.mk k n p ins) = true ∧ (s.length : Int) ≠ JS (.mk k n p ins)))
include hnf
theorem g_1 (h1 : k = 1) : KJ (.mk k n p ins) s = (wM (XH s), 0) := by rw [KJ]; unfold ZJ; rw [if_neg hnf, if_pos h1]
theorem g_2 (h1 : k ≠ 1) (h2 : k = 2) : KJ (.mk k n p ins) s = if 1 < (s.getD 0 0).toNat then (v0L, 2) else (wM (XH s), 0) := by rw [KJ]; unfold ZJ; rw [if_neg hnf, if_neg h1, if_pos h2]
theorem g_5 (h1 : k ≠ 1) (h2 : k ≠ 2) (h5 : k = 5) : KJ (.mk k n p ins) s = if ((JL s (8 * s.length)).drop n.toNat).any id then (v0L, 8) else (ZI (JL s n.toNat), 0) := by rw [KJ]; unfold ZJ; rw [if_neg hnf, if_neg h1, if_neg h2, if_pos h5]
theorem g_6 (h1 : k ≠ 1) (h2 : k ≠ 2) (h5 : k ≠ 5) (h6 : k = 6) : KJ (.mk k n p ins) s = blT n s := by rw [KJ]; unfold ZJ; rw [if_neg hnf, if_neg h1, if_neg h2, if_neg h5, if_pos h6]; rfl
theorem Jyc (h1 : k ≠ 1) (h2 : k ≠ 2) (h5 : k ≠ 5) (h6 : k ≠ 6) (h8 : k = 8) (hs : s = []) : KJ (.mk k n p ins) s = (v0L, 2) := by rw [KJ]; unfold ZJ; rw [if_neg hnf, if_neg h1, if_neg h2, if_neg h5, if_neg h6, if_pos h8, hs]
theorem g_r (h1 : k ≠ 1) (h2 : k ≠ 2) (h5 : k ≠ 5) (h6 : k ≠ 6) (h8 : k ≠ 8) : KJ (.mk k n p ins) s = xX k n ins (Y5 ins) s := by rw [KJ]; unfold ZJ; rw [if_neg hnf, if_neg h1, if_neg h2, if_neg h5, if_neg h6, if_neg h8]
theorem Jyd (h1 : k ≠ 1) (h2 : k ≠ 2) (h5 : k ≠ 5) (h6 : k ≠ 6) (h8 : k = 8) (hs : s ≠ []) (hb : ins.length ≤ (s.getD 0 0).toNat) : KJ (.mk k n p ins) s = (v0L, 9) := by
  rw [KJ]; unfold ZJ; rw [if_neg hnf, if_neg h1, if_neg h2, if_neg h5, if_neg h6, if_pos h8]
  cases s with
  | nil => exact absurd rfl hs
  | cons b r => simp only; rw [if_pos (by simpa using hb)]
theorem g_8 (h1 : k ≠ 1) (h2 : k ≠ 2) (h5 : k ≠ 5) (h6 : k ≠ 6) (h8 : k = 8) (hs : s ≠ []) {x : Ty} (hx : ins[(s.getD 0 0).toNat]? = some x) : KJ (.mk k n p ins) s = if (KJ x (s.drop 1)).2 ≠ 0 then (v0L, (KJ x (s.drop 1)).2) else (KI [(KJ x (s.drop 1)).1] (s.getD 0 0).toNat, 0) := by
  rw [KJ]; unfold ZJ; rw [if_neg hnf, if_neg h1, if_neg h2, if_neg h5, if_neg h6, if_pos h8]
  cases s with
  | nil => exact absurd rfl hs
  | cons b r =>
    simp only [List.getD_cons_zero, List.drop_succ_cons, List.drop_zero] at hx ⊢
    have hlt := (List.getElem?_eq_some_iff.1 hx).1
    rw [if_neg (by omega), vC hx]
end
theorem Jn5 {s : BS} {a b c d : Nat} (h : XH s = [a, b, c, d]) : Vl.In [] (.mk a b c d [] none [] none 0) := by
  have h2 := (xw s).2
  rw [h] at h2
  have hU : ∀ x ∈ [a, b, c, d], Xw x := fun x hx => h2 x hx
  exact .mk (hU a (by simp)) (hU b (by simp)) (hU c (by simp)) (hU d (by simp)) (by decide) rfl (by decide) rfl i0 (fun x hx => nomatch hx)
theorem jF {vs : List Vl} {E Lr : Jq} {p : Pl} {pick : Int} (hl : vs.length ≤ 9223372036854775807) (hs : Seg Lr vs.length (Qg vs) p) (hE : ∀ x ∈ vs, x.In E) (hp : jO pick) : Vl.In (Lr ++ E) (.mk 0 0 0 0 [] none vs p pick) :=
  .mk u0 u0 u0 u0 (by decide) rfl hl (hs.mono fun q hq => List.mem_append_left _ hq) hp fun x hx => (hE x hx).mono fun q hq => List.mem_append_right _ hq
theorem yf {α : Type} {c : Cx} {d : List Deferred} {l : Kl} {L : Jq} {X : XP} {Q : Exit → Act → World → Prop} {ok : Prop} {bad : Value → Prop} {V : α → Value} {LL : α → Jq} {Rl : Jq} {dst : Option Nat} {f : Operand} {args : Array Operand} {at_ : Array TypeId} {ty : TypeId} {ps : String} {af : Array Edge} {gd : Option (Nat × Bool)} {g : FuncId} {vs : List Value}
    (hca : Kw l f args = some (g, vs)) (eg : Enters c.P g) (hpt : PureX c.P g vs.toArray ok bad V LL Rl) (hno : ok → α → False) (hR : ∀ p ∈ Rl, known c L p.1 p.2) (hp : ∀ v, bad v → HQ c d l L X (Q (.panic (wP v)))) :
    ∀ (next : Act → World → Prop) a w, Fr c.n d l a → St c L X w → Oper.uponIn (FW c.ro) 0 c.P ⟨dst, .call ⟨.value f, args, at_⟩, ty, ps, af, gd⟩ a next Q ((execOp a.eval ⟨dst, .call ⟨.value f, args, at_⟩, ty, ps, af, gd⟩).run c.P w) := fun next a w hf hs => by
  rw [V3 hf hca c.P w _ rfl eg, Oper.uponIn_enter]; refine ⟨fun hdep => (by cases hdep), ?_⟩
  have hc := callsIn_wide (n := 0) |>.2 (hpt.run w fun p hp => hs.known (hR p hp))
  refine CallsIn.mono (show CallsIn (FW c.ro) 0 c.P g vs.toArray w _ from hc) ?_
  rintro e w' (⟨ho, x, rfl, hk, h1, h2⟩ | ⟨v, hv, rfl, hk⟩)
  · exact (hno ho x).elim
  · exact hp v hv a w' hf (hs.more hk)
section
variable {c : Cx} {X : XP} {S : Jq} {ops : Array Oper} {l : Kl} {E : Jq} {d : List Deferred} {tb : jl} {rest : List Nat} {T : Jq → Act → Prop} {i k : Nat} {v : Value}
theorem YV {t ty : TypeId} {ps : String} {af : Array Edge} {gd : Option (Nat × Bool)} {n e sz : Nat} {pa : List (Nat × Operand)} {vs : Kl} {r zs : List Value} {z : Value} (hk : Wi ops.toList k = some ⟨some i, .buildSlice t n pa.toArray, ty, ps, af, gd⟩) (hg : Kg l ops ⟨some i, .buildSlice t n pa.toArray, ty, ps, af, gd⟩ = some true) (hi : Nat.ble (i + 1) c.n = true)
    (hA : tb k = .turn) (hS : SubS S E)
    (hp : Wv l pa = some vs) (ht : Ki c.P t = some e) (hz : QB c.P e = some z) (hs : KE c.P e = some sz) (hzs : z.cells.size = sz) (hb : Nat.ble (n * sz) 16777216 = true) (h0 : Nat.ble 1 (n * sz) = true)
    (hmk : (madeCells z.cells (n * sz)).toList = zs) (hf : Y3 (fun i => some (i * sz, sz)) zs (Qx vs) = some r)
    (h : ∀ q, HB c d ((i, .slice (some ⟨q, 0, none⟩) n n) :: l) ((q, .cells r.toArray e (0, 0)) :: E) X S ops tb rest T) : HB c d l E X S ops tb (k :: rest) T := fun a hfr => by
  refine ⟨_, QG hk, ?_⟩; rw [hA]; refine .inl ⟨Nat, slV n, fun q => (q, .cells r.toArray e (0, 0)) :: E, ⟨JA hfr hg, fun w hst => ?_⟩, fun q => ⟨fun p hp => List.mem_cons_of_mem _ (hS p hp), h q _ (hfr.put (Nat.le_of_ble_eq_true hi))⟩⟩
  have h1 := Va hfr hp
  have h2 : (pa.toArray.map fun (p : Nat × Operand) => (p.1, a.eval p.2)) = vs.toArray := by
    apply Array.toList_inj.1; rw [Array.toList_map]; simpa using h1
  rw [Qq] at hf; subst hmk
  have h3 := Vs ht hz hs hzs (Nat.le_of_ble_eq_true hb) (Nat.le_of_ble_eq_true h0) hf w
  rw [← h2] at h3
  have h4 : (Instr.buildSlice t n (pa.toArray.map fun (i, x) => (i, a.eval x))).run c.P w = .ok (.slice (some ⟨w.heap.size, 0, none⟩) n n) (w.alloc (.cells r.toArray e)) := h3
  refine Ym (v := .slice (some ⟨w.heap.size, 0, none⟩) n n) (w' := w.alloc (.cells r.toArray e)) ?_ ⟨w.heap.size, rfl, hst.alloc _⟩; simp only [execOp, Sem.run_bind]; rw [h4]; rfl
end
open Classical in
theorem Jvd {α : Type} (a b c d e : α) (Y A P E : List α) : (a :: (Y ++ (b :: c :: d :: e :: (A ++ (P ++ E))))).Perm (A ++ (a :: b :: c :: d :: e :: (Y ++ (P ++ E)))) := by
  rw [List.perm_iff_count]; intro x; simp only [List.count_append, List.count_cons]; omega
open Classical in
theorem Jve {α : Type} (a b c d e f : α) (Y P E : List α) : (a :: b :: c :: d :: e :: f :: (Y ++ (P ++ E))).Perm (b :: c :: d :: e :: f :: (a :: (P ++ (Y ++ E)))) := by
  rw [List.perm_iff_count]; intro x; simp only [List.count_append, List.count_cons]; omega
theorem Xt {c : Cx} {d : List Deferred} {l : Kl} {L L' : Jq} {X : XP} {K : Act → World → Prop} (hp : L.Perm L') (h : HQ c d l L' X K) : HQ c d l L X K := fun a w hf hs => h a w hf (hs.perm hp)
theorem Jn6 {s : BS} {N j : Nat} (h : N + j < 8 * s.length) (hb : QT s (N + j) = true) : ((JL s (8 * s.length)).drop N).any id = true :=
  List.any_eq_true.2 ⟨_, List.mem_iff_getElem?.2 ⟨j, by rw [List.getElem?_drop]; exact QW s h⟩, by simpa using hb⟩
theorem Jvf {s : BS} {N : Nat} (h : ∀ j, j < 8 * s.length - N → QT s (N + j) = false) : ((JL s (8 * s.length)).drop N).any id = false := by
  rw [List.any_eq_false]; intro b hb
  obtain ⟨j, hj⟩ := List.getElem?_of_mem hb
  rw [List.getElem?_drop] at hj
  have hlt := (List.getElem?_eq_some_iff.1 hj).1
  rw [Km] at hlt; rw [QW s hlt] at hj
  cases hj
  rw [h j (by omega)]; simp
theorem Jn7 {R : Jq} {k n : Int} {p : Pl} {ins : List Ty} {s : BS} (ht : Ty.In R (.mk k n p ins)) (hc : V2 (.mk k n p ins) 0 = 0) (hk3 : k = 3 ∨ k = 4 ∨ k = 7) (hl : s.length ≤ 100000) :
    PureX (α := { row : Vu // rowOk 5 (Y6 k n ins s).length (Xs (Y6 k n ins s)) row }) Tryz.prog 147 [Ty.val (.mk k n p ins), J3 s].toArray ((QU k n ins s).2 = 0) (fun v => (QU k n ins s).2 ≠ 0 ∧ v = zq (QU k n ins s).2) (fun x => KL (Y6 k n ins s).length (Vi x.1)) (fun x => JU 162 (Xs (Y6 k n ins s)) x.1) R :=
  (Jr3 ht hc hk3 hl).map id (fun x => (Wa _ _ (fun h => by have := x.2; rw [h] at this; exact this.1)).symm) fun x => List.Sublist.refl _
theorem Jvg {k n : Int} {ins : List Ty} {s : BS} (hX : ∀ i, i < (JT k n ins s).1 → VV k 0 i < ins.length) {i : Nat} {q : Ty × Nat × Nat} (h : (Y6 k n ins s)[i]? = some q) : q.1 ∈ ins := by
  have h1 : ((Y6 k n ins s).map Prod.fst)[i]? = some q.1 := by rw [List.getElem?_map, h]; rfl
  unfold Y6 at h1
  rw [qn] at h1
  unfold Kt at h1
  rw [List.getElem?_map] at h1
  obtain ⟨j, hj, e⟩ := Option.map_eq_some_iff.1 h1
  have hj2 := List.mem_range.1 (List.mem_of_getElem? hj)
  rw [← e]; exact (Qk (hX j hj2)).2
theorem Jw4 {k n : Int} {ins : List Ty} {s : BS} (h0 : (QU k n ins s).2 = 0) {q : Ty × Nat × Nat} (hq : q ∈ Y6 k n ins s) : (JT k n ins s).2 = 0 ∧ q.2.1 ≤ q.2.2 ∧ q.2.2 ≤ s.length := by
  by_cases hm : (JT k n ins s).2 ≠ 0
  · rw [jD hm] at h0; exact absurd h0 hm
  have hm0 := Decidable.not_not.1 hm
  refine ⟨hm0, ?_⟩
  have hb0 := Zs (Kt k ins (JT k n ins s).1)
  obtain ⟨H, hH⟩ : ∃ H : Nat, Ka (Kt k ins (JT k n ins s).1) = (H : Int) := ⟨_, (Int.toNat_of_nonneg hb0).symm⟩
  by_cases hl : s.length < H
  · rw [Jhm hm0 rfl hH hl] at h0; cases h0
  have ho := Jae hm0 rfl hH (by omega)
  cases e : QA s H (Kt k ins (JT k n ins s).1) 0 H false with
  | none => rw [e] at ho; rw [ho] at h0; cases h0
  | some os =>
    rw [e] at ho
    unfold Y6 at hq
    rw [ho] at hq; exact wZ (by omega) e (by omega) (fun _ => rfl) (fun x _ hx => by have := jA hx; omega) (by rw [hH]; simp) q hq
set_option maxHeartbeats 4000000 in
theorem Jw5 {R : Jq} {t : Ty} (ht : t.In R) : V2 t 0 = 0 → ∀ s : BS, s.length ≤ 100000 → PureX (α := VR (KJ t s).1) Tryz.prog 95 [t.val, J3 s].toArray ((KJ t s).2 = 0) (fun v => (KJ t s).2 ≠ 0 ∧ v = zq (KJ t s).2) (fun y => y.x.val) (fun y => y.L) R := by
  induction ht with
  | @mk k n p ins hk hn hil hs hi ih =>
  intro hc s hl
  have ht : Ty.In R (.mk k n p ins) := .mk hk hn hil hs hi
  obtain ⟨hk8, ho, _, _⟩ := QO hc
  have hsub := XA hc
  have hF := xt ht
  have hZ := Jem ht
  unfold vZ at hZ
  have hbl := Jjj (k := k) (p := p) (ins := ins) hl hn
  have hT := Jnx (s := s) (n := 8 * s.length) (Nat.le_refl _) hl
  have hpl : ¬ (JH (.mk k n p ins) = true ∧ (s.length : Int) ≠ JS (.mk k n p ins)) → k = 1 ∨ k = 2 ∨ k = 5 → (s.length : Int) = if k = 1 then n else if k = 2 then 1 else (n + 7) / 8 := fun hnf h => by
    have hi0 : ins = [] := by
      unfold Kh at ho
      rcases h with rfl | rfl | rfl <;> simp at ho <;> first | exact ho.1 | exact ho.1.1
    have hx : JH (.mk k n p ins) = true := by
      rw [Jne hc, W5, hi0, ZA]
      rcases h with rfl | rfl | rfl <;> rfl
    have e : (s.length : Int) = JS (.mk k n p ins) := Decidable.byContradiction fun h2 => hnf ⟨hx, h2⟩
    rw [e, JS]
    rcases h with rfl | rfl | rfl <;> simp
  have hn1 : k = 1 → 1 ≤ n ∧ n ≤ 32 := fun e => by subst e; unfold Kh at ho; simp at ho; omega
  have hn5 : k = 5 → 1 ≤ n ∧ n ≤ 512 := fun e => by subst e; unfold Kh at ho; simp at ho; omega
  have h16 : k = 8 → ins.length ≤ 8 := fun e => by subst e; unfold Kh at ho; simp at ho; omega
  refine XB Tryz.func95 rfl rfl fun w => ?_; refine sR fun _ hK1 => ?_; refine LN rfl fun r1 => ?_; refine LN rfl fun r2 => ?_; refine nK hK1 (sR fun _ hK2 => ?_); refine LR rfl (Jx (vs := [_, _, _]) rfl (kn 1 rfl) rfl rfl rfl rfl) ?_; refine Jh rfl rfl rfl Jlc hF (fun q hq => Or.inr hq) ?_; refine LS 2 [] rfl rfl ?_
  refine JB 15 rfl (fun hb3 => ?_) (fun hb3 => ?_) <;> (try simp only [ZZ] at hb3) <;> first | (refine Ji rfl ?_) | (refine LK rfl ?_)
  all_goals first
    | (refine LR rfl (JY rfl rfl) ?_)
    | (refine LK rfl ?_)
  all_goals refine LW 1 [1] rfl rfl ?_
  all_goals first
    | (refine Jh rfl rfl rfl Jld hZ (fun q hq => Or.inr hq) ?_)
    | (refine LK rfl ?_)
  all_goals refine LW 2 [] rfl rfl ?_
  all_goals refine KP rfl rfl rfl Zv (VA (_) 2) (fun q hq => nomatch hq) (fun hok _ => ?_) (fun v hv => by first | exact Bool.noConfusion hv.1 | exact Qj rfl rfl (Wt (by rw [g_w ⟨‹JH _ = true›, fun e => absurd hv.1 (by rw [if_pos ‹JH _ = true›, e, beq_self_eq_true]; decide)⟩]) (by decide) hv))
  all_goals refine Jg ?_
  all_goals (
   refine hK2 (sQ fun _ hK8 => ?_); refine sQ fun _ hK9 => ?_
   have hnf : ¬ (JH (.mk k n p ins) = true ∧ (s.length : Int) ≠ JS (.mk k n p ins)) := by
     rintro ⟨hA, hB⟩
     first
     | (have e := Z3.1 hok; rw [if_pos hA] at e; exact hB e)
     | (have e : JH (.mk k n p ins) = false := ‹_›; rw [e] at hA; cases hA)
   clear hok; refine Ja ?_
   refine LS 2 [1] rfl rfl (nK hK9 ?_); refine Jt (sR fun _ hK10 => (LS 2 [] rfl rfl ?_)); refine nK hK10 ?_; refine Jc rfl (fun h11 => ?_) (fun h11 => ?_)
   try simp only [ZZ] at h11
   refine sQ fun _ hK12 => ?_
   have hln := hpl hnf (.inl ‹k = 1›)
   rw [if_pos ‹k = 1›] at hln
   have hnn := hn1 ‹_›
   obtain ⟨a, b, c, d, hnm⟩ := Jfd s
   have hnu := zr (s := s) (by omega)
   rw [hnm] at hnu; refine Ja (Ji rfl (JD rfl rfl rfl (enters_of Tryz.func144 (by kernel_rfl) rfl) hnu ?_)); refine LR rfl (JI (r := [_, _, _, _, _, _, _]) rfl rfl) ?_
   refine LT 0 rfl rfl (nK hK12 ?_); refine Jb (Jn (Jd ?_)); refine Ju rfl rfl (.cons (J8 (vs := [_, _, _, _, _, _, _]) rfl (kn 0 rfl) rfl rfl) .nil) (fun w1 hs1 => ?_)
   (have e1 := g_1 hnf (s := s) ‹k = 1›
    refine .inl ⟨by rw [e1], ⟨.mk a b c d [] none [] none 0, [], Jn5 hnm, by rw [e1, KZ, Ye, hnm]; rfl⟩, rfl, hs1.weakL (List.nil_sublist _)⟩)
   · try simp only [ZZ] at h11
     refine sR fun _ hK13 => LS 2 [] rfl rfl (nK hK13 ?_); refine Jc rfl (fun h14 => ?_) (fun h14 => ?_)
     try simp only [ZZ] at h14
     refine sQ fun _ hK15 => ?_
     have hln := hpl hnf (.inr (.inl ‹k = 2›))
     rw [if_neg ‹k ≠ 1›, if_pos ‹k = 2›] at hln
     obtain ⟨a, b, c, d, hnm⟩ := Jfd s
     have hnu := zr (s := s) (by omega)
     rw [hnm] at hnu; refine Ja (Ji rfl (LR rfl (Wn (j := 0) rfl rfl rfl rfl (by omega) rfl) ?_)); refine JV rfl ?_; refine KP rfl rfl rfl Zv (VA (_) 2) (fun q hq => nomatch hq) (fun hok _ => ?_) (fun v hv => Qj rfl rfl (Wt (by rw [g_2 hnf ‹k ≠ 1› ‹k = 2›, if_pos (by have := Z2.1 hv.1; omega)]) (by decide) hv)); refine nK hK15 (sR fun _ hK16 => ?_); refine Ji rfl (JD rfl rfl rfl (enters_of Tryz.func144 (by kernel_rfl) rfl) hnu (LR rfl (JI (r := [_, _, _, _, _, _, _]) rfl rfl) ?_))
     refine LT 0 rfl rfl (nK hK16 ?_); refine Jb (Jn (Jd ?_)); refine Ju rfl rfl (.cons (J8 (vs := [_, _, _, _, _, _, _]) rfl (kn 0 rfl) rfl rfl) .nil) (fun w1 hs1 => ?_)
     (have e1 := g_2 hnf (s := s) ‹k ≠ 1› ‹k = 2›
      rw [if_neg (by have := Z1.mp hok; omega)] at e1
      refine .inl ⟨by rw [e1], ⟨.mk a b c d [] none [] none 0, [], Jn5 hnm, by rw [e1, KZ, Ye, hnm]; rfl⟩, rfl, hs1.weakL (List.nil_sublist _)⟩)
     · try simp only [ZZ] at h14
       refine sR fun _ hK17 => LS 2 [] rfl rfl (nK hK17 ?_); refine Jc rfl (fun h18 => ?_) (fun h18 => ?_)
       · try simp only [ZZ] at h18
         refine sQ fun _ hK19 => ?_
         have hln := hpl hnf (.inr (.inr ‹k = 5›))
         rw [if_neg ‹k ≠ 1›, if_neg ‹k ≠ 2›] at hln
         have hnn := hn5 ‹_›
         obtain ⟨N, hN⟩ : ∃ N, N = n.toNat := ⟨_, rfl⟩
         refine Ja (LS 2 [] rfl rfl (LR rfl (JY rfl rfl) ?_)); refine JV rfl ?_; refine Jz (show _ = Value.int .i64 ((8 * s.length : Nat)) from congrArg (Value.int .i64) (by rw [wrap_i64 (by omega) (by omega)]; omega)) ?_; refine Qh rfl rfl rfl (enters_of Tryz.func145 (by kernel_rfl) rfl) hT (fun q hq => nomatch hq) fun x => ?_
         obtain ⟨row, hrow⟩ := x
         match row, hrow with | none, hrow => ?_ | some (ra, cap, sp), hrow => ?_
         all_goals first | exact absurd hrow.1 (by omega) | skip
         refine Ji rfl (nK hK19 ?_); refine sQ fun _ hK20 => sQ fun _ hK21 => ?_
         have hcap : 8 * s.length ≤ cap := by have := hrow.2; omega
         obtain ⟨off1, hoff⟩ : ∃ o, (if cap = N then 0 else 0 + N * 1) = o := ⟨_, rfl⟩
         refine Ja (Ji rfl ?_)
         refine LS 2 [2] rfl rfl ?_; refine Jz (show _ = Value.int .i64 ((N : Nat) : Int) from congrArg (Value.int .i64) (by omega)) ?_; refine LR rfl (JQ (kl := some N) (kh := none) (km := none) (sz := 1) (m := N) (q := 8 * s.length) (z := cap) (off' := off1) rfl rfl rfl ⟨_, rfl⟩ trivial trivial rfl rfl rfl (by omega) (by omega) (Nat.le_refl _) (fun _ => rfl) hoff) ?_; refine LR rfl (KH rfl rfl) ?_; refine Ji rfl (nK hK21 ?_); refine Jt (JK (σ := Nat) (fun j => j ≤ 8 * s.length - N ∧ ∀ i, i < j → QT s (N + i) = false) (fun j => [(1, J3 s), (2, V6 r1), (4, V6 r2), (5, .slice (some ⟨ra, 0, none⟩) (8 * s.length) cap), (49, .slice (some ⟨ra, off1, none⟩) (8 * s.length - N) (cap - N)), (50, .int .i64 ((8 * s.length - N : Nat) : Int)), (51, .int .i64 (j : Int))]) (fun _ => [(ra, .cells (Qw (JL s (8 * s.length)) ++ sp).toArray 4 (0, 0)), WK r2 v0L, VF r1 (.mk k n p ins)]) (fun _ _ _ => True) (fun j => 8 * s.length - N - j) 0 ⟨Nat.zero_le _, fun i h => by omega⟩ (.cons rfl (.cons rfl (.cons rfl (.cons rfl (.cons rfl (.cons rfl (.cons rfl .nil))))))) (List.Sublist.refl _) (fun _ _ h => h) ?_); rintro j ⟨hj1, hbits⟩; change HC _ _ _ ((ra, _) :: (r2, _) :: (r1, _) :: []) _ _ _; refine sR fun _ hK22 => JV rfl (nK hK22 ?_); refine sQ fun _ hK23 => ?_; refine Jc rfl (fun h24 => ?_) (fun h24 => ?_)
         try simp only [ZZ] at h24
         refine Jf (hK23 ?_); refine sB fun _ hK25 => sR fun _ hK26 => ?_; refine LR rfl (Kf (j := j) (m := 1) (off' := N + j) rfl rfl rfl rfl (by omega) (by omega) (by rw [← hoff, if_neg (by omega)]; omega)) ?_; refine LR rfl (Jk rfl (kn 0 rfl) rfl (Jhj s (i := N + j) (by omega) sp)) ?_; refine Ji rfl (nK hK26 ?_); refine Ja (LS 2 [] rfl rfl ?_); refine KP rfl rfl rfl Zv (VA (_) 8) (fun q hq => nomatch hq) (fun hok _ => ?_) (fun v hv => Qj rfl rfl (Wt (by rw [g_5 hnf ‹k ≠ 1› ‹k ≠ 2› ‹k = 5›, ← hN, if_pos (Jn6 (by omega) (Z8.mp hv.1))]) (by decide) hv)); refine Jg (Jj (hK25 ?_)); refine Ja (JV rfl (Jv (by omega) (by omega) ?_)); refine Ji rfl (Jg (J7 ?_)); exact J2 (j + 1) ⟨by omega, fun i hi => by by_cases e : i = j; (subst e; exact Z7.mp hok); exact hbits i (by omega)⟩ (by omega) (.cons rfl (.cons rfl (.cons rfl (.cons rfl (.cons rfl (.cons rfl (.cons rfl .nil))))))) (List.Sublist.refl _) (fun _ _ h => h)
         · try simp only [ZZ] at h24
           refine JG (Jm ?_); refine Jm (J0 (hK20 ?_)); refine sQ fun _ hK27 => ?_
           have hany := Jvf (s := s) (N := N) (fun i hi => hbits i (by omega))
           refine Ja (Ji rfl ?_)
           refine LS 2 [2] rfl rfl ?_; refine Jz (show _ = Value.int .i64 ((N : Nat) : Int) from congrArg (Value.int .i64) (by omega)) ?_
           refine LR rfl (JQ (kl := none) (kh := some N) (km := none) (m := 0) (q := N) (z := cap) (off' := 0) (sz := 1) rfl rfl rfl trivial ⟨_, rfl⟩ trivial rfl rfl rfl (by omega) (by omega) (Nat.le_refl _) (fun e => nomatch e) (by split <;> omega)) ?_; refine LR rfl (JI (r := [_, _, _, _, _, _, _]) rfl rfl) ?_
           refine LT 1 rfl rfl (nK hK27 ?_); refine Jb (Jn (Jd ?_)); refine Ju rfl rfl (.cons (J8 (vs := [_, _, _, _, _, _, _]) rfl (kn 1 rfl) rfl rfl) .nil) (fun w1 hs1 => ?_)
           (have e1 := g_5 hnf (s := s) ‹k ≠ 1› ‹k ≠ 2› ‹k = 5›
            rw [← hN, hany, if_neg (by decide)] at e1
            refine .inl ⟨by rw [e1], ⟨.mk 0 0 0 0 (JL s N) (some (⟨ra, 0, none⟩, cap)) [] none 0, [(ra, .cells (Qw (JL s (8 * s.length)) ++ sp).toArray 4 (0, 0))], Jdc (by omega) (by omega) (by omega), by rw [e1, KZ, Ye]; rfl⟩, congrArg Ending.returned (Jhk s N ra cap).symm, hs1.weakL ((List.cons_sublist_cons).2 (List.nil_sublist _))⟩)
       · try simp only [ZZ] at h18
         refine sR fun _ hK28 => LS 2 [] rfl rfl (nK hK28 ?_); refine Jc rfl (fun h29 => ?_) (fun h29 => ?_)
         try simp only [ZZ] at h29
         refine sR fun _ hK30 => LS 2 [1] rfl rfl ?_; refine KP rfl rfl rfl (enters_of Tryz.func146 (by kernel_rfl) rfl) hbl (fun q hq => nomatch hq) (fun hok y => ?_) (fun v hv => Qj rfl rfl (by rw [g_6 hnf ‹k ≠ 1› ‹k ≠ 2› ‹k ≠ 5› ‹k = 6›]; exact hv))
         obtain ⟨⟨ya, yb, yc, yd, ybits, ypb, yitems, ypi, ypick⟩, yL, yok, yer⟩ := y
         refine KD List.perm_append_comm ?_
         refine LT 0 rfl rfl (nK hK30 ?_); refine Jb (Jn (Jd ?_)); refine Ju rfl rfl (.cons (J8 (vs := [_, _, _, _, _, _, _]) rfl (kn 0 rfl) rfl rfl) .nil) (fun w1 hs1 => ?_)
         (have e1 := g_6 hnf (s := s) ‹k ≠ 1› ‹k ≠ 2› ‹k ≠ 5› ‹k = 6›
          refine .inl ⟨by rw [e1]; exact hok, ⟨.mk ya yb yc yd ybits ypb yitems ypi ypick, yL, yok, by rw [e1]; exact yer⟩, rfl, hs1.weakL (.cons _ (.cons _ (List.Sublist.refl _)))⟩)
         · try simp only [ZZ] at h29
           refine sR fun _ hK31 => LS 2 [] rfl rfl (nK hK31 ?_); refine Jc rfl (fun h32 => ?_) (fun h32 => ?_)
           · try simp only [ZZ] at h32
             refine sR fun _ hK33 => Ji rfl (LR rfl (Zc rfl rfl) ?_); refine KP rfl rfl rfl Zv (VA (_) 2) (fun q hq => nomatch hq) (fun hok _ => ?_) (fun v hv => Qj rfl rfl (Wt (by rw [Jyc hnf ‹k ≠ 1› ‹k ≠ 2› ‹k ≠ 5› ‹k ≠ 6› ‹k = 8› (of_decide_eq_true (Z8.mp hv.1))]) (by decide) hv)); refine nK hK33 (sQ fun _ hK34 => ?_)
             have hsne : s ≠ [] := of_decide_eq_false (Z7.mp hok)
             have hpos : 0 < s.length := List.length_pos_iff.2 hsne
             refine Ja (Ji rfl (LR rfl (Wn (j := 0) rfl rfl rfl rfl (by omega) rfl) ?_)); refine JV rfl ?_; refine Jz (show _ = Value.int .i64 (((s.getD 0 0).toNat : Nat)) from congrArg (Value.int .i64) (wrap_i64 (by omega) (by have := Vp (s.getD 0 0); omega))) ?_; refine Ji rfl (nK hK34 ?_); refine sR fun _ hK35 => Ji rfl ?_
             refine LS 2 [1] rfl rfl ?_; refine LR rfl (J4 rfl hs rfl) ?_; refine JV rfl ?_; refine KP rfl rfl rfl Zv (VA (_) 9) (fun q hq => nomatch hq) (fun hok _ => ?_) (fun v hv => Qj rfl rfl (Wt (by rw [Jyd hnf ‹k ≠ 1› ‹k ≠ 2› ‹k ≠ 5› ‹k ≠ 6› ‹k = 8› hsne (by have := Z2.1 hv.1; omega)]) (by decide) hv)); refine nK hK35 (sQ fun _ hK36 => ?_)
             obtain ⟨x, hx⟩ : ∃ x, ins[(s.getD 0 0).toNat]? = some x := ⟨_, List.getElem?_eq_getElem (by have := Z1.mp hok; omega)⟩
             have hxm := List.mem_of_getElem? hx
             have ihx := ih x hxm (hsub x hxm) (s.drop 1) (by rw [List.length_drop]; omega)
             by_cases hgo : (KJ x (s.drop 1)).2 = 0 ∧ Nonempty (VR (KJ x (s.drop 1)).1)
             rotate_left
             have hlt : (s.getD 0 0).toNat < ins.length := (List.getElem?_eq_some_iff.1 hx).1
             have hbadx : ∀ {v : Value}, (KJ x (s.drop 1)).2 ≠ 0 ∧ v = zq (KJ x (s.drop 1)).2 → (KJ (.mk k n p ins) s).2 ≠ 0 ∧ v = zq (KJ (.mk k n p ins) s).2 := fun hv => by rw [g_8 hnf ‹k ≠ 1› ‹k ≠ 2› ‹k ≠ 5› ‹k ≠ 6› ‹k = 8› hsne hx, if_pos hv.1]; exact hv
             exact Jhh [(0, .int .i64 ((s.getD 0 0).toNat : Int)), (1, .pointer (some ⟨r1, 2, none⟩)), (2, KL ins.length p), (3, .int .i64 ((s.getD 0 0).toNat : Int)), (4, .pointer (some ⟨plB p, vm p + (s.getD 0 0).toNat * 3, none⟩)), (5, x.val), (6, J3 s), (7, J3 (s.drop 1))] 8 (by kernel_rfl) rfl (by kernel_rfl) rfl (.cons rfl rfl (Jp rfl) <| .cons rfl rfl (Kx rfl rfl rfl) <| .cons rfl rfl (Jk rfl (kn 1 rfl) rfl rfl) <| .cons rfl rfl (Jp rfl) <| .cons rfl rfl (Js (j := (s.getD 0 0).toNat) rfl hs rfl rfl rfl rfl hlt) <| .cons rfl rfl (KU (fun q hq => Or.inr hq) rfl hs hx rfl rfl) <| .cons rfl rfl (Jp rfl) <| .cons rfl rfl (V5 (kl := some (.i64, 1)) (kh := none) (m := 1) (n := s.length) rfl rfl rfl rfl rfl rfl (by omega) (by omega) (show _ = s.drop 1 from by rw [List.take_length])) .nil) rfl rfl (yf rfl Jk7 ihx (fun h y => hgo ⟨h, ⟨y⟩⟩) (fun q hq => Or.inr hq) (fun v hv => Qj rfl rfl (hbadx hv)))
             obtain ⟨hg0, ⟨x0⟩⟩ := hgo
             have hlt : (s.getD 0 0).toNat < ins.length := (List.getElem?_eq_some_iff.1 hx).1
             refine JR [VF r1 (.mk k n p ins)] [(0, .pure), (1, .pure), (2, .pure), (3, .pure), (4, .pure), (5, .pure), (6, .pure), (7, .pure), (8, .grow (Qr x0 (fun y => y.x.val) (fun y => y.L))), (9, .turn)] 10 [0, 1, 2, 3, 4, 5, 6, 7, 8, 9] (by kernel_rfl) (by kernel_rfl) (fun q hq => List.mem_cons_of_mem _ hq) ?_; refine Jw (k := 0) rfl rfl rfl rfl rfl (fun _ hS => (Jp rfl)) ?_
             refine Jw (k := 1) rfl rfl rfl rfl rfl (fun _ hS => (JM rfl rfl rfl)) ?_; refine Jw (k := 2) rfl rfl rfl rfl rfl (fun _ hS => (Jk rfl (.inl (hS _ (Ku (n := 0) rfl))) rfl rfl)) ?_; refine Jw (k := 3) rfl rfl rfl rfl rfl (fun _ hS => (Jp rfl)) ?_; refine Jw (k := 4) rfl rfl rfl rfl rfl (fun _ _ => Js (j := (s.getD 0 0).toNat) rfl hs rfl rfl rfl rfl hlt) ?_; refine Jw (k := 5) rfl rfl rfl rfl rfl (fun _ _ => KU (fun q hq => Or.inr hq) rfl hs hx rfl rfl) ?_; refine Jw (k := 6) rfl rfl rfl rfl rfl (fun _ hS => (Jp rfl)) ?_; refine Jw (k := 7) rfl rfl rfl rfl rfl (fun _ _ => V5 (kl := some (.i64, 1)) (kh := none) (m := 1) (n := s.length) rfl rfl rfl rfl rfl rfl (by omega) (by omega) (show _ = s.drop 1 from by rw [List.take_length])) ?_; refine KX (k := 8) rfl rfl rfl rfl rfl Jk7 (ihx.toT (fun v hv => hv.1 hg0)) (fun q hq => Or.inr hq) fun y => ?_; obtain ⟨⟨ya, yb, yc, yd, ybits, ypb, yitems, ypi, ypick⟩, yL, yok, yer⟩ := y; refine YV (k := 9) (n := 1) (sz := 7) (vs := [_]) (zs := [_, _, _, _, _, _, _]) (r := [_, _, _, _, _, _, _]) rfl rfl rfl rfl (fun q hq => List.mem_append_right _ (List.mem_cons_of_mem _ hq)) rfl rfl rfl rfl rfl rfl rfl (by rw [Ks]; exact rfl) rfl fun rv => ?_; refine KA ?_; refine KD (List.Perm.cons _ List.perm_append_comm) ?_; refine LR rfl (JI (r := [_, _, _, _, _, _, _]) rfl rfl) ?_
             refine LT 1 rfl rfl (nK hK36 ?_); refine Jb (Jn (Jd ?_)); refine Ju rfl rfl (.cons (J8 (vs := [_, _, _, _, _, _, _]) rfl (kn 1 rfl) rfl rfl) .nil) (fun w1 hs1 => ?_)
             (have e1 := g_8 hnf (s := s) ‹k ≠ 1› ‹k ≠ 2› ‹k ≠ 5› ‹k ≠ 6› ‹k = 8› hsne hx
              rw [if_neg (by rw [hg0]; decide)] at e1
              refine .inl ⟨by rw [e1], ⟨.mk 0 0 0 0 [] none [.mk ya yb yc yd ybits ypb yitems ypi ypick] (some (⟨rv, 0, none⟩, 1)) ((s.getD 0 0).toNat : Int), [(rv, _)] ++ yL, jF (by simp) ⟨Nat.le_refl _, fun _ => ⟨rfl, _, _, _, List.mem_singleton_self _, rfl⟩⟩ (fun z hz => by rw [List.mem_singleton.1 hz]; exact yok) (by have := Vp (s.getD 0 0); unfold jO; omega), by rw [e1, KZ, Ye, Ye, yer]; rfl⟩, rfl, hs1.weakL ((List.cons_sublist_cons).2 (.cons _ (.cons _ (List.Sublist.refl _))))⟩)
           · try simp only [ZZ] at h32
             refine Jf (Jj (hK8 ?_)); refine sR fun _ hK37 => ?_; refine LN rfl fun r3 => ?_; refine nK hK37 (sQ fun _ hK38 => ?_); refine sQ fun _ hK39 => ?_
             have hk3 : k = 3 ∨ k = 4 ∨ k = 7 := by have h1 : k ≠ 1 := ‹_›; have h2 : k ≠ 2 := ‹_›; have h5 : k ≠ 5 := ‹_›; have h6 : k ≠ 6 := ‹_›; have h8 : k ≠ 8 := ‹_›; omega
             have hmX := wO (s := s) hk8 ho hk3
             have hgr := (g_r (s := s) hnf ‹k ≠ 1› ‹k ≠ 2› ‹k ≠ 5› ‹k ≠ 6› ‹k ≠ 8›).trans (Jr4 hmX)
             have hpp := Jn7 (s := s) ht hc hk3 hl
             refine Ja (LS 2 [2] rfl rfl ?_); refine KP rfl rfl rfl (enters_of Tryz.func147 (by kernel_rfl) rfl) hpp (fun q hq => Or.inr hq) (fun hp0 x => ?_) (fun v hv => Qj rfl rfl (by rw [hgr, if_pos hv.1]; exact hv))
             obtain ⟨prow, hprow⟩ := x
             refine KD List.perm_append_comm ?_
             have hsg := Qe (e := 162) hprow (by decide)
             have hmm0 : (JT k n ins s).2 = 0 := Decidable.byContradiction fun hm => hm (by rw [← jD hm]; exact hp0)
             have hPl : (Y6 k n ins s).length ≤ 512 := by unfold Y6; rw [qm, Xo]; exact (vD hk8 ho hk3 hmm0).1
             refine LR rfl (J4 rfl hsg rfl) ?_; refine Ji rfl (nK hK39 ?_); refine Jt ?_; rw [if_neg (by rw [hp0]; decide)] at hgr; refine JK (σ := Nat × List Vl × Vu × Jq) (fun q => q.1 = q.2.1.length ∧ q.1 ≤ (Y6 k n ins s).length ∧ rowOk 7 q.1 (Qg q.2.1) q.2.2.1 ∧ (∀ x ∈ q.2.1, Vl.In q.2.2.2 x) ∧ V7 (((Y6 k n ins s).take q.1).map (gq s)) = (q.2.1.map WJ, 0)) (fun q => [(1, J3 s), (2, V6 r1), (4, V6 r2), (9, V6 r3), (96, KL (Y6 k n ins s).length (Vi prow)), (97, .int .i64 ((Y6 k n ins s).length : Int)), (98, .int .i64 (q.1 : Int))]) (fun q => (r3, .cells #[.int .u64 0, .int .u64 0, .int .u64 0, .int .u64 0, .slice none 0 0, JC q.1 q.2.2.1, .int .i64 0] 81 (0, 0)) :: WK r2 v0L :: VF r1 (.mk k n p ins) :: (JU 81 (Qg q.2.1) q.2.2.1 ++ (JU 162 (Xs (Y6 k n ins s)) prow ++ q.2.2.2))) (fun _ _ _ => True) (fun q => (Y6 k n ins s).length - q.1) (0, [], none, []) ⟨rfl, Nat.zero_le _, ⟨rfl, rfl⟩, fun x hx => (nomatch hx), rfl⟩ (.cons rfl (.cons rfl (.cons rfl (.cons rfl (.cons rfl (.cons rfl (.cons rfl .nil))))))) (by simp only [JU, List.nil_append, List.append_nil]; exact List.Sublist.refl _) (fun _ _ h => h) ?_; rintro ⟨i, vs, row, E⟩ ⟨hvl, him, hrow, hin, hrun⟩; simp only at hvl him hrow hin hrun; refine sR fun _ hK40 => JV rfl (nK hK40 ?_); refine sQ fun _ hK41 => ?_; refine Jc rfl (fun h42 => ?_) (fun h42 => ?_)
             · try simp only [ZZ] at h42
               refine Jf (hK41 ?_); refine sB fun _ hK43 => sQ fun _ hK44 => ?_
               obtain ⟨⟨x, f, f2⟩, hq⟩ : ∃ q, (Y6 k n ins s)[i]? = some q := ⟨_, List.getElem?_eq_getElem (by omega)⟩
               obtain ⟨hmm, hft, htl⟩ := Jw4 hp0 (List.mem_of_getElem? hq)
               have hxm := Jvg (hmX hmm) hq
               simp only at hft htl hxm
               have ihx := ih x hxm (hsub x hxm) ((s.take f2).drop f) (by rw [List.length_drop, List.length_take]; omega)
               obtain ⟨xk, xn, xp, xi⟩ := x
               refine Ja ?_
               refine LR rfl (Js (j := i) rfl hsg rfl rfl rfl (by first | rfl | omega) (by omega)) ?_; refine LR rfl (WV (vs := prC (.mk xk xn xp xi, f, f2)) (fun q hq => Or.inl (List.mem_cons_of_mem _ (List.mem_cons_of_mem _ (List.mem_cons_of_mem _ (List.mem_append_right _ (List.mem_append_left _ hq)))))) rfl hsg (by omega) rfl rfl (X0 Zr hq) (Zr _)) ?_; refine LN rfl fun r4 => ?_
               refine LT 0 rfl rfl (nK hK44 ?_)
               by_cases hgo : (KJ (.mk xk xn xp xi) ((s.take f2).drop f)).2 = 0 ∧ Nonempty (VR (KJ (.mk xk xn xp xi) ((s.take f2).drop f)).1)
               rotate_left
               have hbadx : ∀ {v : Value}, (KJ (.mk xk xn xp xi) ((s.take f2).drop f)).2 ≠ 0 ∧ v = zq (KJ (.mk xk xn xp xi) ((s.take f2).drop f)).2 → (KJ (.mk k n p ins) s).2 ≠ 0 ∧ v = zq (KJ (.mk k n p ins) s).2 := fun hv => by
                 have e1 : (Y6 k n ins s).map (gq s) = ((Y6 k n ins s).take i).map (gq s) ++ gq s (.mk xk xn xp xi, f, f2) :: ((Y6 k n ins s).drop (i + 1)).map (gq s) := by
                   rw [← List.map_cons, ← KK hq, ← List.map_append, List.take_append_drop]
                 have e2 := Jdf (r := ((Y6 k n ins s).drop (i + 1)).map (gq s)) (f := KJ (.mk xk xn xp xi)) (s := (s.take f2).drop f) hrun hv.1
                 have e3 : (V7 ((Y6 k n ins s).map (gq s))).2 = (KJ (.mk xk xn xp xi) ((s.take f2).drop f)).2 := by rw [e1]; exact e2
                 rw [hgr, if_pos (by rw [e3]; exact hv.1)]; exact ⟨by rw [e3]; exact hv.1, by rw [e3]; exact hv.2⟩
               exact Jhh [(0, .pointer (some ⟨r3, 5, none⟩)), (1, JC i row), (2, .pointer (some ⟨r4, 0, none⟩)), (3, Ty.val (.mk xk xn xp xi)), (4, J3 s), (5, .pointer (some ⟨r4, 3, none⟩)), (6, .int .i64 (f : Int)), (7, .pointer (some ⟨r4, 4, none⟩)), (8, .int .i64 (f2 : Int)), (9, J3 ((s.take f2).drop f))] 10 (by kernel_rfl) rfl (by kernel_rfl) rfl (.cons rfl rfl (Kx rfl rfl rfl) <| .cons rfl rfl (Jk rfl (kn 1 rfl) rfl rfl) <| .cons rfl rfl (Kx rfl rfl rfl) <| .cons rfl rfl (Jx (vs := [_, _, _]) rfl (kn 0 rfl) rfl rfl rfl rfl) <| .cons rfl rfl (Jp rfl) <| .cons rfl rfl (Kx rfl rfl rfl) <| .cons rfl rfl (Jk rfl (kn 0 rfl) rfl rfl) <| .cons rfl rfl (Kx rfl rfl rfl) <| .cons rfl rfl (Jk rfl (kn 0 rfl) rfl rfl) <| .cons rfl rfl (V5 (kl := some (.i64, (f : Int))) (kh := some (.i64, (f2 : Int))) (m := f) (n := f2) rfl rfl rfl rfl rfl rfl hft htl rfl) .nil) rfl rfl (yf rfl Jk7 ihx (fun h y => hgo ⟨h, ⟨y⟩⟩) (fun q hq => Or.inr hq) (fun v hv => Qj rfl rfl (hbadx hv)))
               obtain ⟨hg0, ⟨x0⟩⟩ := hgo
               refine JR [(r3, .cells #[.int .u64 0, .int .u64 0, .int .u64 0, .int .u64 0, .slice none 0 0, JC i row, .int .i64 0] 81 (0, 0)), (r4, .cells (prC (.mk xk xn xp xi, f, f2)).toArray 162 (0, 0))] [(0, .pure), (1, .pure), (2, .pure), (3, .pure), (4, .pure), (5, .pure), (6, .pure), (7, .pure), (8, .pure), (9, .pure), (10, .grow (Qr x0 (fun y => y.x.val) (fun y => y.L))), (11, .turn)] 12 [0, 1, 2, 3, 4, 5, 6, 7, 8, 9, 10, 11] (by kernel_rfl) (by kernel_rfl) (fun q hq => by rcases List.mem_cons.1 hq with rfl | hq; exact List.mem_cons_of_mem _ List.mem_cons_self; rw [List.mem_singleton.1 hq]; exact List.mem_cons_self) ?_
               refine Jw (k := 0) rfl rfl rfl rfl rfl (fun _ hS => (JM rfl rfl rfl)) ?_; refine Jw (k := 1) rfl rfl rfl rfl rfl (fun _ hS => (Jk rfl (.inl (hS _ (Ku (n := 0) rfl))) rfl rfl)) ?_
               refine Jw (k := 2) rfl rfl rfl rfl rfl (fun _ hS => (JM rfl rfl rfl)) ?_; refine Jw (k := 3) rfl rfl rfl rfl rfl (fun _ hS => (Jx (vs := [_, _, _]) rfl (.inl (hS _ (Ku (n := 1) rfl))) rfl rfl rfl rfl)) ?_; refine Jw (k := 4) rfl rfl rfl rfl rfl (fun _ hS => (Jp rfl)) ?_
               refine Jw (k := 5) rfl rfl rfl rfl rfl (fun _ hS => (JM rfl rfl rfl)) ?_; refine Jw (k := 6) rfl rfl rfl rfl rfl (fun _ hS => (Jk rfl (.inl (hS _ (Ku (n := 1) rfl))) rfl rfl)) ?_
               refine Jw (k := 7) rfl rfl rfl rfl rfl (fun _ hS => (JM rfl rfl rfl)) ?_; refine Jw (k := 8) rfl rfl rfl rfl rfl (fun _ hS => (Jk rfl (.inl (hS _ (Ku (n := 1) rfl))) rfl rfl)) ?_; refine Jw (k := 9) rfl rfl rfl rfl rfl (fun _ _ => V5 (kl := some (.i64, (f : Int))) (kh := some (.i64, (f2 : Int))) (m := f) (n := f2) rfl rfl rfl rfl rfl rfl hft htl rfl) ?_; refine KX (k := 10) rfl rfl rfl rfl rfl Jk7 (ihx.toT (fun v hv => hv.1 hg0)) (fun q hq => Or.inr hq) fun y => ?_; obtain ⟨⟨ya, yb, yc, yd, ybits, ypb, yitems, ypi, ypick⟩, yL, yok, yer⟩ := y
               refine YV (k := 11) (n := 1) (sz := 7) (vs := [_]) (zs := [_, _, _, _, _, _, _]) (r := [_, _, _, _, _, _, _]) rfl rfl rfl rfl (fun q hq => List.mem_append_right _ (by rcases List.mem_cons.1 hq with rfl | hq; exact List.mem_cons_of_mem _ List.mem_cons_self; rw [List.mem_singleton.1 hq]; exact List.mem_cons_self)) rfl rfl rfl rfl rfl rfl rfl (by rw [Ks]; exact rfl) rfl fun rv => ?_; refine KA ?_; refine KD (Jvd ..) ?_; refine Kj (L0 := _ :: _ :: _ :: _ :: _ :: (yL ++ (JU 162 (Xs (Y6 k n ins s)) prow ++ E))) (xs := Qg vs) (row := row) (n := i) (sz := 7) (b := 88) (news := [_, _, _, _, _, _, _]) (List.Perm.refl _) rfl rfl rfl rfl (kn 0 rfl) rfl rfl rfl rfl rfl (by decide) rfl rfl rfl (by decide) hrow (by omega) (by omega) fun ra cap sp hra => ?_
               refine LS 1 [] rfl rfl ?_; refine Kv (k := 3) (cs' := #[.int .u64 0, .int .u64 0, .int .u64 0, .int .u64 0, .slice none 0 0, JC (i + 1) (some (ra, cap, sp)), .int .i64 0]) rfl rfl rfl rfl rfl rfl rfl rfl rfl rfl ?_; refine Jg (Jj (hK43 ?_)); refine Ja ?_
               refine JV rfl ?_; refine Jz (show _ = Value.int .i64 ((i + 1 : Nat) : Int) from by rw [wrap_i64 (by omega) (by omega)]; congr 1 <;> omega) ?_; refine Ji rfl (Jg (J7 ?_))
               have hsn : ((Y6 k n ins s).take (i + 1)).map (gq s) = ((Y6 k n ins s).take i).map (gq s) ++ [gq s (.mk xk xn xp xi, f, f2)] := by rw [Kp hq, List.map_append]; rfl
               have hgy : KJ (.mk xk xn xp xi) ((s.take f2).drop f) = (WJ (.mk ya yb yc yd ybits ypb yitems ypi ypick), 0) := Prod.ext yer.symm hg0
               have hvc : Qg vs ++ Vl.cells (.mk ya yb yc yd ybits ypb yitems ypi ypick) = Qg (vs ++ [.mk ya yb yc yd ybits ypb yitems ypi ypick]) := by unfold Qg; rw [List.flatMap_append]; simp
               refine Xt (Jve ..) ?_
               exact J2 (i + 1, vs ++ [.mk ya yb yc yd ybits ypb yitems ypi ypick], some (ra, cap, sp), yL ++ E) ⟨by simp only [List.length_append, List.length_singleton]; omega, by simp only; omega, by simp only; rw [← hvc]; exact hra, fun z hz => by rcases List.mem_append.1 hz with hz | hz; exact (hin z hz).mono (fun q hq => List.mem_append_right _ hq); rw [List.mem_singleton.1 hz]; exact yok.mono (fun q hq => List.mem_append_left _ hq), by simp only; rw [hsn, List.map_append]; exact zt hrun hgy⟩ (by simp only; omega) (.cons rfl (.cons rfl (.cons rfl (.cons rfl (.cons rfl (.cons rfl (.cons rfl .nil))))))) (by simp only; rw [← hvc]; exact .cons _ (.cons _ (List.Sublist.refl _))) (fun _ _ h => h)
             · try simp only [ZZ] at h42
               refine JG (Jm ?_); refine Jm (J0 (hK38 ?_)); refine sQ fun _ hK45 => ?_
               have honeV : ([.int .u64 0, .int .u64 0, .int .u64 0, .int .u64 0, .slice none 0 0, JC i row, .int .i64 0] : List Value).all QP = true := by cases row <;> rfl
               refine Ja (LR rfl (Jo (xs := [.int .u64 0, .int .u64 0, .int .u64 0, .int .u64 0, .slice none 0 0, JC i row, .int .i64 0]) (n := 7) rfl (kn 0 rfl) rfl rfl rfl) (Jy (k := 1) (n := 7) (ys := [.int .u64 0, .int .u64 0, .int .u64 0, .int .u64 0, .slice none 0 0, JC i row, .int .i64 0]) rfl rfl rfl rfl rfl rfl rfl honeV rfl ?_)); refine nK hK45 (Jb ?_); refine Ju rfl rfl (.cons (J8 (vs := [_, _, _, _, _, _, _]) rfl (kn 1 rfl) rfl rfl) .nil) (fun w1 hs1 => ?_)
               (have e1 := hgr
                have hiM : i = (Y6 k n ins s).length := by omega
                rw [hiM, List.take_length] at hrun; rw [hrun, if_neg (by simp)] at e1; rw [hiM] at hvl hrow; rw [hvl] at hrow
                have hvr : JC i row = KL vs.length (Vi row) := by rw [hiM, hvl]; exact (Wa _ _ (fun h => by rw [h] at hrow; exact hrow.1)).symm
                refine .inl ⟨by rw [e1], ⟨.mk 0 0 0 0 [] none vs (Vi row) 0, JU 81 (Qg vs) row ++ E, jF (by omega) (Qe hrow (by decide)) hin i0, by rw [e1, KZ, Wd]; rfl⟩, congrArg (fun z => Ending.returned (Value.agg #[.int .u64 0, .int .u64 0, .int .u64 0, .int .u64 0, .slice none 0 0, z, .int .i64 0])) hvr, hs1.weakL (.cons _ (.cons _ (.cons _ ((List.Sublist.refl _).append (List.sublist_append_right _ _)))))⟩)
   skip)
mutual
def Xa : Ty → Ty
  | .mk k n _ ins => .mk k n none (VB ins)
def VB : List Ty → List Ty
  | [] => []
  | x :: xs => Xa x :: VB xs
end
theorem yg : ∀ l : List Ty, VB l = l.map Xa
  | [] => by rw [VB]; rfl
  | x :: xs => by rw [VB, yg xs]; rfl
theorem YW (l : List Ty) : (VB l).length = l.length := by rw [yg, List.length_map]
structure TR (t : Ty) : Type where
  x : Ty
  L : Jq
  ok : x.In L
  er : Xa x = t
def byT : Ty := .mk 1 1 none []
def WH (k n : Int) : Ty := .mk k n none [byT]
def qr : Ty := .mk 7 0 none [WH 3 32, WH 3 32]
def acT : Ty := .mk 7 0 none [WH 3 20, .mk 1 8 none [], .mk 1 32 none [], WH 4 512, .mk 4 16 none [qr]]
def QQ : Ty := .mk 4 32 none [acT]
theorem Jn8 {k n : Int} (hk : jO k) (hn : jO n) : PureT (α := Nat) Tryz.prog 78 [.int .i64 k, .int .i64 n].toArray (fun r => .agg #[.int .i64 k, .int .i64 n, .slice (some ⟨r, 0, none⟩) 1 1]) [] (fun r => [(r, .cells #[.int .i64 1, .int .i64 1, .slice none 0 0] 76 (0, 0))]) [] := by
  refine JF Tryz.func78 rfl rfl fun w => ?_; refine sR fun _ hK1 => ?_; refine LN rfl fun r1 => ?_; refine nK hK1 (sR fun _ hK2 => ?_); refine LS 2 [] rfl rfl ?_; refine LR rfl (JI (r := [_, _, _]) rfl rfl) ?_; refine Ke (vs := [_]) (zs := [_, _, _]) (r := [_, _, _]) rfl rfl rfl rfl rfl rfl rfl rfl rfl (by rw [Ks]; exact rfl) rfl fun r2 => ?_; refine LR rfl (JI (r := [_, _, _]) rfl rfl) ?_
  refine LT 1 rfl rfl (nK hK2 ?_); refine Jb ?_; refine Ju rfl rfl (.cons (J8 (vs := [_, _, _]) rfl (kn 1 rfl) rfl rfl) .nil) (fun w1 hs1 => ?_); exact ⟨r2, rfl, hs1.weakL ((List.cons_sublist_cons).2 (List.nil_sublist _))⟩
abbrev Jjk (e : Nat) : Obj := .cells #[.int .i64 1, .int .i64 1, .slice none 0 0] e (0, 0)
def Jjl (k n : Int) (x : Nat) : Ty := .mk k n (some (⟨x, 0, none⟩, 1)) [byT]
def Jw6 (x y r : Nat) : Ty := .mk 7 0 (some (⟨r, 0, none⟩, 2)) [Jjl 3 32 x, Jjl 3 32 y]
def acX (x y x2 x3 r s a : Nat) : Ty := .mk 7 0 (some (⟨a, 0, none⟩, 5)) [Jjl 3 20 x2, .mk 1 8 none [], .mk 1 32 none [], Jjl 4 512 x3, .mk 4 16 (some (⟨s, 0, none⟩, 1)) [Jw6 x y r]]
def Jn9 (x y x2 x3 r s a z : Nat) : Ty := .mk 4 32 (some (⟨z, 0, none⟩, 1)) [acX x y x2 x3 r s a]
theorem Jdg {R : Jq} {k n : Int} {ins : List Ty} {r m e : Nat} {all : Array Value} (hk : jO k) (hn : jO n) (hm : (r, Obj.cells all e (0, 0)) ∈ R) (ha : all.toList = zX ins) (hl : ins.length = m) (hl2 : m ≤ 100) (hi : ∀ x ∈ ins, x.In R) : Ty.In R (.mk k n (some (⟨r, 0, none⟩, m)) ins) :=
  .mk hk hn (by omega) ⟨Nat.le_of_eq hl, fun _ => ⟨rfl, all, e, (0, 0), hm, by rw [List.drop_zero, ha, List.take_length]⟩⟩ hi
theorem Jaf {R : Jq} {k n : Int} (hk : jO k) (hn : jO n) : Ty.In R (.mk k n none []) := .mk hk hn (by decide) rfl (fun x hx => nomatch hx)
theorem vG {R : Jq} {k n : Int} {x e : Nat} (hk : jO k) (hn : jO n) (h : (x, Jjk e) ∈ R) : (Jjl k n x).In R :=
  Jdg hk hn h rfl rfl (by decide) fun y hy => by rw [List.mem_singleton.1 hy]; exact Jaf (by unfold jO; omega) (by unfold jO; omega)
theorem Yg {n : Int} (h0 : 0 ≤ n) (h : n ≤ 1000) : jO n := by unfold jO; omega
theorem Jho {R : Jq} {x y x2 x3 r s a z e : Nat} (h1 : (x, Jjk e) ∈ R) (h2 : (y, Jjk e) ∈ R) (h3 : (x2, Jjk e) ∈ R) (h4 : (x3, Jjk e) ∈ R) (h5 : (r, Obj.cells #[.int .i64 3, .int .i64 32, .slice (some ⟨x, 0, none⟩) 1 1, .int .i64 3, .int .i64 32, .slice (some ⟨y, 0, none⟩) 1 1] e (0, 0)) ∈ R)
    (h6 : (s, Obj.cells #[.int .i64 7, .int .i64 0, .slice (some ⟨r, 0, none⟩) 2 2] e (0, 0)) ∈ R)
    (h7 : (a, Obj.cells #[.int .i64 3, .int .i64 20, .slice (some ⟨x2, 0, none⟩) 1 1, .int .i64 1, .int .i64 8, .slice none 0 0, .int .i64 1, .int .i64 32, .slice none 0 0, .int .i64 4, .int .i64 512, .slice (some ⟨x3, 0, none⟩) 1 1, .int .i64 4, .int .i64 16, .slice (some ⟨s, 0, none⟩) 1 1] e (0, 0)) ∈ R)
    (h8 : (z, Obj.cells #[.int .i64 7, .int .i64 0, .slice (some ⟨a, 0, none⟩) 5 5] e (0, 0)) ∈ R) : (Jn9 x y x2 x3 r s a z).In R := by
  refine Jdg (Yg (by decide) (by decide)) (Yg (by decide) (by decide)) h8 rfl rfl (by decide) fun q hq => ?_; rw [List.mem_singleton.1 hq]; refine Jdg (Yg (by decide) (by decide)) (Yg (by decide) (by decide)) h7 rfl rfl (by decide) fun q hq => ?_; simp only [List.mem_cons, List.not_mem_nil, or_false] at hq
  rcases hq with rfl | rfl | rfl | rfl | rfl
  · exact vG (Yg (by decide) (by decide)) (Yg (by decide) (by decide)) h3
  · exact Jaf (Yg (by decide) (by decide)) (Yg (by decide) (by decide))
  · exact Jaf (Yg (by decide) (by decide)) (Yg (by decide) (by decide))
  · exact vG (Yg (by decide) (by decide)) (Yg (by decide) (by decide)) h4
  · refine Jdg (Yg (by decide) (by decide)) (Yg (by decide) (by decide)) h6 rfl rfl (by decide) fun q hq => ?_
    rw [List.mem_singleton.1 hq]; refine Jdg (Yg (by decide) (by decide)) (Yg (by decide) (by decide)) h5 rfl rfl (by decide) fun q hq => ?_; simp only [List.mem_cons, List.not_mem_nil, or_false] at hq
    rcases hq with rfl | rfl
    · exact vG (Yg (by decide) (by decide)) (Yg (by decide) (by decide)) h1
    · exact vG (Yg (by decide) (by decide)) (Yg (by decide) (by decide)) h2
theorem Jhp (x y x2 x3 r s a z : Nat) : Xa (Jn9 x y x2 x3 r s a z) = QQ := by
  simp only [Jn9, acX, Jw6, Jjl, byT, Xa, VB, QQ, acT, qr, WH]
theorem Jag : PureT (α := TR QQ) Tryz.prog 53 #[] (fun y => y.x.val) [] (fun y => y.L) [] := by
  refine JF Tryz.func53 rfl rfl fun w => ?_; refine sR fun _ hK1 => ?_; refine LN rfl fun r1 => ?_; refine nK hK1 (sR fun _ hK2 => ?_); refine Qh rfl rfl rfl Juh (Jn8 (by unfold jO; omega) (by unfold jO; omega)) (fun q hq => nomatch hq) fun x1 => ?_; refine LN rfl fun r2 => ?_
  refine LT 0 rfl rfl (nK hK2 ?_); refine sR fun _ hK3 => LS 2 [0, 0] rfl rfl ?_; refine Ke (vs := [_, _]) (zs := [_, _, _, _, _, _]) (r := [_, _, _, _, _, _]) rfl rfl rfl rfl rfl rfl rfl rfl rfl (by rw [Ks]; exact rfl) rfl fun r3 => ?_; refine LR rfl (JI (r := [_, _, _]) rfl rfl) ?_; refine LN rfl fun r4 => ?_
  refine LT 0 rfl rfl (nK hK3 ?_); refine sQ fun _ hK4 => ?_
  refine JR [(r4, .cells #[.int .i64 7, .int .i64 0, .slice (some ⟨r3, 0, none⟩) 2 2] 76 (0, 0))] [(0, .grow (Qr 0 (fun r => .agg #[.int .i64 3, .int .i64 20, .slice (some ⟨r, 0, none⟩) 1 1]) (fun r => [(r, .cells #[.int .i64 1, .int .i64 1, .slice none 0 0] 76 (0, 0))]))), (1, .pure), (2, .pure), (3, .grow (Qr 0 (fun r => .agg #[.int .i64 4, .int .i64 512, .slice (some ⟨r, 0, none⟩) 1 1]) (fun r => [(r, .cells #[.int .i64 1, .int .i64 1, .slice none 0 0] 76 (0, 0))]))), (4, .pure), (5, .grow (VZ (slV 1) (.cells #[.int .i64 7, .int .i64 0, .slice (some ⟨r3, 0, none⟩) 2 2] 76 (0, 0)))), (6, .pure), (7, .dep [9, 10, 11, 12, 15] (Jbn 5 76)), (8, .pure), (9, .grow (VZ zP (.cells #[.int .i64 0, .int .i64 0, .slice none 0 0] 76 (0, 0))))] 10 [1, 2, 4, 5, 6, 0, 3, 7, 8, 9] (by kernel_rfl) (by kernel_rfl) (by first | exact (fun _ h => absurd h List.not_mem_nil) | simp [SubS] | (intro p hp; simp [hp])) ?_; refine Jw (k := 1) rfl rfl rfl rfl rfl (fun _ hS => (JI (r := [_, _, _]) rfl rfl)) ?_; refine Jw (k := 2) rfl rfl rfl rfl rfl (fun _ hS => (JI (r := [_, _, _]) rfl rfl)) ?_; refine Jw (k := 4) rfl rfl rfl rfl rfl (fun _ hS => (Jx (vs := [_, _, _]) rfl (.inl (hS _ (Ku (n := 0) rfl))) rfl rfl rfl rfl)) ?_; refine VJ (k := 5) (n := 1) (sz := 3) (vs := [_]) (zs := [_, _, _]) (r := [.int .i64 7, .int .i64 0, .slice (some ⟨r3, 0, none⟩) 2 2]) rfl rfl rfl rfl rfl rfl rfl rfl rfl rfl rfl (by rw [Ks]; exact rfl) rfl fun s1 => ?_; refine Jw (k := 6) rfl rfl rfl rfl rfl (fun _ hS => (JI (r := [_, _, _]) rfl rfl)) ?_; refine KX (k := 0) rfl rfl rfl rfl rfl Juh (Jn8 (by unfold jO; omega) (by unfold jO; omega)) (fun q hq => nomatch hq) fun x2 => ?_; refine KX (k := 3) rfl rfl rfl rfl rfl Juh (Jn8 (by unfold jO; omega) (by unfold jO; omega)) (fun q hq => nomatch hq) fun x3 => ?_; refine Vx (k := 7) (dv := [_, _, _, _, _]) (n := 5) (sz := 3) (vs := [_, _, _, _, _]) (zs := [_, _, _, _, _, _, _, _, _, _, _, _, _, _, _]) (r := [.int .i64 3, .int .i64 20, .slice (some ⟨x2, 0, none⟩) 1 1, .int .i64 1, .int .i64 8, .slice none 0 0, .int .i64 1, .int .i64 32, .slice none 0 0, .int .i64 4, .int .i64 512, .slice (some ⟨x3, 0, none⟩) 1 1, .int .i64 4, .int .i64 16, .slice (some ⟨s1, 0, none⟩) 1 1]) rfl rfl rfl rfl rfl rfl rfl rfl rfl rfl rfl rfl rfl (by rw [Ks]; exact rfl) rfl fun s2 => ?_; refine Jw (k := 8) rfl rfl rfl rfl rfl (fun _ hS => (JI (r := [_, _, _]) rfl rfl)) ?_; refine XV (k := 9) (cs := #[_, _, _]) rfl rfl rfl rfl rfl rfl fun r5 => ?_; refine KA ?_
  refine LT 0 rfl rfl (nK hK4 ?_); refine sR fun _ hK5 => ?_; refine LR rfl (Jx (vs := [_, _, _]) rfl (kn 0 rfl) rfl rfl rfl rfl) ?_; refine Ke (vs := [_]) (zs := [_, _, _]) (r := [_, _, _]) rfl rfl rfl rfl rfl rfl rfl rfl rfl (by rw [Ks]; exact rfl) rfl fun r6 => ?_; refine LR rfl (JI (r := [_, _, _]) rfl rfl) ?_
  refine LT 10 rfl rfl (nK hK5 ?_); refine Jb ?_; refine Ju rfl rfl (.cons (J8 (vs := [_, _, _]) rfl (kn 10 rfl) rfl rfl) .nil) (fun w1 hs1 => ?_); exact ⟨⟨Jn9 x1 x1 x2 x3 r3 s1 s2 r6, _, Jho (e := 76) (by simp) (by simp) (by simp) (by simp) (by simp) (by simp) (by simp) (by simp), Jhp ..⟩, rfl, hs1⟩
def jG (b : UInt8) : Vl := .mk b.toNat 0 0 0 [] none [] none 0
def yh (s : BS) : Vl := KI (s.map jG) 0
theorem Jw7 (b : UInt8) : (jG b).cells = [uV b.toNat, uV 0, uV 0, uV 0, .slice none 0 0, .slice none 0 0, .int .i64 0] := rfl
theorem Jtp (b : UInt8) : Vl.In [] (jG b) := .mk (by have := Vp b; unfold Xw; omega) u0 u0 u0 (by decide) rfl (by decide) rfl i0 (fun x hx => nomatch hx)
theorem Jtq (s : BS) (p : Pl) : WJ (.mk 0 0 0 0 [] none (s.map jG) p 0) = yh s := by
  rw [KZ, Wd, List.map_map, show (WJ ∘ jG) = jG from funext fun b => by show WJ (jG b) = jG b; unfold jG; rw [KZ, Ye]]; rfl
theorem Jr6 {s : BS} {i : Nat} (h : i < s.length) : Qg ((s.take i).map jG) ++ [uV (s.getD i 0).toNat, uV 0, uV 0, uV 0, .slice none 0 0, .slice none 0 0, .int .i64 0] = Qg ((s.take (i + 1)).map jG) := by
  have h1 : s[i]? = some (s.getD i 0) := by rw [List.getD_eq_getElem?_getD, List.getElem?_eq_getElem h]; rfl
  rw [Kp h1, List.map_append]
  unfold Qg
  rw [List.flatMap_append]; simp [Jw7]
theorem Jah {s : BS} (hl : s.length ≤ 100000) : PureT (α := VR (yh s)) Tryz.prog 79 [J3 s].toArray (fun y => y.x.val) [] (fun y => y.L) [] := by
  refine JF Tryz.func79 rfl rfl fun w => ?_; refine sR fun _ hK1 => ?_; refine LN rfl fun r1 => ?_; refine nK hK1 (sR fun _ hK2 => ?_); refine LN rfl fun r2 => ?_; refine nK hK2 (sQ fun _ hK3 => ?_); refine sR fun _ hK4 => Ji rfl (LR rfl (JY rfl rfl) (Ji rfl ?_)); refine nK hK4 ?_; refine Jt (JK (σ := Nat × Vu) (fun q => q.1 ≤ s.length ∧ rowOk 7 q.1 (Qg ((s.take q.1).map jG)) q.2) (fun q => [(0, J3 s), (2, V6 r1), (3, V6 r2), (6, .int .i64 (s.length : Int)), (7, .int .i64 (q.1 : Int))]) (fun q => (r2, .cells #[.int .u64 0, .int .u64 0, .int .u64 0, .int .u64 0, .slice none 0 0, JC q.1 q.2, .int .i64 0] 81 (0, 0)) :: (r1, .cells #[.int .u64 0, .int .u64 0, .int .u64 0, .int .u64 0, .slice none 0 0, .slice none 0 0, .int .i64 0] 81 (0, 0)) :: JU 81 (Qg ((s.take q.1).map jG)) q.2) (fun _ _ _ => True) (fun q => s.length - q.1) (0, none) ⟨Nat.zero_le _, rfl, rfl⟩ (.cons rfl (.cons rfl (.cons rfl (.cons rfl (.cons rfl .nil))))) (List.Sublist.refl _) (fun _ _ h => h) ?_); rintro ⟨i, row⟩ ⟨hi1, hrow⟩; simp only at hi1 hrow; change HC _ _ [(0, J3 s), (2, V6 r1), (3, V6 r2), (6, .int .i64 (s.length : Int)), (7, .int .i64 (i : Int))] ((r2, .cells #[.int .u64 0, .int .u64 0, .int .u64 0, .int .u64 0, .slice none 0 0, JC i row, .int .i64 0] 81 (0, 0)) :: (r1, .cells #[.int .u64 0, .int .u64 0, .int .u64 0, .int .u64 0, .slice none 0 0, .slice none 0 0, .int .i64 0] 81 (0, 0)) :: JU 81 (Qg ((s.take i).map jG)) row) _ _ _; refine sR fun _ hK5 => JV rfl (nK hK5 ?_); refine sQ fun _ hK6 => ?_; refine Jc rfl (fun h7 => ?_) (fun h7 => ?_)
  · try simp only [ZZ] at h7
    refine Jf (hK6 ?_); refine sB fun _ hK8 => sR fun _ hK9 => ?_; refine LS 2 [] rfl rfl (nK hK9 ?_)
    refine JR [(r2, .cells #[.int .u64 0, .int .u64 0, .int .u64 0, .int .u64 0, .slice none 0 0, JC i row, .int .i64 0] 81 (0, 0))] [(0, .pure), (1, .pure), (2, .pure), (3, .pure), (4, .pure), (5, .pure), (6, .pure), (7, .pure), (8, .grow (VZ (slV 1) (.cells #[uV (s.getD i 0).toNat, uV 0, uV 0, uV 0, .slice none 0 0, .slice none 0 0, .int .i64 0] 81 (0, 0))))] 9 [0, 1, 2, 3, 4, 5, 6, 7, 8] (by kernel_rfl) (by kernel_rfl) (by first | exact (fun _ h => absurd h List.not_mem_nil) | simp [SubS] | (intro p hp; simp [hp])) ?_
    refine Jw (k := 0) rfl rfl rfl rfl rfl (fun _ hS => (JM rfl rfl rfl)) ?_; refine Jw (k := 1) rfl rfl rfl rfl rfl (fun _ hS => (Jk rfl (.inl (hS _ (Ku (n := 0) rfl))) rfl rfl)) ?_; refine Jw (k := 2) rfl rfl rfl rfl rfl (fun _ hS => (Jp rfl)) ?_; refine Jw (k := 3) rfl rfl rfl rfl rfl (fun _ hS => (Jp rfl)) ?_; refine Jw (k := 4) rfl rfl rfl rfl rfl (fun _ _ => Wn (j := i) rfl rfl rfl rfl (by omega) rfl) ?_; refine Jw (k := 5) rfl rfl rfl rfl rfl (fun _ _ => (J9 rfl rfl rfl)) ?_; refine W6 (show _ = uV (s.getD i 0).toNat from congrArg (Value.int .u64) (wrap_u64 (by omega) (by have := Vp (s.getD i 0); omega))) ?_; refine W7 (k := 6) rfl rfl rfl rfl rfl Jk6 (XU _) ?_; refine Jw (k := 7) rfl rfl rfl rfl rfl (fun _ hS => (JI (r := [_, _, _, _, _, _, _]) rfl rfl)) ?_; refine VJ (k := 8) (n := 1) (sz := 7) (vs := [_]) (zs := [_, _, _, _, _, _, _]) (r := [uV (s.getD i 0).toNat, uV 0, uV 0, uV 0, .slice none 0 0, .slice none 0 0, .int .i64 0]) rfl rfl rfl rfl rfl rfl rfl rfl rfl rfl rfl (by rw [Ks]; exact rfl) rfl fun rb => ?_; refine KA ?_; refine Kj (L0 := [_, _, _]) (xs := Qg ((s.take i).map jG)) (row := row) (n := i) (sz := 7) (b := 88) (news := [_, _, _, _, _, _, _]) (List.perm_append_comm (l₁ := [_, _, _])) rfl rfl rfl rfl (kn 0 rfl) rfl rfl rfl rfl rfl (by decide) rfl rfl rfl (by decide) hrow (by omega) (by omega) fun ra cap sp hra => ?_
    refine LS 1 [] rfl rfl ?_; refine Kv (k := 2) (cs' := #[.int .u64 0, .int .u64 0, .int .u64 0, .int .u64 0, .slice none 0 0, JC (i + 1) (some (ra, cap, sp)), .int .i64 0]) rfl rfl rfl rfl rfl rfl rfl rfl rfl rfl ?_; refine Jg (Jj (hK8 ?_)); refine Ja ?_
    refine JV rfl ?_; refine Jz (show _ = Value.int .i64 ((i + 1 : Nat) : Int) from by rw [wrap_i64 (by omega) (by omega)]; congr 1 <;> omega) ?_; refine Ji rfl (Jg (J7 ?_)); rw [Jr6 (by omega)] at hra ⊢; refine Vb [2, 3, 0] (L' := [_, _, _]) (by decide) rfl ?_; exact J2 (i + 1, some (ra, cap, sp)) ⟨by simp only; omega, hra⟩ (by simp only; omega) (.cons rfl (.cons rfl (.cons rfl (.cons rfl (.cons rfl .nil))))) (List.Sublist.refl _) (fun _ _ h => h)
  · try simp only [ZZ] at h7
    refine JG (Jm ?_); refine Jm (J0 (hK3 ?_)); refine sQ fun _ hK10 => ?_
    have honeV : ([.int .u64 0, .int .u64 0, .int .u64 0, .int .u64 0, .slice none 0 0, JC i row, .int .i64 0] : List Value).all QP = true := by cases row <;> rfl
    refine Ja (LR rfl (Jo (xs := [.int .u64 0, .int .u64 0, .int .u64 0, .int .u64 0, .slice none 0 0, JC i row, .int .i64 0]) (n := 7) rfl (kn 0 rfl) rfl rfl rfl) (Jy (k := 1) (n := 7) (ys := [.int .u64 0, .int .u64 0, .int .u64 0, .int .u64 0, .slice none 0 0, JC i row, .int .i64 0]) rfl rfl rfl rfl rfl rfl rfl honeV rfl ?_)); refine nK hK10 (Jb ?_); refine Ju rfl rfl (.cons (J8 (vs := [_, _, _, _, _, _, _]) rfl (kn 1 rfl) rfl rfl) .nil) (fun w1 hs1 => ?_)
    have hiM : i = s.length := by omega
    rw [hiM, List.take_length] at hrow hs1
    have hrow2 : rowOk 7 (s.map jG).length (Qg (s.map jG)) row := by rw [List.length_map]; exact hrow
    have hvr : JC i row = KL (s.map jG).length (Vi row) := by rw [hiM, List.length_map]; exact (Wa _ _ (fun h => by rw [h] at hrow; exact hrow.1)).symm
    exact ⟨⟨.mk 0 0 0 0 [] none (s.map jG) (Vi row) 0, JU 81 (Qg (s.map jG)) row ++ [], jF (by rw [List.length_map]; omega) (Qe hrow2 (by decide)) (fun x hx => by obtain ⟨b, _, rfl⟩ := List.mem_map.1 hx; exact Jtp b) i0, Jtq s _⟩, congrArg (fun z => Ending.returned (Value.agg #[.int .u64 0, .int .u64 0, .int .u64 0, .int .u64 0, .slice none 0 0, z, .int .i64 0])) hvr, hs1.weakL (.cons _ (.cons _ (by simp only [List.append_nil]; exact List.Sublist.refl _)))⟩
section
variable {c : Cx} {l : Kl} {L : Jq} {X : XP} {Q : Exit → Act → List Frame → World → Prop} {d : List Deferred} {cs : List Frame}
variable {ops : Array Oper} {rest : List Nat} {k : Nat} {o : Oper}
theorem vH (h : HS c d l L X ops rest cs Q) : HQ c d l L X ((fun e a w => e = Exit.normal ∧ wpOpsSIn (FW none) 0 c.P ops Q rest a cs w) .normal) := fun a w hf hs => ⟨rfl, h a w hf hs⟩
theorem Jai (ho : Wi ops.toList k = some o) (hp : ∀ (ρ : Operand → Value) w x w', (execOp ρ o).run c.P w = .ok x w' → (∃ v, x = .value v) ∨ x = .skip) (hn : Kn o.op = true) (hro : c.ro = none) (h : HL c d l L X ops [o] (fun e a w => e = Exit.normal ∧ wpOpsSIn (FW none) 0 c.P ops Q rest a cs w)) : HS c d l L X ops (k :: rest) cs Q := fun a w hf hs => by
  have hk : ops[k]? = some o := by rw [← QG ho]
  have h1 := h a w hf hs
  unfold wpListIn at h1
  simp only [wpOpsSIn, hk]; refine ⟨KQ, ?_⟩
  by_cases hw : Region.wanted o (yielded ops a.tmps) = true
  · rw [if_pos hw] at h1 ⊢
    obtain ⟨_, h2⟩ := h1
    rw [Oper.semAt_eq _ _ _ (Wk hn)] at h2
    cases e : (execOp a.eval o).run c.P w with
    | ok x w' =>
      rw [e] at h2
      rcases hp a.eval w x w' e with ⟨v, rfl⟩ | rfl
      · exact h2.2
      · exact h2.2
    | halt x w' =>
      rw [e] at h2
      cases x with
      | panic v => exact absurd h2.1 (by simp)
      | _ => exact h2.elim
  · rw [if_neg hw] at h1 ⊢
    exact h1.2.2
theorem qK {P : Program} {dst : Option Nat} {t ty : TypeId} {ps : String} {af : Array Edge} {gd : Option (Nat × Bool)} (ρ : Operand → Value) (w : World) (x : Next) (w' : World) (h : (execOp ρ ⟨dst, .alloc t, ty, ps, af, gd⟩).run P w = .ok x w') : (∃ v, x = .value v) ∨ x = .skip := by
  simp only [execOp, Sem.run_bind] at h
  cases e : (Instr.alloc t true (.tuple #[])).run P w with
  | ok v w2 => rw [e] at h; simp [Result.andThen] at h; exact .inl ⟨v, h.1.symm⟩
  | halt v w2 => rw [e] at h; simp [Result.andThen] at h
theorem qL {P : Program} {dst : Option Nat} {t ty : TypeId} {a b : Operand} {ps : String} {af : Array Edge} {gd : Option (Nat × Bool)} (ρ : Operand → Value) (w : World) (x : Next) (w' : World) (h : (execOp ρ ⟨dst, .store t a b, ty, ps, af, gd⟩).run P w = .ok x w') : (∃ v, x = .value v) ∨ x = .skip := by
  simp only [execOp, Sem.run_bind] at h
  cases e : (Instr.storeAt t (ρ a) (ρ b)).run P w with
  | ok v w2 => rw [e] at h; simp [Result.andThen] at h; exact .inr h.1.symm
  | halt v w2 => rw [e] at h; simp [Result.andThen] at h
end
def gT (rv re : Nat) (V : Array Value) (e : Int) : Jq := [(rv, .cells V 81 (0, 0)), (re, .cells #[.int .i64 e] 27 (0, 0))]
abbrev VZ0 : Array Value := #[.int .u64 0, .int .u64 0, .int .u64 0, .int .u64 0, .slice none 0 0, .slice none 0 0, .int .i64 0]
theorem Jw8 (rv re : Nat) (hne : rv ≠ re) (V : Array Value) (hV : V.size = 7) (e0 : Int) (w : World) (hT : jS (gT rv re V e0) w) : CallsDIn (FW none) 0 Tryz.prog 92 [V6 rv, V6 re].toArray .returning w (fun e u' w' => (∃ x, e = .returned x) ∧ settle u' = .returning ∧ Keep [rv, re] w w' ∧ jS (gT rv re V e0) w') := by
  refine jB (cxT Tryz.prog w (gT rv re V e0) [] Tryz.f92.ntmps) Tryz.func92 rfl rfl rfl rfl (L := gT rv re V e0) (X := fun _ _ => True) (St.startT hT (fun p hp => nomatch hp) (List.pairwise_pair.2 hne) (fun p hp => nomatch hp)) fun c₀ cs hu => ?_
  obtain ⟨hrv, hrc⟩ := Jnt (cs := cs) hu
  refine Jhg fun K hK => ?_; refine wQ ?_; change HS _ _ _ _ _ _ [0, 1, 2, 3, 4, 5, 6, 7] _ _; refine wR rfl rfl rfl rfl (fun a w hf => rfl) hrv hrc ?_; refine yy rfl rfl rfl rfl (J9 rfl rfl rfl) ?_; refine yy rfl rfl rfl rfl (Jp rfl) ?_; refine yy rfl rfl rfl rfl (Qf rfl rfl) ?_; refine yy rfl rfl rfl rfl (Qf rfl rfl) ?_; refine Jai rfl qK rfl rfl (LN rfl fun r2 => Jg (vH ?_)); refine Jai rfl qL rfl rfl (QS (k := 0) (n := 1) (cs' := #[_]) (vs := #[_]) rfl rfl rfl rfl rfl rfl rfl (by exact Nat.le_of_ble_eq_true rfl) rfl rfl (Jg (vH ?_))); refine yy rfl rfl rfl rfl (JO rfl) ?_; refine Jnq ?_; refine hK _ _ _ _ _ (Jnp rfl ?_); clear hK K; refine sR fun _ hK1 => Ji rfl (nK hK1 ?_); refine Jc rfl (fun h2 => ?_) (fun h2 => ?_)
  try exact Bool.noConfusion h2
  · try simp only [ZZ] at h2
    refine Jf ?_; refine zo (u' := .returning) rfl rfl rfl .nil (fun w1 hs1 => ?_); refine ⟨⟨_, rfl⟩, rfl, by have := hs1.keep; simpa [cxT, gT] using this, fun p hp => ?_⟩; exact (hs1.own p (List.mem_cons_of_mem _ hp)).2.2
theorem Jw9 (rv re : Nat) (hne : rv ≠ re) (V : Array Value) (hV : V.size = 7) (e0 : Int) (e1 : Int) (w : World) (hT : jS (gT rv re V e0) w) : CallsDIn (FW none) 0 Tryz.prog 92 [V6 rv, V6 re].toArray (.panicking (wP (zq e1))) w (fun e u' w' => (∃ x, e = .returned x) ∧ settle u' = .returning ∧ Keep [rv, re] w w' ∧ jS (gT rv re VZ0 e1) w') := by
  refine jB (cxT Tryz.prog w (gT rv re V e0) [] Tryz.f92.ntmps) Tryz.func92 rfl rfl rfl rfl (L := gT rv re V e0) (X := fun _ _ => True) (St.startT hT (fun p hp => nomatch hp) (List.pairwise_pair.2 hne) (fun p hp => nomatch hp)) fun c₀ cs hu => ?_
  obtain ⟨hrv, hrc⟩ := Jns (cs := cs) hu
  refine Jhg fun K hK => ?_; refine wQ ?_; change HS _ _ _ _ _ _ [0, 1, 2, 3, 4, 5, 6, 7] _ _; refine wR rfl rfl rfl rfl (fun a w hf => rfl) hrv hrc ?_; refine yy rfl rfl rfl rfl (J9 rfl rfl rfl) ?_; refine yy rfl rfl rfl rfl (Jp rfl) ?_; refine yy rfl rfl rfl rfl (Qf rfl rfl) ?_; refine yy rfl rfl rfl rfl (Qf rfl rfl) ?_; refine Jai rfl qK rfl rfl (LN rfl fun r2 => Jg (vH ?_)); refine Jai rfl qL rfl rfl (QS (k := 0) (n := 1) (cs' := #[_]) (vs := #[_]) rfl rfl rfl rfl rfl rfl rfl (by exact Nat.le_of_ble_eq_true rfl) rfl rfl (Jg (vH ?_))); refine yy rfl rfl rfl rfl (JO rfl) ?_; refine Jnq ?_; refine hK _ _ _ _ _ (Jnp rfl ?_); clear hK K; refine sR fun _ hK1 => Ji rfl (nK hK1 ?_); refine Jc rfl (fun h2 => ?_) (fun h2 => ?_)
  try simp only [ZZ] at h2
  refine JR [(r2, .cells #[.int .i64 e1] 113 (0, 0))] [(0, .pure), (1, .pure), (2, .pure), (3, .turn), (4, .turn)] 5 [0, 1, 2, 3, 4] (by kernel_rfl) (by kernel_rfl) (by first | exact (fun _ h => absurd h List.not_mem_nil) | simp [SubS] | (intro p hp; simp [hp])) ?_; refine Jw (k := 0) rfl rfl rfl rfl rfl (fun _ hS => (JI (r := [_, _, _, _, _, _, _]) rfl rfl)) ?_
  refine Jw (k := 1) rfl rfl rfl rfl rfl (fun _ hS => (JM rfl rfl rfl)) ?_; refine Jw (k := 2) rfl rfl rfl rfl rfl (fun _ hS => (Jk rfl (.inl (hS _ (Ku (n := 0) rfl))) rfl rfl)) ?_; refine q7 (k := 3) (q := 1) (n := 7) (ys := [.int .u64 0, .int .u64 0, .int .u64 0, .int .u64 0, .slice none 0 0, .slice none 0 0, .int .i64 0]) rfl rfl rfl rfl rfl rfl rfl rfl hV rfl rfl (by simp [SubS]) ?_
  refine W8 (k := 4) (q := 2) rfl rfl rfl rfl rfl rfl rfl rfl rfl (by first | (simp only [List.setIfInBounds_toArray, List.set_cons_zero, List.set_cons_succ]; exact rfl) | exact rfl) (by first | (simp only [List.set_cons_zero, List.set_cons_succ]; exact rfl) | exact rfl) (by first | exact (fun _ h => absurd h List.not_mem_nil) | simp [SubS] | (intro p hp; simp [hp])) ?_; refine KA ?_; refine Jg ?_; refine zo (u' := .panicking [{ v := zq e1, recovered := true }]) rfl rfl rfl .nil (fun w1 hs1 => ?_); refine ⟨⟨_, rfl⟩, rfl, by have := hs1.keep; simpa [cxT, gT] using this, fun p hp => ?_⟩; exact (hs1.own p (List.mem_cons_of_mem _ hp)).2.2
  · try exact Bool.noConfusion h2
theorem Joa (t : Ty) (s : BS) : (KJ t s).2 ≠ 0 → (KJ t s).1 = v0L := by
  obtain ⟨k, n, p, ins⟩ := t
  rw [KJ]
  unfold ZJ xX
  dsimp only
  repeat' split
  all_goals first | (intro _; rfl) | (intro h; exact absurd rfl h)
def getR (t : Ty) (s : BS) : Vl × Int := if V2 t 0 ≠ 0 then (v0L, V2 t 0) else if 65536 < s.length then (v0L, 5) else KJ t s
theorem Job : Vl.In [] v0L := .mk u0 u0 u0 u0 (by decide) rfl (by decide) rfl i0 (fun x hx => nomatch hx)
section
variable {c : Cx} {l : Kl} {L L0 : Jq} {X : XP} {d : List Deferred} {fn : Func} {R : Ending → World → Prop} {rv re : Nat} {V : Array Value} {e0 e1 : Int}
theorem yi {w : World} (hs : St c (gT rv re V e0 ++ L0) X w) : jS (gT rv re V e0) w ∧ rv ≠ re := ⟨fun p hp => (hs.own p (List.mem_append_left _ hp)).2.2, by
  have := (List.pairwise_append.1 hs.distinct).1
  exact (List.pairwise_cons.1 this).1 _ (List.mem_singleton_self _)⟩
theorem Jhq {V' : Array Value} {w w' : World} (hs : St c (gT rv re V e0 ++ L0) X w) (hk : Keep [rv, re] w w') (hT : jS (gT rv re V' e1) w') : St c (gT rv re V' e1 ++ L0) X w' := by
  obtain ⟨_, hne⟩ := yi hs
  refine hs.turnT (by simpa [gT] using hk) (fun p hp => ⟨.inl ?_, hT p hp⟩) (List.pairwise_pair.2 hne)
  rcases List.mem_cons.1 hp with rfl | hp
  · simp [gT]
  · rw [List.mem_singleton.1 hp]; simp [gT]
theorem Jtr (hP : c.P = Tryz.prog) (hp : L.Perm (gT rv re V e0 ++ L0)) (hV : V.size = 7) (h : HQ c d l (gT rv re V e0 ++ L0) X (bodyPostM (FW none) 0 Tryz.prog fn R .ret)) : HQ c (dF 92 [V6 rv, V6 re] :: d) l L X (bodyPostM (FW none) 0 Tryz.prog fn R .ret) :=
  Xt hp (Ju7 (enters_of Tryz.func92 (by kernel_rfl) rfl) (fun w hs => CallsDIn.mono (Jw8 rv re (yi hs).2 V hV e0 w (yi hs).1) fun _ _ _ ⟨h1, h2, h3, h4⟩ => ⟨h1, h2, Jhq hs h3 h4⟩) h)
theorem Jts (hP : c.P = Tryz.prog) (hd : d = []) (hp : L.Perm (gT rv re V e0 ++ L0)) (hV : V.size = 7) (h : HQ c d l (gT rv re VZ0 e1 ++ L0) X (bodyPostM (FW none) 0 Tryz.prog fn R .ret)) : HQ c (dF 92 [V6 rv, V6 re] :: d) l L X (bodyPostM (FW none) 0 Tryz.prog fn R (.panic (wP (zq e1)))) :=
  Xt hp (Jry (enters_of Tryz.func92 (by kernel_rfl) rfl) (fun w hs => CallsDIn.mono (Jw9 rv re (yi hs).2 V hV e0 e1 w (yi hs).1) fun _ _ _ ⟨h1, h2, h3, h4⟩ => ⟨h1, h2, Jhq hs h3 h4⟩) h)
end
set_option maxHeartbeats 1000000 in
theorem Jxa {R : Jq} {t : Ty} (ht : t.In R) (s : BS) : PureT (α := VR (getR t s).1) Tryz.prog 60 [t.val, J3 s].toArray (fun y => .tuple #[y.x.val, .int .i64 (getR t s).2]) [] (fun y => y.L) R := by
  have hC := xq ht
  have hG := Jw5 ht (s := s)
  have hbd := Joa t s
  have hg0 : V2 t 0 ≠ 0 → getR t s = (v0L, V2 t 0) := fun h => by unfold getR; rw [if_pos h]
  have hg1 : V2 t 0 = 0 → 65536 < s.length → getR t s = (v0L, 5) := fun h h2 => by unfold getR; rw [if_neg (by rw [h]; decide), if_pos h2]
  have hg2 : V2 t 0 = 0 → ¬ 65536 < s.length → getR t s = KJ t s := fun h h2 => by unfold getR; rw [if_neg (by rw [h]; decide), if_neg h2]
  generalize hcz : V2 t 0 = z at hC hG hg0 hg1 hg2
  obtain ⟨k, n, p, ins⟩ := t
  refine JF Tryz.func60 rfl rfl fun w => ?_; refine sR fun _ hK1 => ?_; refine LN rfl fun r1 => ?_; refine LN rfl fun r2 => ?_; refine LN rfl fun r3 => ?_; refine nK hK1 (sR fun _ hK2 => ?_); refine LR rfl (Kq rfl rfl) ?_; refine Jnn (caps := [V6 r2, V6 r3]) rfl rfl rfl ?_ rfl; refine nK hK2 (sQ fun _ hK3 => ?_); refine sR fun _ hK4 => ?_; refine LR rfl (Jx (vs := [_, _, _]) rfl (kn 2 rfl) rfl rfl rfl rfl) ?_; refine Jh rfl rfl rfl Jui hC (fun q hq => Or.inr hq) ?_; refine Ji rfl (nK hK4 ?_); refine sR fun _ hK5 => LS 2 [] rfl rfl (nK hK5 ?_); refine Jc rfl (fun h6 => ?_) (fun h6 => ?_)
  · try simp only [ZZ] at h6
    refine sR fun _ hK7 => ?_; refine LR rfl (JI (r := [_, _, _, _, _, _, _]) rfl rfl) ?_; refine Ji rfl ?_
    refine LT 1 rfl rfl ?_
    refine LT 0 rfl rfl (nK hK7 ?_); refine Jb (Jd ?_)
    (refine Jtr (L0 := [_]) rfl (List.Perm.swap _ _ _) rfl ?_
     refine Ju rfl rfl (.cons (J8 (vs := [_, _, _, _, _, _, _]) rfl (kn 0 rfl) rfl rfl) (.cons (KM rfl (kn 1 rfl) rfl rfl) .nil)) (fun w1 hs1 => ?_)
     exact ⟨⟨v0L, [], Job, by rw [hg0 (by assumption)]; rfl⟩, congrArg (fun z => Ending.returned (Value.tuple #[v0L.val, .int .i64 z])) (congrArg Prod.snd (hg0 (by assumption))).symm, hs1.weakL (List.nil_sublist _)⟩)
  · try simp only [ZZ] at h6
    refine Jf (hK3 ?_); refine sQ fun _ hK8 => ?_
    have hz : z = 0 := by assumption
    refine Ja (Ji rfl (LR rfl (JY rfl rfl) ?_)); refine JV rfl ?_; refine KP rfl rfl rfl Zv (VA (_) 5) (fun q hq => nomatch hq) (fun hok _ => ?_) (fun v hv => by obtain ⟨hvb, rfl⟩ := hv; refine Jts (e1 := 5) (L0 := [_]) rfl rfl (List.Perm.swap _ _ _) rfl ?_; refine Ju rfl rfl (.cons (J8 (vs := [_, _, _, _, _, _, _]) rfl (kn 0 rfl) rfl rfl) (.cons (KM rfl (kn 1 rfl) rfl rfl) .nil)) (fun w1 hs1 => ?_); exact ⟨⟨v0L, [], Job, by rw [hg1 hz (by have := Z2.1 hvb; omega)]; rfl⟩, congrArg (fun z => Ending.returned (Value.tuple #[v0L.val, .int .i64 z])) (congrArg Prod.snd (hg1 hz (by have := Z2.1 hvb; omega))).symm, hs1.weakL (List.nil_sublist _)⟩)
    have hl : ¬ 65536 < s.length := by have := Z1.mp hok; omega
    refine nK hK8 (sR fun _ hK9 => ?_); refine LS 2 [2] rfl rfl ?_; refine KP rfl rfl rfl Jk7 (hG hz (by omega)) (fun q hq => Or.inr hq) (fun hok y => ?_) (fun v hv => by obtain ⟨hvb, rfl⟩ := hv; refine Jts (e1 := (KJ (.mk k n p ins) s).2) (L0 := [_]) rfl rfl (List.Perm.swap _ _ _) rfl ?_; refine Ju rfl rfl (.cons (J8 (vs := [_, _, _, _, _, _, _]) rfl (kn 0 rfl) rfl rfl) (.cons (KM rfl (kn 1 rfl) rfl rfl) .nil)) (fun w1 hs1 => ?_); exact ⟨⟨v0L, [], Job, by rw [hg2 hz hl, hbd hvb]; rfl⟩, congrArg (fun z => Ending.returned (Value.tuple #[v0L.val, .int .i64 z])) (congrArg Prod.snd (hg2 hz hl)).symm, hs1.weakL (List.nil_sublist _)⟩)
    obtain ⟨⟨ya, yb, yc, yd, ybits, ypb, yitems, ypi, ypick⟩, yL, yok, yer⟩ := y
    refine KD List.perm_append_comm ?_
    refine LT 1 rfl rfl ?_
    refine LT 0 rfl rfl (nK hK9 ?_); refine Jb ?_
    (refine Jtr (L0 := _ :: yL) rfl (List.Perm.swap _ _ _) rfl ?_
     refine Ju rfl rfl (.cons (J8 (vs := [_, _, _, _, _, _, _]) rfl (kn 0 rfl) rfl rfl) (.cons (KM rfl (kn 1 rfl) rfl rfl) .nil)) (fun w1 hs1 => ?_)
     exact ⟨⟨.mk ya yb yc yd ybits ypb yitems ypi ypick, yL, yok, by rw [hg2 hz hl]; exact yer⟩, congrArg (fun z => Ending.returned (Value.tuple #[Vl.val (.mk ya yb yc yd ybits ypb yitems ypi ypick), .int .i64 z])) ((congrArg Prod.snd (hg2 hz hl)).trans hok).symm, hs1.weakL (.cons _ (.cons _ (.cons _ (List.Sublist.refl _))))⟩)
section
variable {c : Cx} {l : Kl} {L E : Jq} {X : XP} {Q : Exit → Act → World → Prop} {d : List Deferred}
variable {ops : Array Oper} {rest : List Nat} {i k : Nat} {v : Value} {o : Oper} {tb : jl} {S : Jq} {T : Jq → Act → Prop}
theorem Joc {α : Type} {T0 L0 Rl : Jq} {f : Operand} {args : Array Operand} {at_ : Array TypeId} {g : FuncId} {vs : List Value} {V : α → Value} {LL : α → Jq} {ty : TypeId} {ps : String} {af : Array Edge} {gd : Option (Nat × Bool)}
    (hp : E.Perm (T0 ++ L0)) (hk : Wi ops.toList k = some ⟨some i, .call ⟨.value f, args, at_⟩, ty, ps, af, gd⟩) (hg : Kg l ops ⟨some i, .call ⟨.value f, args, at_⟩, ty, ps, af, gd⟩ = some true) (hi : Nat.ble (i + 1) c.n = true) (hA : tb k = .turn) (hca : Kw l f args = some (g, vs)) (eg : Enters c.P g)
    (hpt : PureT c.P g vs.toArray V T0 LL Rl) (hR : ∀ p ∈ Rl, known c L0 p.1 p.2) (hS : ∀ x, SubS S (LL x ++ L0)) (h : ∀ x, HB c d ((i, V x) :: l) (LL x ++ L0) X S ops tb rest T) : HB c d l E X S ops tb (k :: rest) T := fun a hf => by
  refine ⟨_, QG hk, ?_⟩; rw [hA]; refine .inl ⟨α, V, fun x => LL x ++ L0, ⟨JA hf hg, fun w hs => ?_⟩, fun x => ⟨hS x, h x _ (hf.put (Nat.le_of_ble_eq_true hi))⟩⟩
  have hs := hs.perm hp
  obtain ⟨hd1, _, hd3⟩ := List.pairwise_append.1 hs.distinct
  refine Xh hf hca eg ((hpt.run w (fun p hp => (hs.own p (List.mem_append_left _ hp)).2.2) (fun p hp => ?_) hd1 (fun p hp q hq => ?_)).mono fun _ _ ⟨x, he, hk, h1, h2⟩ => ⟨V x, he, x, rfl, hs.turnT hk h1 h2⟩)
  · exact (hR p hp).elim (fun h => (hs.own _ (List.mem_append_right _ h)).2.2) hs.readR
  · rcases hR p hp with h | h
    · exact fun e => hd3 q hq _ h e.symm
    · rintro e
      obtain ⟨h1, _, h3⟩ := hs.ext _ h
      have h3 := Jr h3
      rcases (hs.own q (List.mem_append_left _ hq)).1 with h4 | h4
      · exact h1 (e ▸ h4)
      · simp only at h3 e; omega
end
theorem Jxb {n : Nat} {xs : List Value} (h : xs.length = n) : rowOk 1 n xs (some (0, n, [])) := ⟨by rw [h, Nat.mul_one], by simp⟩
theorem Jod {R : Jq} {k n : Int} {p : Pl} {ins : List Ty} {items : List Vl} {pi : Pl} (ht : Ty.In R (.mk k n p ins)) (h8 : k ≠ 8) (hs : Seg R items.length (Qg items) pi) (hl : items.length ≤ 600) (hx : ∀ i, i < items.length → VV k 0 i < ins.length)
    (hb : ∀ (i : Nat) x, items[i]? = some x → PureR Tryz.prog 85 [(JJ k 0 ins i).val, x.val].toArray (J3 (Kz x (JJ k 0 ins i))) R) :
    PureT (α := { row : Vu // rowOk 1 items.length (Wy (Kc items k 0 ins 0)) row }) Tryz.prog 135 [Ty.val (.mk k n p ins), KL items.length pi].toArray (fun x => JC items.length x.1) [] (fun x => JU 9 (Wy (Kc items k 0 ins 0)) x.1) R := by
  cases ht with
  | @mk k n p ins hk hn hlt hst hit =>
  have hRL := Ws items k 0 ins 0
  obtain ⟨RS, hRS⟩ : ∃ x, x = Kc items k 0 ins 0 := ⟨_, rfl⟩
  have htk := fun i x (h : items[i]? = some x) => wH k ins (i := 0) h
  simp only [← hRS, Nat.zero_add] at htk; rw [← hRS] at hRL ⊢; refine JF Tryz.func135 rfl rfl fun w => ?_; refine sR fun _ hK1 => ?_; refine LN rfl fun r1 => ?_; refine Ji rfl (nK hK1 ?_); refine sR fun _ hK2 => Ji rfl (nK hK2 ?_); refine sQ fun _ hK3 => sR fun _ hK4 => ?_; refine Ji rfl (LR rfl (J4 rfl hs rfl) (Ji rfl ?_)); refine nK hK4 (Jt ?_); refine JK (σ := Nat × Vu) (fun q => q.1 ≤ items.length ∧ rowOk 1 q.1 (Wy (RS.take q.1)) q.2) (fun q => [(2, V6 r1), (5, JC q.1 q.2), (9, KL items.length pi), (10, .int .i64 (items.length : Int)), (11, .int .i64 (q.1 : Int))]) (fun q => VF r1 (.mk k n p ins) :: JU 9 (Wy (RS.take q.1)) q.2) (fun _ _ _ => True) (fun q => items.length - q.1) (0, none) ⟨Nat.zero_le _, by rw [List.take_zero]; exact ⟨rfl, rfl⟩⟩ (.cons rfl (.cons rfl (.cons rfl (.cons rfl (.cons rfl .nil))))) (List.Sublist.refl _) (fun _ _ h => h) ?_; rintro ⟨i, row⟩ ⟨hi1, hrow⟩; simp only at hi1 hrow; change HC _ _ [(2, _), (5, JC i row), (9, _), (10, _), (11, .int .i64 (i : Int))] ((r1, _) :: JU _ (Wy (RS.take i)) row) _ _ _; refine sR fun _ hK5 => JV rfl (nK hK5 ?_); refine sQ fun _ hK6 => ?_; refine Jc rfl (fun h7 => ?_) (fun h7 => ?_)
  · try simp only [ZZ] at h7
    refine Jf (hK6 ?_); refine sB fun _ hK8 => sQ fun _ hK9 => ?_
    have hil : i < items.length := by omega
    have hix := X8 hil
    have hbi := hb i _ hix.1
    have hty := Qk (hx i hil)
    have hi0 : 0 < ins.length := Nat.lt_of_le_of_lt (Nat.zero_le _) (hx i hil)
    have hy0 : ins[0]? = some (ins.getD 0 default) := by rw [List.getD_eq_getElem?_getD, List.getElem?_eq_getElem hi0]; rfl
    have htki := htk i _ hix.1
    obtain ⟨sv, hsv⟩ : ∃ x, x = Kz (X7 items i) (JJ k 0 ins i) := ⟨_, rfl⟩
    rw [← hsv] at hbi htki; refine Ja (Ji rfl ?_)
    refine LR rfl (Js (j := i) rfl hs rfl rfl rfl (by first | rfl | omega) (by omega)) ?_; refine LR rfl (QE (fun q hq => Or.inr hq) rfl hs hix.1 rfl rfl) ?_; refine QC (cs := #[.int .u64 0, .int .u64 0, .int .u64 0, .int .u64 0, .slice none 0 0, .slice none 0 0, .int .i64 0]) rfl rfl rfl rfl fun rv => ?_; refine Ji rfl (Jy (k := 0) (n := 7) (ys := (X7 items i).cells) rfl rfl rfl rfl rfl (X7 items i).len rfl (X7 items i).one rfl ?_); refine nK hK9 (sR fun _ hK10 => ?_)
    refine LS 2 [1] rfl rfl ?_; refine LR rfl (Js (j := 0) rfl hst rfl rfl rfl rfl (by omega)) ?_; refine LR rfl (KU (fun q hq => Or.inr hq) rfl hst hy0 rfl rfl) ?_; refine QC (cs := #[.int .i64 0, .int .i64 0, .slice none 0 0]) rfl rfl rfl rfl fun rt => ?_; refine Jy (k := 0) (n := 3) (ys := (ins.getD 0 default).cells) rfl rfl rfl rfl rfl (ins.getD 0 default).len rfl (ins.getD 0 default).one rfl ?_; refine nK hK10 (sQ fun _ hK11 => ?_); refine sR fun _ hK12 => ?_
    refine LS 3 [2] rfl rfl (nK hK12 ?_); refine Jc rfl (fun h13 => ?_) (fun h13 => ?_)
    · try simp only [ZZ] at h13
      refine Ja ?_
      refine LS 3 [2] rfl rfl ?_; refine LR rfl (Js (j := VV k 0 i) rfl hst rfl rfl rfl (by unfold VV; rw [if_pos (by assumption)]) (hx i hil)) ?_; refine LR rfl (KU (fun q hq => Or.inr hq) rfl hst hty.1 rfl rfl) ?_; refine Jy (k := 0) (n := 3) (ys := (JJ k 0 ins i).cells) rfl rfl rfl rfl rfl (JJ k 0 ins i).len (by rw [List.size_toArray]; exact Ty.len _) (JJ k 0 ins i).one rfl ?_; refine nK hK11 ?_
      (have h7 : k = 7 := by assumption
       skip)
      refine Ja (Ji rfl (LR rfl (Jo (xs := (JJ k 0 ins i).cells) (n := 3) rfl (kn 0 rfl) rfl rfl (JJ k 0 ins i).len) ?_)); refine LR rfl (Jo (xs := (X7 items i).cells) (n := 7) rfl (kn 1 rfl) rfl rfl (X7 items i).len) ?_; refine Jh rfl rfl rfl Jqb hbi (fun q hq => Or.inr hq) ?_; refine Ke (vs := [_]) (zs := [_]) (r := [_]) rfl rfl rfl rfl rfl rfl rfl rfl rfl (by show (madeCells #[_] _).toList = _; rw [VE]; exact rfl) rfl fun r2 => ?_; refine Kj (L0 := [_, _, _, _]) (xs := Wy (RS.take i)) (row := row) (n := i) (sz := 1) (b := 16) (news := [J3 sv]) (List.perm_append_comm (l₁ := [_, _, _, _])) rfl rfl rfl rfl (kn 0 rfl) rfl rfl rfl rfl rfl (by decide) rfl rfl rfl (by decide) hrow (by omega) (by omega) fun ra cap sp hra => ?_; refine Ji rfl (Jg ?_); refine Jj (hK8 ?_); refine Ja ?_
      refine JV rfl ?_; refine Jz (show _ = Value.int .i64 ((i + 1 : Nat) : Int) from by rw [wrap_i64 (by omega) (by omega)]; congr 1 <;> omega) ?_; refine Ji rfl (Jg (J7 ?_)); refine Vb [4, 0] (L' := [_, _]) (by decide) rfl ?_; exact J2 (i + 1, some (ra, cap, sp)) ⟨by simp only; omega, by simp only; rw [htki, YL]; exact hra⟩ (by simp only; omega) (.cons rfl (.cons rfl (.cons rfl (.cons rfl (.cons rfl .nil))))) (by simp only; rw [htki, YL]; exact List.Sublist.refl _) (fun _ _ h => h)
    · try simp only [ZZ] at h13
      refine Jf (hK11 ?_)
      (have h7 : ¬ k = 7 := by assumption
       have e : ins.getD 0 default = JJ k 0 ins i := by unfold JJ VV; rw [if_neg h7, if_neg h8]
       rw [e])
      refine Ja (Ji rfl (LR rfl (Jo (xs := (JJ k 0 ins i).cells) (n := 3) rfl (kn 0 rfl) rfl rfl (JJ k 0 ins i).len) ?_)); refine LR rfl (Jo (xs := (X7 items i).cells) (n := 7) rfl (kn 1 rfl) rfl rfl (X7 items i).len) ?_; refine Jh rfl rfl rfl Jqb hbi (fun q hq => Or.inr hq) ?_; refine Ke (vs := [_]) (zs := [_]) (r := [_]) rfl rfl rfl rfl rfl rfl rfl rfl rfl (by show (madeCells #[_] _).toList = _; rw [VE]; exact rfl) rfl fun r3 => ?_; refine Kj (L0 := [_, _, _, _]) (xs := Wy (RS.take i)) (row := row) (n := i) (sz := 1) (b := 16) (news := [J3 sv]) (List.perm_append_comm (l₁ := [_, _, _, _])) rfl rfl rfl rfl (kn 0 rfl) rfl rfl rfl rfl rfl (by decide) rfl rfl rfl (by decide) hrow (by omega) (by omega) fun ra cap sp hra => ?_; refine Ji rfl (Jg ?_); refine Jj (hK8 ?_); refine Ja ?_
      refine JV rfl ?_; refine Jz (show _ = Value.int .i64 ((i + 1 : Nat) : Int) from by rw [wrap_i64 (by omega) (by omega)]; congr 1 <;> omega) ?_; refine Ji rfl (Jg (J7 ?_)); refine Vb [4, 0] (L' := [_, _]) (by decide) rfl ?_; exact J2 (i + 1, some (ra, cap, sp)) ⟨by simp only; omega, by simp only; rw [htki, YL]; exact hra⟩ (by simp only; omega) (.cons rfl (.cons rfl (.cons rfl (.cons rfl (.cons rfl .nil))))) (by simp only; rw [htki, YL]; exact List.Sublist.refl _) (fun _ _ h => h)
  · try simp only [ZZ] at h7
    refine JG (Jm ?_); refine Jm (J0 (hK3 ?_)); refine sQ fun _ hK14 => ?_
    obtain rfl : i = items.length := by omega
    rw [List.take_of_length_le (by omega)] at hrow ⊢; refine Ja (LS 2 [] rfl rfl ?_); refine nK hK14 (Jb ?_); refine pT rfl rfl rfl fun w1 hs1 => ?_; exact ⟨⟨row, hrow⟩, rfl, hs1.weakL (.cons _ (List.Sublist.refl _))⟩
abbrev jH (l : List BS) : Type := { row : Vu // rowOk 1 l.length (Wy l) row }
def Jhr (l : List BS) : jH l := ⟨some (0, l.length, []), Jxb (by unfold Wy; rw [List.length_map])⟩
abbrev rV {l : List BS} (x : jH l) : Value := KL l.length (Vi x.1)
abbrev rL {l : List BS} (x : jH l) : Jq := JU 9 (Wy l) x.1
theorem Jxc {l : List BS} (x : jH l) : rV x = JC l.length x.1 := Wa _ _ fun h => by
  have h2 := x.2
  rw [h] at h2; exact h2.1
theorem Joe (l : List BS) : (fun x : jH l => rV x) = fun x => JC l.length x.1 := funext fun x => Jxc x
theorem Jof {s : BS} (hl : s.length ≤ 1000000) : PureT (α := jH (Yz s)) Tryz.prog 172 [J3 s].toArray (fun x => rV x) [] (fun x => rL x) [] := by
  have h := Jwz hl
  rw [← YM] at h; rw [Joe]; exact h
theorem zu {R : Jq} {k n : Int} {p : Pl} {ins : List Ty} {items : List Vl} {pi : Pl} (ht : Ty.In R (.mk k n p ins)) (h8 : k ≠ 8) (hs : Seg R items.length (Qg items) pi) (hl : items.length ≤ 600) (hx : ∀ i, i < items.length → VV k 0 i < ins.length)
    (hb : ∀ (i : Nat) x, items[i]? = some x → PureR Tryz.prog 85 [(JJ k 0 ins i).val, x.val].toArray (J3 (Kz x (JJ k 0 ins i))) R) :
    PureT (α := jH (Kc items k 0 ins 0)) Tryz.prog 135 [Ty.val (.mk k n p ins), KL items.length pi].toArray (fun x => rV x) [] (fun x => rL x) R := by
  have h := Jod ht h8 hs hl hx hb
  rw [Joe]
  have e := Ws items k 0 ins 0
  generalize Kc items k 0 ins 0 = RS at h e ⊢
  rw [← e] at h; rw [← e]; exact h
theorem Jog (t : Ty) : Pure Tryz.prog 171 [t.val].toArray (.bool (Xq t)) := by
  obtain ⟨k, n, p, ins⟩ := t
  refine JE Tryz.func171 rfl rfl fun w => ?_; refine sR fun K1 hK1 => ?_; refine LN rfl fun r1 => ?_; refine Ji rfl (nK hK1 ?_); clear hK1 K1; refine sR fun K2 hK2 => LS 4 [0] rfl rfl ?_
  refine JB 6 rfl (fun hb3 => ?_) (fun hb3 => ?_) <;> (try simp only [ZZ] at hb3) <;> first | (refine LR rfl (JM rfl rfl rfl) ?_) | (refine LK rfl ?_)
  all_goals refine LW 4 [0] rfl rfl ?_
  all_goals refine Jg ?_
  all_goals (
   refine hK2 ?_; clear hK2 K2; refine Jb (pT rfl rfl rfl fun w1 hs1 => ?_); refine ⟨?_, hs1.keep⟩
   simp_all [JN, Xq, Ty.k]
   all_goals first | done | rfl
   skip)
theorem Jvh (n : Nat) : ((n + 7) / 8 + 31) / 32 = (n + 255) / 256 := by omega
theorem Jhs {R : Jq} {l : List Bool} {k : Int} {n : Nat} {p pb : Pl} {ins : List Ty} (hl : l.length ≤ n) (hn : n ≤ 512) (hs : Seg R l.length (Qw l) pb) :
    PureR Tryz.prog 131 [Ty.val (.mk k (n : Int) p ins), KL l.length pb].toArray (J3 (QX (Yz (V8 l)) ((n + 255) / 256))) R := by
  obtain ⟨N, hN⟩ : ∃ N, N = (l.length + 7) / 8 := ⟨_, rfl⟩
  have hpB : V8 l = KO l N l.length := by rw [hN]; rfl
  have hnb := qi (bits := l) (n := (n : Int)) (by omega)
  rw [Int.toNat_natCast] at hnb
  have hc32 := Zp (V8 l)
  have hcut := Jof (s := V8 l) (by rw [WX]; omega)
  rw [hpB] at hnb hc32 hcut ⊢; refine Je Tryz.func131 rfl rfl fun w => ?_; refine sR fun K1 hK1 => ?_; refine LN rfl fun r1 => ?_; refine Ji rfl (nK hK1 ?_); clear hK1 K1; refine sR fun K2 hK2 => Ji rfl (LR rfl (J4 rfl hs rfl) ?_)
  refine JV rfl ?_; refine Jz (show _ = Value.int .i64 ((l.length + 8 : Nat) : Int) from by rw [wrap_i64 (by omega) (by omega)]; congr 1 <;> omega) ?_
  refine JV rfl ?_; refine Jz (show _ = Value.int .i64 ((l.length + 7 : Nat) : Int) from by rw [wrap_i64 (by omega) (by omega)]; congr 1 <;> omega) ?_; refine JV rfl ?_; refine Jz (show _ = Value.int .i64 ((N : Nat) : Int) from congrArg (Value.int .i64) (by rw [QI (by omega) (by decide) (by omega), hN]; rfl)) ?_; refine WQ (n := N) (b := 1) rfl rfl rfl rfl rfl rfl rfl rfl rfl (by omega) (by omega) fun rm => ?_; rw [show List.replicate N (Value.int .u8 0) = (KO l N 0).map bV from by rw [KO, List.map_replicate]; rfl]; refine Ji rfl (nK hK2 ?_); clear hK2 K2; refine sQ fun K3 hK3 => sR fun K4 hK4 => ?_; refine Ji rfl (LR rfl (J4 rfl hs rfl) (Ji rfl ?_)); refine nK hK4 ?_; clear hK4 K4; refine Jt (JK (σ := Nat) (fun i => i ≤ l.length) (fun i => [(2, V6 r1), (5, .slice (some ⟨rm, 0, none⟩) N N), (14, KL l.length pb), (15, .int .i64 (l.length : Int)), (16, .int .i64 (i : Int))]) (fun i => [(rm, .cells ((KO l N i).map bV).toArray 5 (0, 0)), VF r1 (.mk k (n : Int) p ins)]) (fun _ _ _ => True) (fun i => l.length - i) 0 (Nat.zero_le _) (.cons rfl (.cons rfl (.cons rfl (.cons rfl (.cons rfl .nil))))) (List.Sublist.refl _) (fun _ _ h => h) ?_); intro i hi1; change HC _ _ _ ((rm, _) :: (r1, _) :: []) _ _ _; refine sR fun K5 hK5 => JV rfl (nK hK5 ?_); clear hK5 K5; refine sQ fun K6 hK6 => ?_; refine Jc rfl (fun h7 => ?_) (fun h7 => ?_)
  · try simp only [ZZ] at h7
    refine Jf (hK6 ?_); clear hK6 K6; refine sB fun K8 hK8 => sQ fun K9 hK9 => ?_
    have hil : i < l.length := by omega
    have hi8 : i / 8 < N := by omega
    have hyb : l[i]? = some (l.getD i false) := by rw [List.getD_eq_getElem?_getD, List.getElem?_eq_getElem hil]; rfl
    refine Ja (Ji rfl ?_)
    refine LR rfl (Js (j := i) rfl hs rfl rfl rfl (by first | rfl | omega) (by omega)) ?_; refine LR rfl (XR (fun q hq => Or.inr hq) rfl hs hyb rfl) ?_; refine LS 2 [] rfl rfl (nK hK9 ?_); clear hK9 K9; refine sR fun K10 hK10 => Ji rfl (nK hK10 ?_); clear hK10 K10; refine Jc rfl (fun h11 => ?_) (fun h11 => ?_)
    · try simp only [ZZ] at h11
      have hbt : l.getD i false = true := by assumption
      have hst1 : KO l N (i + 1) = (KO l N i).set (i / 8) (UInt8.ofNat (((KO l N i).getD (i / 8) 0).toNat ||| 2 ^ (i % 8))) := by rw [KO, if_pos hbt]
      obtain ⟨Y, hY⟩ : ∃ Y, Y = KO l N i := ⟨_, rfl⟩
      have hYl : Y.length = N := by rw [hY]; exact Vm l N i
      rw [← hY] at hst1 ⊢
      refine JR [] [(0, .pure), (1, .pure), (2, .pure), (3, .pure), (5, .pure), (6, .pure), (7, .pure), (8, .pure), (9, .pure), (10, .turn)] 11 [0, 1, 2, 3, 4, 5, 6, 7, 8, 9, 10] (by kernel_rfl) (by kernel_rfl) (by first | exact (fun _ h => absurd h List.not_mem_nil) | simp [SubS] | (intro p hp; simp [hp])) ?_; refine Jw (k := 0) rfl rfl rfl rfl rfl (fun _ hS => (Jp rfl)) ?_; refine Jw (k := 1) rfl rfl rfl rfl rfl (fun _ hS => (Jp rfl)) ?_
      refine Jw (k := 2) rfl rfl rfl rfl rfl (fun _ _ => (J9 rfl rfl rfl)) ?_; refine W6 (show _ = Value.int .i64 ((i / 8 : Nat) : Int) from congrArg (Value.int .i64) (by first | exact Ww _ _ | exact QI (by omega) (by decide) (by omega) | (rw [wrap_i64 (by omega) (by omega)]; omega))) ?_; refine Jw (k := 3) rfl rfl rfl rfl rfl (fun _ _ => Kf (j := (i / 8)) (m := 1) (off' := (i / 8)) rfl rfl rfl rfl (by omega) (by omega) (by omega)) ?_; refine KV (k := 4) rfl rfl rfl rfl rfl (Jk rfl (kn 0 rfl) rfl (by rw [QY]; exact Ya (by omega))) ?_; refine Jw (k := 5) rfl rfl rfl rfl rfl (fun _ hS => (Jp rfl)) ?_
      refine Jw (k := 6) rfl rfl rfl rfl rfl (fun _ _ => (J9 rfl rfl rfl)) ?_; refine W6 (show _ = Value.int .i64 ((i % 8 : Nat) : Int) from congrArg (Value.int .i64) (by first | exact Ww _ _ | exact QI (by omega) (by decide) (by omega) | (rw [wrap_i64 (by omega) (by omega)]; omega))) ?_; refine Jw (k := 7) rfl rfl rfl rfl rfl (fun _ _ => yE (n := i % 8) (b := ((2 ^ (i % 8) : Nat) : Int)) rfl rfl rfl (show _ ≤ 8 from by omega) (Jm5 (by omega))) ?_; refine Jw (k := 8) rfl rfl rfl rfl rfl (fun _ _ => vl (op := .or) (m := (Y.getD (i / 8) 0).toNat) (n := 2 ^ (i % 8)) rfl rfl rfl (Vp _) (Nat.pow_lt_pow_right (by decide) (by omega) : 2 ^ (i % 8) < 2 ^ 8) rfl) ?_; refine W6 (Jg7 _ (by omega)) ?_; refine Jw (k := 9) rfl rfl rfl rfl rfl (fun _ _ => Kf (j := (i / 8)) (m := 1) (off' := (i / 8)) rfl rfl rfl rfl (by omega) (by omega) (by omega)) ?_; refine W8 (k := 10) (q := 0) (cs' := ((KO l N (i + 1)).map bV).toArray) rfl rfl rfl rfl rfl rfl rfl rfl (by simp; omega) (by rw [zi, hst1]) rfl (fun _ h => nomatch h) ?_; refine KA ?_; refine Jg (Jj (hK8 ?_)); clear hK8 K8; refine Ja ?_
      refine JV rfl ?_; refine Jz (show _ = Value.int .i64 ((i + 1 : Nat) : Int) from by rw [wrap_i64 (by omega) (by omega)]; congr 1 <;> omega) ?_; refine Ji rfl (Jg (J7 ?_)); exact J2 (i + 1) (by omega) (by omega) (.cons rfl (.cons rfl (.cons rfl (.cons rfl (.cons rfl .nil))))) (List.Sublist.refl _) (fun _ _ h => h)
    · try simp only [ZZ] at h11
      refine Jf (Jj (hK8 ?_)); clear hK8 K8; refine Ja ?_
      refine JV rfl ?_; refine Jz (show _ = Value.int .i64 ((i + 1 : Nat) : Int) from by rw [wrap_i64 (by omega) (by omega)]; congr 1 <;> omega) ?_; refine Ji rfl (Jg (J7 ?_))
      (have hst0 : KO l N (i + 1) = KO l N i := by rw [KO, if_neg (by simp_all)]
       exact J2 (i + 1) (by omega) (by omega) (.cons rfl (.cons rfl (.cons rfl (.cons rfl (.cons rfl .nil))))) (by rw [hst0]; exact List.Sublist.refl _) (fun _ _ h => h))
  · try simp only [ZZ] at h7
    refine JG (Jm ?_); clear hK6 K6; refine Jm (J0 (hK3 ?_)); clear hK3 K3; refine sQ fun K12 hK12 => ?_
    obtain rfl : i = l.length := by omega
    refine JR [] [(0, .pure), (2, .grow (Qr (Jhr (Yz (KO l N l.length))) (fun x => rV x) (fun x => rL x))), (3, .pure), (5, .pure), (6, .pure), (7, .pure), (8, .pure), (10, .pure)] 11 [0, 1, 3, 4, 5, 6, 7, 2, 8, 9, 10] (by kernel_rfl) (by kernel_rfl) (by first | exact (fun _ h => absurd h List.not_mem_nil) | simp [SubS] | (intro p hp; simp [hp])) ?_; refine Jw (k := 0) rfl rfl rfl rfl rfl (fun _ hS => (Jp rfl)) ?_; refine KV (k := 1) rfl rfl rfl rfl rfl (QN (b := KO l N l.length) (row := some (rm, N, [])) (e := 5) (show _ = some (JC (KO l N l.length).length _) from by rw [Vm]; rfl) ⟨by rw [List.length_map]; omega, by rw [Vm]; simp⟩ (fun p hp => .inl (by rw [List.mem_singleton.1 hp, List.append_nil]; exact List.mem_cons_self)) rfl rfl rfl) ?_
    refine Jw (k := 3) rfl rfl rfl rfl rfl (fun _ hS => (JM rfl rfl rfl)) ?_; refine KV (k := 4) rfl rfl rfl rfl rfl (Jk rfl (kn 1 rfl) rfl rfl) ?_
    refine Jw (k := 5) rfl rfl rfl rfl rfl (fun _ _ => (J9 rfl rfl rfl)) ?_; refine W6 (show _ = Value.int .i64 ((n + 8 : Nat) : Int) from congrArg (Value.int .i64) (by first | exact Ww _ _ | exact QI (by omega) (by decide) (by omega) | (rw [wrap_i64 (by omega) (by omega)]; omega))) ?_
    refine Jw (k := 6) rfl rfl rfl rfl rfl (fun _ _ => (J9 rfl rfl rfl)) ?_; refine W6 (show _ = Value.int .i64 ((n + 7 : Nat) : Int) from congrArg (Value.int .i64) (by first | exact Ww _ _ | exact QI (by omega) (by decide) (by omega) | (rw [wrap_i64 (by omega) (by omega)]; omega))) ?_
    refine Jw (k := 7) rfl rfl rfl rfl rfl (fun _ _ => (J9 rfl rfl rfl)) ?_; refine W6 (show _ = Value.int .i64 (((n + 7) / 8 : Nat) : Int) from congrArg (Value.int .i64) (by first | exact Ww _ _ | exact QI (by omega) (by decide) (by omega) | (rw [wrap_i64 (by omega) (by omega)]; omega))) ?_; refine KX (k := 2) rfl rfl rfl rfl rfl (enters_of Tryz.func172 (by kernel_rfl) rfl) hcut (fun q hq => nomatch hq) fun x => ?_; refine W7 (k := 8) rfl rfl rfl rfl rfl (enters_of Tryz.func173 (by kernel_rfl) rfl) (Jnd (n := (n + 7) / 8) (by omega)) ?_; rw [Jvh]; refine Qm (k := 9) rfl rfl rfl rfl rfl Jf4 (vu hnb (by omega) (Qe x.2 (by decide)) hc32) (fun q hq => .inl (List.mem_append_left _ hq)) ?_; refine Jw (k := 10) rfl rfl rfl rfl rfl (fun _ hS => (JO rfl)) ?_; refine KA ?_; refine nK hK12 ?_; clear hK12 K12; refine Jb (pT rfl rfl rfl fun w1 hs1 => ?_); exact ⟨rfl, hs1.keep⟩
section
variable {c : Cx} {l : Kl} {L E : Jq} {X : XP} {Q : Exit → Act → World → Prop} {d : List Deferred}
variable {ops : Array Oper} {rest : List Nat} {i k : Nat} {v : Value} {o : Oper} {tb : jl} {S : Jq} {T : Jq → Act → Prop}
theorem Jjm {f : Operand} {args : Array Operand} {at_ : Array TypeId} {g : FuncId} {vs : List Value} {Rl : Jq} {ty : TypeId} {ps : String} {af : Array Edge} {gd : Option (Nat × Bool)}
    (hk : Wi ops.toList k = some ⟨some i, .call ⟨.value f, args, at_⟩, ty, ps, af, gd⟩) (hg : Kg l ops ⟨some i, .call ⟨.value f, args, at_⟩, ty, ps, af, gd⟩ = some true) (hi : Nat.ble (i + 1) c.n = true) (hA : tb k = .pure) (hca : Kw l f args = some (g, vs)) (eg : Enters c.P g)
    (hp : PureR c.P g vs.toArray v Rl) (hR : ∀ p ∈ Rl, p ∈ S ∨ p ∈ c.R) (h : HB c d ((i, v) :: l) E X S ops tb rest T) : HB c d l E X S ops tb (k :: rest) T := fun a hf => by
  refine ⟨_, QG hk, ?_⟩; rw [hA]; exact ⟨v, .inl ⟨JA hf hg, fun E' hE' w hs => Xh hf hca eg ((hp.run w fun p hp => (hR p hp).elim (fun h => (hs.own _ (hE' p h)).2.2) hs.readR).mono fun _ _ ⟨he, hk⟩ => ⟨v, he, rfl, hk⟩)⟩, h _ (hf.put (Nat.le_of_ble_eq_true hi))⟩
end
theorem YX {k : Int} (h7 : k ≠ 7) (h8 : k ≠ 8) (x : Ty) (i : Nat) : JJ k 0 [x] i = x := by unfold JJ VV; rw [if_neg h7, if_neg h8]; rfl
theorem Jjn {l : List Vl} {x : Ty} {i : Nat} {v : Vl} (h : l[i]? = some v) : WT (l.take (i + 1)) x = WT (l.take i) x ++ Vo v x := by
  unfold WT
  rw [List.take_add_one, h]
  simp
theorem Jht {x : Ty} : ∀ {l : List Vl}, (∀ v ∈ l, (Vo v x).length ≤ 32) → (WT l x).length ≤ 32 * l.length
  | [], _ => by unfold WT; simp
  | v :: l, h => by
    have ih := Jht (l := l) fun y hy => h y (List.mem_cons_of_mem _ hy)
    have h1 := h v List.mem_cons_self
    unfold WT at ih ⊢
    rw [List.map_cons, List.flatten_cons, List.length_append, List.length_cons]; omega
theorem yj {x : Ty} {v : Vl} (hc : V2 x 0 = 0) (hp : Xq x = true) (hf : Ko v x = 0) : jo x v = (Vo v x, 0) ∧ (Vo v x).length ≤ 32 := by
  obtain ⟨f1, f2, f3, f4⟩ := Zq hc hp
  have h1 := f4 v hf
  have h2 : (Vo v x).length ≤ 32 := by omega
  have h3 : Vq x v = 0 := by unfold Vq; rw [if_pos hc]; exact hf
  unfold jo
  rw [if_neg (by rw [h3]; simp), if_neg (by omega)]; exact ⟨rfl, h2⟩
set_option maxHeartbeats 1000000 in
theorem Jvi {R : Jq} {k : Int} {n : Nat} {p pi : Pl} {x0 : Ty} {items : List Vl} (ht : Ty.In R (.mk k (n : Int) p [x0])) (h7 : k ≠ 7) (h8 : k ≠ 8) (hc : V2 x0 0 = 0) (hs : Seg R items.length (Qg items) pi) (hl : items.length ≤ n) (hn : n ≤ 512)
    (hfit : ∀ v ∈ items, Ko v x0 = 0) (hw : ∀ v ∈ items, wV v ≤ 20000) (hIn : ∀ v ∈ items, v.In R)
    (hb : ∀ (i : Nat) x, items[i]? = some x → PureR Tryz.prog 85 [x0.val, x.val].toArray (J3 (Kz x x0)) R) :
    PureR Tryz.prog 127 [Ty.val (.mk k (n : Int) p [x0]), KL items.length pi].toArray (J3 (WN k (n : Int) [x0] items (Kc items k 0 [x0] 0))) R := by
  have hro := zu ht h8 hs (by omega) (fun i _ => by unfold VV; rw [if_neg h7, if_neg h8]; exact Nat.lt_succ_self 0) (fun i x hx => by rw [YX h7 h8]; exact hb i x hx)
  have hrl := Ws items k 0 [x0] 0
  have hr32 : ∀ s ∈ Kc items k 0 [x0] 0, s.length = 32 := fun s hs => by
    obtain ⟨j, x, h1, rfl⟩ := Yc hs
    rw [YX h7 h8]; exact Yd x x0 0 hc (hfit x (List.mem_of_getElem? h1))
  have hrt := fun (x : jH (Kc items k 0 [x0] 0)) => vu (m := n) (by omega) (by omega) (Qe (e := 9) x.2 (by decide)) hr32
  have hM : WN k (n : Int) [x0] items (Kc items k 0 [x0] 0) = if Xq x0 = true then QX (Yz (WT items x0)) ((n * (JS x0).toNat + 31) / 32) else QX (Kc items k 0 [x0] 0) n := by
    unfold WN
    rw [if_neg h7]; rfl
  rw [hM]
  have hx0 := ht.sub x0 List.mem_cons_self
  have ht2 := ht
  cases ht with
  | @mk k n p ins hk hn2 hlt hst hit =>
  have hpl := Jog x0
  refine Je Tryz.func127 rfl rfl fun w => ?_; refine sR fun _ hK1 => ?_; refine LN rfl fun r1 => ?_; refine Ji rfl (nK hK1 ?_); refine sQ fun _ hK2 => sR fun _ hK3 => ?_; refine LS 2 [0] rfl rfl ?_
  refine LR rfl (Js (j := 0) rfl hst rfl rfl rfl (by first | rfl | omega) (Nat.lt_succ_self 0)) ?_; refine LR rfl (KU (fun q hq => Or.inr hq) rfl hst (show [x0][0]? = some x0 from rfl) rfl rfl) ?_; refine JD rfl rfl rfl (enters_of Tryz.func171 (by kernel_rfl) rfl) hpl ?_; refine JV rfl (nK hK3 ?_); refine Jc rfl (fun h4 => ?_) (fun h4 => ?_)
  try simp only [ZZ] at h4
  refine sQ fun _ hK5 => ?_
  refine JR [] [(1, .pure), (2, .grow (Qr (Jhr (Kc items k 0 [x0] 0)) (fun x => rV x) (fun x => rL x))), (3, .pure), (6, .pure)] 7 [0, 1, 3, 4, 2, 5, 6] (by kernel_rfl) (by kernel_rfl) (by first | exact (fun _ h => absurd h List.not_mem_nil) | simp [SubS] | (intro p hp; simp [hp])) ?_; refine KV (k := 0) rfl rfl rfl rfl rfl (Jo (xs := (Ty.mk k (n : Int) p [x0]).cells) (n := 3) rfl (kn 0 rfl) rfl rfl (Ty.mk k (n : Int) p [x0]).len) ?_; refine Jw (k := 1) rfl rfl rfl rfl rfl (fun _ hS => (Jp rfl)) ?_
  refine Jw (k := 3) rfl rfl rfl rfl rfl (fun _ hS => (JM rfl rfl rfl)) ?_; refine KV (k := 4) rfl rfl rfl rfl rfl (Jk rfl (kn 0 rfl) rfl rfl) ?_; refine KX (k := 2) rfl rfl rfl rfl rfl (enters_of Tryz.func135 (by kernel_rfl) rfl) hro (fun q hq => .inr hq) fun x => ?_; refine Qm (k := 5) rfl rfl rfl rfl rfl Jf4 (hrt x) (fun q hq => .inl (List.mem_append_left _ hq)) ?_; refine Jw (k := 6) rfl rfl rfl rfl rfl (fun _ hS => (JO rfl)) ?_; refine KA ?_; refine nK hK5 (Jb (Jd ?_)); refine pT rfl rfl rfl fun w1 hs1 => ?_; refine ⟨?_, hs1.keep⟩; rw [if_neg (by rw [Bool.not_eq_true]; assumption)]; rfl
  · try simp only [ZZ] at h4
    refine Jf (hK2 ?_); refine sQ fun _ hK6 => ?_
    have hp : Xq x0 = true := by assumption
    obtain ⟨f1, f2, f3, f4⟩ := Zq hc hp
    obtain ⟨z, hz⟩ : ∃ z, z = (JS x0).toNat := ⟨_, rfl⟩
    have hSz := Jem hx0
    have hsz : vZ x0 = (z : Int) := by unfold vZ; rw [if_pos f1]; omega
    rw [hsz] at hSz
    have hnz : n * z ≤ 16384 := by
      have := Nat.mul_le_mul hn (show z ≤ 32 by omega)
      omega
    obtain ⟨C, hC⟩ : ∃ C, C = WT items x0 := ⟨_, rfl⟩
    have hCl : C.length = items.length * z := by rw [hC]; exact j9 fun v hv => by have := f4 v (hfit v hv); omega
    have hCn : C.length ≤ n * z := by rw [hCl]; exact Nat.mul_le_mul_right _ hl
    have hcn : (Yz C).length ≤ (n * z + 31) / 32 := by rw [YM]; unfold xU; omega
    refine Ja (LN rfl fun r2 => ?_); refine nK hK6 (sQ fun _ hK7 => ?_); refine sR fun _ hK8 => Ji rfl (LR rfl (J4 rfl hs rfl) (Ji rfl ?_)); refine nK hK8 ?_; refine Jt (JK (σ := Nat × Vu × Bool) (fun q => q.1 ≤ items.length ∧ bOk (WT (items.take q.1) x0) q.2.1) (fun q => [(2, V6 r1), (5, V6 r2), (22, KL items.length pi), (23, .int .i64 (items.length : Int)), (24, .int .i64 (q.1 : Int))]) (fun q => WM r2 (WT (items.take q.1) x0) q.2.1 q.2.2 ++ [VF r1 (Ty.mk k (n : Int) p [x0])]) (fun _ _ _ => True) (fun q => items.length - q.1) (0, none, false) ⟨Nat.zero_le _, xT⟩ (.cons rfl (.cons rfl (.cons rfl (.cons rfl (.cons rfl .nil))))) (List.Sublist.refl _) (fun _ _ h => h) ?_); rintro ⟨i, row, own⟩ ⟨hi1, hb1⟩; simp only at hi1 hb1; change HC _ _ [(2, _), (5, _), (22, _), (23, _), (24, .int .i64 (i : Int))] (WM r2 (WT (items.take i) x0) row own ++ [VF r1 (Ty.mk k (n : Int) p [x0])]) _ _ _; refine sR fun _ hK9 => JV rfl (nK hK9 ?_); refine sQ fun _ hK10 => ?_; refine Jc rfl (fun h11 => ?_) (fun h11 => ?_)
    · try simp only [ZZ] at h11
      refine Jf (hK10 ?_); refine sB fun _ hK12 => sQ fun _ hK13 => ?_
      have hil : i < items.length := by omega
      have hix := X8 hil
      have hpr := yj hc hp (hfit _ hix.2)
      have hput := Jm8 hx0 (hIn _ hix.2) (hw _ hix.2)
      rw [hpr.1] at hput
      have hsn := Jjn (x := x0) hix.1
      have hcl := Jht (x := x0) (l := items.take i) fun v hv => (yj hc hp (hfit v (List.mem_of_mem_take hv))).2
      rw [List.length_take] at hcl
      have hp2 := hpr.2
      refine Ja ?_
      refine LR rfl (Js (j := i) rfl hs rfl rfl rfl (by first | rfl | omega) (by omega)) ?_; refine LR rfl (QE (fun q hq => Or.inr hq) rfl hs hix.1 rfl rfl) ?_; refine QC (cs := #[.int .u64 0, .int .u64 0, .int .u64 0, .int .u64 0, .slice none 0 0, .slice none 0 0, .int .i64 0]) rfl rfl rfl rfl fun rv => ?_; refine Jy (k := 0) (n := 7) (ys := (X7 items i).cells) rfl rfl rfl rfl rfl (X7 items i).len rfl (X7 items i).one rfl ?_; refine nK hK13 (sQ fun _ hK14 => ?_); refine JX 11 (by kernel_rfl) (by kernel_rfl) ?_
      refine Jl rfl rfl rfl (JM rfl rfl rfl) ?_; refine Jl rfl rfl rfl (Jk (v := KL 1 p) rfl (.inl (List.mem_cons_of_mem _ (List.mem_append_right _ List.mem_cons_self))) rfl rfl) ?_
      refine Jl rfl rfl rfl (Js (j := 0) rfl hst rfl rfl rfl (by first | rfl | omega) (Nat.lt_succ_self 0)) ?_; refine Jl rfl rfl rfl (KU (fun q hq => Or.inr hq) rfl hst (show [x0][0]? = some x0 from rfl) rfl rfl) ?_; refine Jl rfl rfl rfl (Jo (xs := (X7 items i).cells) (n := 7) rfl (kn 0 rfl) rfl rfl (X7 items i).len) ?_; refine XS rfl rfl rfl (enters_of Tryz.func52 (by kernel_rfl) rfl) hput (fun q hq => Or.inr hq) ?_; refine Jl rfl rfl rfl (Jp rfl) ?_; refine Jl rfl rfl rfl (Qf rfl rfl) ?_; refine Jl rfl rfl rfl (Qf rfl rfl) ?_; refine Jl rfl rfl rfl (JO rfl) ?_; refine Jl rfl rfl rfl (JO rfl) ?_; refine Ky ?_; refine nK hK14 ?_; refine Ja (Ji rfl (Vh (T := WM r2 (WT (items.take i) x0) row own) (L0 := _ :: [VF r1 (Ty.mk k (n : Int) p [x0])]) (Rl := []) List.perm_middle.symm rfl rfl rfl Jf2 (vv hb1 (s2 := Vo (X7 items i) x0) (by omega)) (fun q hq => nomatch hq) fun x => ?_))
      obtain ⟨rowx, hbx⟩ := x
      refine Jg (Jj (hK12 ?_)); refine Ja ?_
      refine JV rfl ?_; refine Jz (show _ = Value.int .i64 ((i + 1 : Nat) : Int) from by rw [wrap_i64 (by omega) (by omega)]; congr 1 <;> omega) ?_; refine Ji rfl (Jg (J7 ?_)); refine j0 (L' := WM r2 (WT (items.take (i + 1)) x0) rowx true ++ [VF r1 (Ty.mk k (n : Int) p [x0])]) (by rw [hsn]; exact (List.Sublist.refl _).append (.cons _ (List.Sublist.refl _))) ?_; exact J2 (i + 1, rowx, true) ⟨by simp only; omega, by simp only; rw [hsn]; exact hbx⟩ (by simp only; omega) (.cons rfl (.cons rfl (.cons rfl (.cons rfl (.cons rfl .nil))))) (List.Sublist.refl _) (fun _ _ h => h)
    · try simp only [ZZ] at h11
      refine JG (Jm ?_); refine Jm (J0 (hK7 ?_)); refine sQ fun _ hK15 => ?_
      obtain rfl : i = items.length := by omega
      rw [List.take_length, ← hC] at hb1; rw [List.take_length, ← hC]; refine JR [VF r1 (Ty.mk k (n : Int) p [x0])] [(0, .turn), (1, .grow (Qr (Jhr (Yz C)) (fun x => rV x) (fun x => rL x))), (2, .pure), (3, .pure), (4, .pure), (5, .pure), (6, .pure), (7, .pure), (8, .pure), (9, .pure), (10, .pure)] 11 [2, 3, 4, 5, 6, 7, 0, 1, 8, 9, 10] (by kernel_rfl) (by kernel_rfl) (fun p hp => List.mem_append_right _ hp) ?_
      refine Jw (k := 2) rfl rfl rfl rfl rfl (fun _ hS => (JM rfl rfl rfl)) ?_; refine Jw (k := 3) rfl rfl rfl rfl rfl (fun E' hS => Jk (v := .int .i64 (n : Int)) rfl (.inl (hS _ List.mem_cons_self)) rfl rfl) ?_
      refine Jw (k := 4) rfl rfl rfl rfl rfl (fun _ hS => (JM rfl rfl rfl)) ?_; refine Jw (k := 5) rfl rfl rfl rfl rfl (fun E' hS => Jk (v := KL 1 p) rfl (.inl (hS _ List.mem_cons_self)) rfl rfl) ?_
      refine Jw (k := 6) rfl rfl rfl rfl rfl (fun E' hS => Js (j := 0) rfl hst rfl rfl rfl (by first | rfl | omega) (Nat.lt_succ_self 0)) ?_; refine Jw (k := 7) rfl rfl rfl rfl rfl (fun E' hS => KU (fun q hq => Or.inr hq) rfl hst (show [x0][0]? = some x0 from rfl) rfl rfl) ?_; refine Joc (k := 0) (T0 := WM r2 C row own) (L0 := [VF r1 (Ty.mk k (n : Int) p [x0])]) (Rl := []) (List.Perm.refl _) rfl rfl rfl rfl rfl Jk8 (Jfa hb1 (by omega)) (fun q hq => nomatch hq) (fun _ p hp => hp) fun u => ?_; refine KX (k := 1) rfl rfl rfl rfl rfl (enters_of Tryz.func172 (by kernel_rfl) rfl) (Jof (s := C) (by omega)) (fun q hq => nomatch hq) fun x => ?_; refine Jjm (k := 8) rfl rfl rfl rfl rfl Jld hSz (fun q hq => .inr hq) ?_; refine Jw (k := 9) rfl rfl rfl rfl rfl (fun _ _ => (J9 rfl rfl rfl)) ?_; refine W6 (show _ = Value.int .i64 ((n * z : Nat) : Int) from congrArg (Value.int .i64) (by rw [← Int.natCast_mul]; exact wrap_i64 (by omega) (by omega))) ?_; refine W7 (k := 10) rfl rfl rfl rfl rfl (enters_of Tryz.func173 (by kernel_rfl) rfl) (Jnd (n := n * z) (by omega)) ?_; refine KA ?_; refine Jh rfl rfl rfl Jf4 (vu hcn (by omega) (Qe x.2 (by decide)) (Zp _)) (fun q hq => .inl (List.mem_append_left _ hq)) ?_; refine Ji rfl (nK hK15 ?_); refine Jb (pT rfl rfl rfl fun w1 hs1 => ?_); refine ⟨?_, hs1.keep⟩; rw [if_pos hp, ← hz, ← hC]; rfl
section
variable {R : Jq} {k n : Int} {p : Pl} {ins : List Ty} {a b c d : Nat} {bits : List Bool} {pb : Pl} {items : List Vl} {pi : Pl} {pick : Int} {s : BS}
theorem Jye (h : PureR Tryz.prog 127 [Ty.val (.mk k n p ins), KL items.length pi].toArray (J3 s) R) : PureR Tryz.prog 126 [Ty.val (.mk k n p ins), Vl.val (.mk a b c d bits pb items pi pick)].toArray (J3 s) R := by
  refine Je Tryz.func126 rfl rfl fun w => ?_; refine sR fun _ hK1 => ?_; refine LN rfl fun r1 => ?_; refine LN rfl fun r2 => ?_; refine Ji rfl (nK hK1 ?_); refine sR fun _ hK2 => ?_; refine LR rfl (Jo (xs := (Ty.mk k n p ins).cells) (n := 3) rfl (kn 1 rfl) rfl rfl (Ty.mk k n p ins).len) ?_
  refine LS 2 [0] rfl rfl ?_; refine Jh rfl rfl rfl (enters_of Tryz.func127 (by kernel_rfl) rfl) h (fun q hq => Or.inr hq) ?_; refine Ji rfl (nK hK2 ?_); refine Jb (pT rfl rfl rfl fun w1 hs1 => ?_); exact ⟨rfl, hs1.keep⟩
theorem Jyf (hs : Seg R items.length (Qg items) pi) (h32 : s.length = 32) (hl : items.length ≤ 512) (h : PureR Tryz.prog 127 [Ty.val (.mk k n p ins), KL items.length pi].toArray (J3 s) R) : PureR Tryz.prog 128 [Ty.val (.mk k n p ins), Vl.val (.mk a b c d bits pb items pi pick)].toArray (J3 (XK s items.length)) R := by
  refine Je Tryz.func128 rfl rfl fun w => ?_; refine sR fun _ hK1 => ?_; refine LN rfl fun r1 => ?_; refine LN rfl fun r2 => ?_; refine Ji rfl (nK hK1 ?_); refine sQ fun _ hK2 => ?_
  refine JR [] [(1, .pure), (4, .pure), (6, .pure), (7, .pure), (8, .pure)] 9 [0, 1, 2, 4, 5, 6, 3, 7, 8] (by kernel_rfl) (by kernel_rfl) (by first | exact (fun _ h => absurd h List.not_mem_nil) | simp [SubS] | (intro p hp; simp [hp])) ?_; refine KV (k := 0) rfl rfl rfl rfl rfl (Jo (xs := (Ty.mk k n p ins).cells) (n := 3) rfl (kn 1 rfl) rfl rfl (Ty.mk k n p ins).len) ?_
  refine Jw (k := 1) rfl rfl rfl rfl rfl (fun _ hS => (JM rfl rfl rfl)) ?_; refine KV (k := 2) rfl rfl rfl rfl rfl (Jk rfl (kn 0 rfl) rfl rfl) ?_
  refine Jw (k := 4) rfl rfl rfl rfl rfl (fun _ hS => (JM rfl rfl rfl)) ?_; refine KV (k := 5) rfl rfl rfl rfl rfl (Jk rfl (kn 0 rfl) rfl rfl) ?_; refine Jw (k := 6) rfl rfl rfl rfl rfl (fun _ hS => (J4 rfl hs rfl)) ?_; refine Qm (k := 3) rfl rfl rfl rfl rfl (enters_of Tryz.func127 (by kernel_rfl) rfl) h (fun q hq => Or.inr hq) ?_; refine W7 (k := 7) rfl rfl rfl rfl rfl Jlb (Jm1 (by omega) (by omega)) ?_; refine Jw (k := 8) rfl rfl rfl rfl rfl (fun _ hS => (JO rfl)) ?_; refine KA ?_; refine nK hK2 (Jb ?_); refine pT rfl rfl rfl fun w1 hs1 => ?_; exact ⟨rfl, hs1.keep⟩
theorem Jyg (h : PureR Tryz.prog 131 [Ty.val (.mk k n p ins), KL bits.length pb].toArray (J3 s) R) : PureR Tryz.prog 130 [Ty.val (.mk k n p ins), Vl.val (.mk a b c d bits pb items pi pick)].toArray (J3 s) R := by
  refine Je Tryz.func130 rfl rfl fun w => ?_; refine sR fun _ hK1 => ?_; refine LN rfl fun r1 => ?_; refine LN rfl fun r2 => ?_; refine Ji rfl (nK hK1 ?_); refine sR fun _ hK2 => ?_; refine LR rfl (Jo (xs := (Ty.mk k n p ins).cells) (n := 3) rfl (kn 1 rfl) rfl rfl (Ty.mk k n p ins).len) ?_
  refine LS 2 [0] rfl rfl ?_; refine Jh rfl rfl rfl (enters_of Tryz.func131 (by kernel_rfl) rfl) h (fun q hq => Or.inr hq) ?_; refine Ji rfl (nK hK2 ?_); refine Jb (pT rfl rfl rfl fun w1 hs1 => ?_); exact ⟨rfl, hs1.keep⟩
theorem Jyh (hs : Seg R bits.length (Qw bits) pb) (h32 : s.length = 32) (hl : bits.length ≤ 512) (h : PureR Tryz.prog 131 [Ty.val (.mk k n p ins), KL bits.length pb].toArray (J3 s) R) : PureR Tryz.prog 132 [Ty.val (.mk k n p ins), Vl.val (.mk a b c d bits pb items pi pick)].toArray (J3 (XK s bits.length)) R := by
  refine Je Tryz.func132 rfl rfl fun w => ?_; refine sR fun _ hK1 => ?_; refine LN rfl fun r1 => ?_; refine LN rfl fun r2 => ?_; refine Ji rfl (nK hK1 ?_); refine sQ fun _ hK2 => ?_
  refine JR [] [(1, .pure), (4, .pure), (6, .pure), (7, .pure), (8, .pure)] 9 [0, 1, 2, 4, 5, 6, 3, 7, 8] (by kernel_rfl) (by kernel_rfl) (by first | exact (fun _ h => absurd h List.not_mem_nil) | simp [SubS] | (intro p hp; simp [hp])) ?_; refine KV (k := 0) rfl rfl rfl rfl rfl (Jo (xs := (Ty.mk k n p ins).cells) (n := 3) rfl (kn 1 rfl) rfl rfl (Ty.mk k n p ins).len) ?_
  refine Jw (k := 1) rfl rfl rfl rfl rfl (fun _ hS => (JM rfl rfl rfl)) ?_; refine KV (k := 2) rfl rfl rfl rfl rfl (Jk rfl (kn 0 rfl) rfl rfl) ?_
  refine Jw (k := 4) rfl rfl rfl rfl rfl (fun _ hS => (JM rfl rfl rfl)) ?_; refine KV (k := 5) rfl rfl rfl rfl rfl (Jk rfl (kn 0 rfl) rfl rfl) ?_; refine Jw (k := 6) rfl rfl rfl rfl rfl (fun _ hS => (J4 rfl hs rfl)) ?_; refine Qm (k := 3) rfl rfl rfl rfl rfl (enters_of Tryz.func131 (by kernel_rfl) rfl) h (fun q hq => Or.inr hq) ?_; refine W7 (k := 7) rfl rfl rfl rfl rfl Jlb (Jm1 (by omega) (by omega)) ?_; refine Jw (k := 8) rfl rfl rfl rfl rfl (fun _ hS => (JO rfl)) ?_; refine KA ?_; refine nK hK2 (Jb ?_); refine pT rfl rfl rfl fun w1 hs1 => ?_; exact ⟨rfl, hs1.keep⟩
theorem Jyi {l : List BS} (hst : Seg R ins.length (zX ins) p) (hl : l.length ≤ ins.length) (hn : ins.length ≤ 16) (h32 : ∀ s ∈ l, s.length = 32) (h : PureT (α := jH l) Tryz.prog 135 [Ty.val (.mk k n p ins), KL items.length pi].toArray (fun x => rV x) [] (fun x => rL x) R) :
    PureR Tryz.prog 133 [Ty.val (.mk k n p ins), Vl.val (.mk a b c d bits pb items pi pick)].toArray (J3 (QX l ins.length)) R := by
  refine Je Tryz.func133 rfl rfl fun w => ?_; refine sR fun _ hK1 => ?_; refine LN rfl fun r1 => ?_; refine LN rfl fun r2 => ?_; refine Ji rfl (nK hK1 ?_); refine sQ fun _ hK2 => ?_
  refine JR [] [(1, .pure), (3, .grow (Qr (Jhr l) (fun x => rV x) (fun x => rL x))), (4, .pure), (6, .pure), (8, .pure)] 9 [0, 1, 2, 4, 5, 6, 3, 7, 8] (by kernel_rfl) (by kernel_rfl) (by first | exact (fun _ h => absurd h List.not_mem_nil) | simp [SubS] | (intro p hp; simp [hp])) ?_; refine KV (k := 0) rfl rfl rfl rfl rfl (Jo (xs := (Ty.mk k n p ins).cells) (n := 3) rfl (kn 1 rfl) rfl rfl (Ty.mk k n p ins).len) ?_
  refine Jw (k := 1) rfl rfl rfl rfl rfl (fun _ hS => (JM rfl rfl rfl)) ?_; refine KV (k := 2) rfl rfl rfl rfl rfl (Jk rfl (kn 0 rfl) rfl rfl) ?_
  refine Jw (k := 4) rfl rfl rfl rfl rfl (fun _ hS => (JM rfl rfl rfl)) ?_; refine KV (k := 5) rfl rfl rfl rfl rfl (Jk rfl (kn 1 rfl) rfl rfl) ?_; refine Jw (k := 6) rfl rfl rfl rfl rfl (fun _ hS => (J4 rfl hst rfl)) ?_; refine KX (k := 3) rfl rfl rfl rfl rfl (enters_of Tryz.func135 (by kernel_rfl) rfl) h (fun q hq => .inr hq) fun x => ?_; refine Qm (k := 7) rfl rfl rfl rfl rfl Jf4 (vu hl (by omega) (Qe x.2 (by decide)) h32) (fun q hq => .inl (List.mem_append_left _ hq)) ?_; refine Jw (k := 8) rfl rfl rfl rfl rfl (fun _ hS => (JO rfl)) ?_; refine KA ?_; refine nK hK2 (Jb ?_); refine pT rfl rfl rfl fun w1 hs1 => ?_; exact ⟨rfl, hs1.keep⟩
theorem Jyj {m : Nat} {y : Ty} {x : Vl} (hst : Seg R ins.length (zX ins) p) (hs : Seg R items.length (Qg items) pi) (hm : m ≤ 8) (hy : ins[m]? = some y) (hx : items[0]? = some x) (h32 : s.length = 32) (h : PureR Tryz.prog 85 [y.val, x.val].toArray (J3 s) R) :
    PureR Tryz.prog 136 [Ty.val (.mk k n p ins), Vl.val (.mk a b c d bits pb items pi (m : Int))].toArray (J3 (XK s m)) R := by
  have hm1 := (List.getElem?_eq_some_iff.1 hy).1
  have hm2 := (List.getElem?_eq_some_iff.1 hx).1
  refine Je Tryz.func136 rfl rfl fun w => ?_; refine sR fun _ hK1 => ?_; refine LN rfl fun r1 => ?_; refine LN rfl fun r2 => ?_; refine Ji rfl (nK hK1 ?_); refine sQ fun _ hK2 => ?_
  refine JR [] [(0, .pure), (2, .pure), (4, .pure), (6, .pure), (8, .pure), (11, .pure), (13, .pure), (14, .pure)] 15 [0, 1, 2, 3, 4, 5, 6, 7, 8, 9, 11, 12, 10, 13, 14] (by kernel_rfl) (by kernel_rfl) (by first | exact (fun _ h => absurd h List.not_mem_nil) | simp [SubS] | (intro p hp; simp [hp])) ?_
  refine Jw (k := 0) rfl rfl rfl rfl rfl (fun _ hS => (JM rfl rfl rfl)) ?_; refine KV (k := 1) rfl rfl rfl rfl rfl (Jk rfl (kn 1 rfl) rfl rfl) ?_
  refine Jw (k := 2) rfl rfl rfl rfl rfl (fun _ hS => (JM rfl rfl rfl)) ?_; refine KV (k := 3) rfl rfl rfl rfl rfl (Jk rfl (kn 0 rfl) rfl rfl) ?_; refine Jw (k := 4) rfl rfl rfl rfl rfl (fun E' hS => Js (j := m) rfl hst rfl rfl rfl rfl hm1) ?_; refine KV (k := 5) rfl rfl rfl rfl rfl (KU (fun q hq => Or.inr hq) rfl hst hy rfl rfl) ?_
  refine Jw (k := 6) rfl rfl rfl rfl rfl (fun _ hS => (JM rfl rfl rfl)) ?_; refine KV (k := 7) rfl rfl rfl rfl rfl (Jk rfl (kn 0 rfl) rfl rfl) ?_
  refine Jw (k := 8) rfl rfl rfl rfl rfl (fun E' hS => Js (j := 0) rfl hs rfl rfl rfl (by first | rfl | omega) hm2) ?_; refine KV (k := 9) rfl rfl rfl rfl rfl (QE (fun q hq => Or.inr hq) rfl hs hx rfl rfl) ?_
  refine Jw (k := 11) rfl rfl rfl rfl rfl (fun _ hS => (JM rfl rfl rfl)) ?_; refine KV (k := 12) rfl rfl rfl rfl rfl (Jk rfl (kn 0 rfl) rfl rfl) ?_; refine Qm (k := 10) rfl rfl rfl rfl rfl Jqb h (fun q hq => Or.inr hq) ?_; refine W7 (k := 13) rfl rfl rfl rfl rfl Jlb (Jm1 (by omega) (by omega)) ?_; refine Jw (k := 14) rfl rfl rfl rfl rfl (fun _ hS => (JO rfl)) ?_; refine KA ?_; refine nK hK2 (Jb ?_); refine pT rfl rfl rfl fun w1 hs1 => ?_; exact ⟨rfl, hs1.keep⟩
theorem XC {g : FuncId} (hlk : QM Y4 (.int .i64 k) (rootM.toList.map XD) = some (.func (.func g) #[] #[])) (eg : Enters Tryz.prog g) (hg : PureR Tryz.prog g [Ty.val (.mk k n p ins), Vl.val (.mk a b c d bits pb items pi pick)].toArray (J3 s) R) :
    PureR Tryz.prog 85 [Ty.val (.mk k n p ins), Vl.val (.mk a b c d bits pb items pi pick)].toArray (J3 s) R := by
  refine Je Tryz.func85 rfl rfl fun w => ?_; refine sR fun _ hK1 => ?_; refine LN rfl fun r1 => ?_; refine LN rfl fun r2 => ?_; refine Ji rfl (nK hK1 ?_); refine sR fun _ hK2 => ?_; refine wb rfl rfl fun rm => ?_; refine KW (q := 0) (key := .int .i64 1) (val := .func (.func 125) #[] #[]) (Xx (t := 3) (by kernel_rfl)) rfl rfl rfl rfl rfl rfl ⟨_, rfl⟩ (by intro e he; simp at he) rfl rfl ?_
  refine KW (q := 0) (key := .int .i64 2) (val := .func (.func 125) #[] #[]) (Xx (t := 3) (by kernel_rfl)) rfl rfl rfl rfl rfl rfl ⟨_, rfl⟩ (by intro e he; simp at he; rcases he with rfl <;> exact ⟨_, rfl⟩) rfl rfl ?_
  refine KW (q := 0) (key := .int .i64 3) (val := .func (.func 126) #[] #[]) (Xx (t := 3) (by kernel_rfl)) rfl rfl rfl rfl rfl rfl ⟨_, rfl⟩ (by intro e he; simp at he; rcases he with rfl | rfl <;> exact ⟨_, rfl⟩) rfl rfl ?_
  refine KW (q := 0) (key := .int .i64 4) (val := .func (.func 128) #[] #[]) (Xx (t := 3) (by kernel_rfl)) rfl rfl rfl rfl rfl rfl ⟨_, rfl⟩ (by intro e he; simp at he; rcases he with rfl | rfl | rfl <;> exact ⟨_, rfl⟩) rfl rfl ?_
  refine KW (q := 0) (key := .int .i64 5) (val := .func (.func 130) #[] #[]) (Xx (t := 3) (by kernel_rfl)) rfl rfl rfl rfl rfl rfl ⟨_, rfl⟩ (by intro e he; simp at he; rcases he with rfl | rfl | rfl | rfl <;> exact ⟨_, rfl⟩) rfl rfl ?_
  refine KW (q := 0) (key := .int .i64 6) (val := .func (.func 132) #[] #[]) (Xx (t := 3) (by kernel_rfl)) rfl rfl rfl rfl rfl rfl ⟨_, rfl⟩ (by intro e he; simp at he; rcases he with rfl | rfl | rfl | rfl | rfl <;> exact ⟨_, rfl⟩) rfl rfl ?_
  refine KW (q := 0) (key := .int .i64 7) (val := .func (.func 133) #[] #[]) (Xx (t := 3) (by kernel_rfl)) rfl rfl rfl rfl rfl rfl ⟨_, rfl⟩ (by intro e he; simp at he; rcases he with rfl | rfl | rfl | rfl | rfl | rfl <;> exact ⟨_, rfl⟩) rfl rfl ?_
  refine KW (q := 0) (key := .int .i64 8) (val := .func (.func 136) #[] #[]) (Xx (t := 3) (by kernel_rfl)) rfl rfl rfl rfl rfl rfl ⟨_, rfl⟩ (by intro e he; simp at he; rcases he with rfl | rfl | rfl | rfl | rfl | rfl | rfl <;> exact ⟨_, rfl⟩) rfl rfl ?_; change HL _ _ _ ((rm, .map rootM 8) :: _) _ _ _ _; refine LS 2 [] rfl rfl (nK hK2 ?_); refine sR fun _ hK3 => Ji rfl ?_
  refine LS 2 [2] rfl rfl ?_; refine LR rfl (XO (v := .func (.func g) #[] #[]) (Xx (t := 3) (by kernel_rfl)) rfl rfl (kn 0 rfl) rfl rfl ⟨_, rfl⟩ Ji3 (by show (QM Y4 (.int .i64 k) (rootM.toList.map XD)).getD _ = _; rw [hlk]; rfl)) ?_; refine LS 2 [2, 1] rfl rfl ?_; refine Jh rfl rfl rfl eg hg (fun q hq => Or.inr hq) ?_; refine Ji rfl (nK hK3 ?_); refine Jb (pT rfl rfl rfl fun w1 hs1 => ?_); exact ⟨rfl, hs1.keep⟩
end
theorem Jjo {l : List Vl} {k pick : Int} {ins : List Ty} (h : l.length = 1) : (Kc l k pick ins 0).headD [] = Kz (X7 l 0) (JJ k pick ins 0) := by
  match l, h with
  | [x], _ => rw [Kc]; rfl
theorem Joh {a b c d : Nat} {bits : List Bool} {pb : Pl} {items : List Vl} {pi : Pl} {pick k n : Int} {p : Pl} {ins : List Ty} (hcz : V2 (.mk k n p ins) 0 = 0) (hfit : Ko (.mk a b c d bits pb items pi pick) (.mk k n p ins) = 0) (hk : k = 3 ∨ k = 4 ∨ k = 7) : (WN k n ins items (Kc items k 0 ins 0)).length = 32 := by
  obtain ⟨q1, q2, q3⟩ := wJ hcz hfit
  have hrow := fun (j : Nat) x (h : items[j]? = some x) => Jg9 hcz hfit (by omega) h
  have hrs : ∀ s ∈ Kc items k 0 ins 0, s.length = 32 := fun s hs => by
    obtain ⟨j, x, h1, rfl⟩ := Yc hs
    rw [Nat.zero_add]
    obtain ⟨_, r1, r2, r3⟩ := hrow j x h1
    exact Yd x _ 0 r2 r3
  have hrl := Ws items k 0 ins 0
  unfold WN
  by_cases h7 : k = 7
  · rw [if_pos h7]
    exact VT (by have := q3 h7; omega) hrs
  · rw [if_neg h7]
    obtain ⟨w1, w2, w3, w4⟩ := q1 (by omega)
    match ins, w4 with
    | [x0], _ =>
    rw [show [x0].getD 0 default = x0 from rfl]
    by_cases hp : Xq x0 = true
    · rw [if_pos hp]
      have hc0 := XA hcz _ List.mem_cons_self
      obtain ⟨f1, f2, f3, f4⟩ := Zq hc0 hp
      refine VT ?_ (Zp _); rw [YM]
      unfold xU
      have hz : ∀ v ∈ items, (Vo v x0).length = (JS x0).toNat := fun v hv => by
        obtain ⟨j, hj⟩ := List.getElem?_of_mem hv
        have hg := (hrow j v hj).2.2.2
        rw [YX h7 (by omega)] at hg
        have := f4 v hg
        omega
      rw [j9 hz]
      have hm : items.length * (JS x0).toNat ≤ n.toNat * (JS x0).toNat := Nat.mul_le_mul_right _ (by omega)
      omega
    · rw [if_neg hp]
      exact VT (by omega) hrs
set_option maxHeartbeats 1000000 in
theorem Jvj {R : Jq} {v : Vl} (hv : v.In R) : ∀ (t : Ty) (dp : Nat), t.In R → V2 t (dp : Int) = 0 → Ko v t = 0 → wV v ≤ 20000 → PureR Tryz.prog 85 [t.val, v.val].toArray (J3 (Kz v t)) R := by
  have hv0 := hv
  induction hv with
  | @mk a b c d bits pb items pi pick ha hb hcc hd hlb hsb hl hs hp hi ih =>
  intro t dp ht hck hfit hw
  obtain ⟨k, n, p, ins⟩ := t
  have ht0 := ht
  cases ht with
  | mk hk hn hlt hst hit =>
  obtain ⟨hk8, ho, h6, hci⟩ := QO hck
  obtain ⟨hf1, hf2, hf3⟩ := WY hfit
  obtain ⟨m1, m2, m3, m4⟩ := Jc1 hck hfit
  obtain ⟨q1, q2, q3⟩ := wJ hck hfit
  have hcz := wI hck
  have hrow := fun (h8 : k ≠ 8) (j : Nat) x (h : items[j]? = some x) => Jg9 hcz hfit h8 h
  have hwi : ∀ x ∈ items, wV x ≤ 20000 := fun x hx => Nat.le_trans (Jfb hx) hw
  have hrec : k ≠ 8 → ∀ (i : Nat) x, items[i]? = some x → PureR Tryz.prog 85 [(JJ k 0 ins i).val, x.val].toArray (J3 (Kz x (JJ k 0 ins i))) R := fun h8 i x hx => by
    obtain ⟨_, r1, r2, r3⟩ := hrow h8 i x hx
    have hm := List.mem_of_getElem? hx
    exact ih x hm (hi x hm) _ 0 (hit _ r1) r2 r3 (hwi x hm)
  have hlen := Yd _ _ dp hck hfit
  rw [WF] at hlen ⊢
  by_cases h1 : k = 1
  · subst h1
    rw [if_pos (.inl rfl)]; exact XC rfl (enters_of Tryz.func125 (by kernel_rfl) rfl) (Jcr _ hv0).toR
  by_cases h2 : k = 2
  · subst h2
    rw [if_pos (.inr rfl)]; exact XC rfl (enters_of Tryz.func125 (by kernel_rfl) rfl) (Jcr _ hv0).toR
  rw [if_neg (by omega)] at hlen ⊢
  have hone : k ≠ 7 → k ≠ 8 → ∀ x0, ins = [x0] → ∀ N : Nat, n = (N : Int) → N ≤ 512 → items.length ≤ N → PureR Tryz.prog 127 [Ty.val (.mk k n p ins), KL items.length pi].toArray (J3 (WN k n ins items (Kc items k 0 ins 0))) R := fun h7 h8 x0 e N en hN hle => by
    subst e; subst en; refine Jvi ht0 h7 h8 (XA hcz _ List.mem_cons_self) hs hle hN (fun v hv => ?_) hwi hi fun i x hx => ?_
    · obtain ⟨j, hj⟩ := List.getElem?_of_mem hv
      have := (hrow h8 j v hj).2.2.2
      rwa [YX h7 h8] at this
    · have := hrec h8 i x hx
      rwa [YX h7 h8] at this
  by_cases h4 : k = 4
  · subst h4
    obtain ⟨w1, w2, w3, w4⟩ := q1 (.inr rfl)
    rw [if_pos rfl, wG (by decide)] at hlen ⊢
    have hrl : (WN 4 n ins items (Kc items 4 0 ins 0)).length = 32 := Joh hcz hfit (.inr (.inl rfl))
    obtain ⟨x0, hx0⟩ := List.length_eq_one_iff.1 w4
    exact XC rfl (enters_of Tryz.func128 (by kernel_rfl) rfl) (Jyf hs hrl m1 (hone (by decide) (by decide) x0 hx0 n.toNat (by omega) (by omega) (by omega)))
  rw [if_neg h4] at hlen ⊢
  by_cases h5 : k = 5
  · subst h5
    obtain ⟨w1, w2, w3⟩ := q2 (.inl rfl)
    rw [if_pos rfl] at hlen ⊢; refine XC rfl (enters_of Tryz.func130 (by kernel_rfl) rfl) (Jyg ?_)
    have := Jhs (k := 5) (p := p) (ins := ins) (l := bits) (n := n.toNat) (by omega) (by omega) hsb
    rwa [show ((n.toNat : Nat) : Int) = n by omega] at this
  rw [if_neg h5] at hlen ⊢
  by_cases h6 : k = 6
  · subst h6
    obtain ⟨w1, w2, w3⟩ := q2 (.inr rfl)
    rw [if_pos rfl] at hlen ⊢; refine XC rfl (enters_of Tryz.func132 (by kernel_rfl) rfl) (Jyh hsb (VT (qi w3) (Zp _)) m2 ?_)
    have := Jhs (k := 6) (p := p) (ins := ins) (l := bits) (n := n.toNat) (by omega) (by omega) hsb
    rwa [show ((n.toNat : Nat) : Int) = n by omega] at this
  rw [if_neg h6] at hlen ⊢
  by_cases h8 : k = 8
  · subst h8
    obtain ⟨w1, w2, w3, w4⟩ := m4 rfl
    obtain ⟨m, rfl⟩ : ∃ m : Nat, pick = (m : Int) := ⟨pick.toNat, by omega⟩
    have hx8 := X8 (l := items) (i := 0) (by omega)
    have hg := Wb (j := 0) hf3 hx8.1
    have hin := qb (v := .mk a b c d bits pb items pi (m : Int)) (i := 0) hcz hf2 (show 0 < items.length by omega)
    have hty := Qk hin
    have hX := ih _ hx8.2 (hi _ hx8.2) _ 0 (hit _ hty.2) (XA hcz _ hty.2) hg (hwi _ hx8.2)
    have hXl := Yd _ _ 0 (XA hcz _ hty.2) hg
    rw [if_pos rfl, Jjo w1, Int.toNat_natCast]; exact XC rfl (enters_of Tryz.func136 (by kernel_rfl) rfl) (Jyj hst hs (by omega) (show ins[m]? = some _ from hty.1) hx8.1 hXl hX)
  rw [if_neg h8, wG h8] at hlen ⊢
  by_cases h3 : k = 3
  · subst h3
    obtain ⟨w1, w2, w3, w4⟩ := q1 (.inl rfl)
    obtain ⟨x0, hx0⟩ := List.length_eq_one_iff.1 w4
    exact XC rfl (enters_of Tryz.func126 (by kernel_rfl) rfl) (Jye (hone (by decide) (by decide) x0 hx0 n.toNat (by omega) (by omega) (by omega)))
  have h7 : k = 7 := by omega
  subst h7
  obtain ⟨w1, w2, w3⟩ := q3 rfl
  have hM : WN 7 n ins items (Kc items 7 0 ins 0) = QX (Kc items 7 0 ins 0) ins.length := by unfold WN; rw [if_pos rfl]
  rw [hM]
  have hrl := Ws items 7 0 ins 0
  refine XC rfl (enters_of Tryz.func133 (by kernel_rfl) rfl) (Jyi hst (by omega) w3 (fun s hs => ?_) (zu ht0 (by decide) hs (by omega) (fun i hi => ?_) (hrec (by decide))))
  · obtain ⟨j, x, h1, rfl⟩ := Yc hs
    rw [Nat.zero_add]
    obtain ⟨_, r1, r2, r3⟩ := hrow (by decide) j x h1
    exact Yd x _ 0 r2 r3
  · show i < ins.length
    omega
def Yh (t : Ty) (v : Vl) : BS × Int := if Vq t v ≠ 0 then ([], Vq t v) else (Kz v t, 0)
theorem Jr7 {R : Jq} {t : Ty} {v : Vl} (ht : t.In R) (hv : v.In R) (hw : wV v ≤ 20000) : PureR Tryz.prog 58 [t.val, v.val].toArray (ZC (Yh t v)) R := by
  have h1 := Jlz ht hv
  have h2 := fun h => Jvj hv t 0 ht (Yy (t := t) (v := v) h).1 (Yy h).2 hw
  unfold Yh
  generalize Vq t v = e at h1 h2 ⊢
  generalize Kz v t = s at h2 ⊢
  obtain ⟨k, n, p, ins⟩ := t
  obtain ⟨a, b, c, d, bits, pb, items, pi, pick⟩ := v
  refine Je Tryz.func58 rfl rfl fun w => ?_; refine sR fun _ hK1 => ?_; refine LN rfl fun r1 => ?_; refine LN rfl fun r2 => ?_; refine LS 2 [] rfl rfl (nK hK1 ?_); refine sQ fun _ hK2 => sR fun _ hK3 => ?_; refine LS 2 [1, 0] rfl rfl ?_; refine Jh rfl rfl rfl (enters_of Tryz.func76 (by kernel_rfl) rfl) h1 (fun q hq => Or.inr hq) ?_; refine Ji rfl (nK hK3 ?_); refine sR fun _ hK4 => LS 2 [] rfl rfl (nK hK4 ?_); refine Jc rfl (fun h5 => ?_) (fun h5 => ?_)
  try simp only [ZZ] at h5
  refine sR fun _ hK6 => LS 3 [] rfl rfl (nK hK6 ?_); refine Jb (Jd ?_); refine Ju rfl rfl (.cons (J1 rfl) (.cons (J1 rfl) .nil)) (fun w1 hs1 => ?_); refine ⟨?_, hs1.keep⟩; rw [if_pos (by omega)]; rfl
  · try simp only [ZZ] at h5
    refine Jf (hK2 ?_); refine sR fun _ hK7 => LS 2 [1, 0] rfl rfl ?_; refine Jh rfl rfl rfl Jqb (h2 (by omega)) (fun q hq => Or.inr hq) ?_; refine LS 2 [] rfl rfl (nK hK7 ?_); refine Jb ?_; refine Ju rfl rfl (.cons (J1 rfl) (.cons (J1 rfl) .nil)) (fun w1 hs1 => ?_); refine ⟨?_, hs1.keep⟩; rw [if_neg (by omega)]; rfl
section
variable {c : Cx} {l : Kl} {L : Jq} {X : XP} {d : List Deferred} {i : Nat} {ps : String} {af : Array Edge} {gd : Option (Nat × Bool)} {ty : TypeId}
end
section
variable {a b c d : Nat} {bits : List Bool} {pb : Pl} {items : List Vl} {pi : Pl} {pick n : Int} {p : Pl} {ins : List Ty}
end
theorem Jhu (l : List Vl) : (Ye l).length = l.length := by rw [Wd, List.length_map]
theorem Jtt : ∀ l : List Vl, (∀ x ∈ l, wV (WJ x) = wV x) → wL (Ye l) = wL l
  | [], _ => by rw [Ye]
  | x :: xs, h => by rw [Ye, wL, wL, h x List.mem_cons_self, Jtt xs fun y hy => h y (List.mem_cons_of_mem _ hy)]
theorem Jtu (v : Vl) : wV (WJ v) = wV v := by
  induction v using Vl.ind with
  | h a b c d bits pb items pi pick ih => rw [KZ, wV, wV, Jtt items ih]
theorem Jhv (k pick : Int) (ins : List Ty) : ∀ (l : List Vl), (∀ x ∈ l, ∀ t, Ko (WJ x) t = Ko x t) → ∀ i : Nat, Qo (Ye l) k pick ins i = Qo l k pick ins i
  | [], _, i => by rw [Ye]
  | x :: xs, h, i => by rw [Ye, Qo, Qo, h x List.mem_cons_self, Jhv k pick ins xs fun y hy => h y (List.mem_cons_of_mem _ hy)]
theorem Jvk (k n : Int) (m : Nat) (v : Vl) : yH k n m (WJ v) = yH k n m v := by
  obtain ⟨a, b, c, d, bits, pb, items, pi, pick⟩ := v
  rw [KZ]; rw [Ql k n m a b c d bits none (Ye items) none pick _ rfl, Ql k n m a b c d bits pb items pi pick _ rfl]; simp only [Qc, Jhu]
theorem Jfe (v : Vl) : ∀ t, Ko (WJ v) t = Ko v t := by
  induction v using Vl.ind with
  | h a b c d bits pb items pi pick ih =>
  intro t
  obtain ⟨k, n, p, ins⟩ := t
  have hl := Jhu items
  have ho := Jvk k n ins.length (.mk a b c d bits pb items pi pick)
  rw [KZ] at ho ⊢; rw [Ko, Ko, hl, Jhv k pick ins items ih, ho]
abbrev b8c (r3 : Nat) : Nat × Obj := (r3, .cells #[.int .i64 1, .int .i64 2, .slice none 0 0, .int .i64 6, .int .i64 8, .slice none 0 0, .int .i64 2, .int .i64 0, .slice none 0 0] 76 (0, 0))
abbrev d8c (r5 : Nat) : Nat × Obj := (r5, .cells #[.int .u64 258, .int .u64 0, .int .u64 0, .int .u64 0, .slice none 0 0, .slice none 0 0, .int .i64 0, .int .u64 0, .int .u64 0, .int .u64 0, .int .u64 0, .slice none 0 0, .slice none 0 0, .int .i64 0, .int .u64 1, .int .u64 0, .int .u64 0, .int .u64 0, .slice none 0 0, .slice none 0 0, .int .i64 0] 81 (0, 0))
section
variable {a b c d : Nat} {bits : List Bool} {pb : Pl} {items : List Vl} {pi : Pl} {pick n : Int} {p p' : Pl} {ins : List Ty}
end
structure OInv (s : BS) (H : Nat) (TY : List Ty) (i A la : Nat) (pre : List Nat) : Prop where
  le : i ≤ TY.length
  at_ : (A : Int) = Ka (TY.take i)
  off : QA s H TY 0 H false = (QA s H (TY.drop i) A la (decide (0 < pre.length))).map (pre ++ ·)
section
variable {s : BS} {H : Nat} {TY : List Ty} {i A la : Nat} {pre : List Nat} {x : Ty}
theorem OInv.start : OInv s H TY 0 0 H [] := ⟨Nat.zero_le _, rfl, by rw [List.drop_zero, show decide (0 < ([] : List Nat).length) = false from rfl]; cases QA s H TY 0 H false <;> rfl⟩
theorem OInv.bound (h : OInv s H TY i A la pre) (hx : TY[i]? = some x) (hH : Ka TY = (H : Int)) : (A : Int) + WB x ≤ H := by
  have e : TY = TY.take i ++ (x :: TY.drop (i + 1)) := by rw [← KK hx, List.take_append_drop]
  rw [e, V0, Ka] at hH
  have := Zs (TY.drop (i + 1))
  have := h.at_
  omega
theorem OInv.fix (h : OInv s H TY i A la pre) (hx : TY[i]? = some x) (hf : JH x = true) (h0 : 0 ≤ JS x) : OInv s H TY (i + 1) (A + (JS x).toNat) la pre := by
  have h1 := h.off
  rw [KK hx, QA, if_pos hf] at h1; refine ⟨(List.getElem?_eq_some_iff.1 hx).1, ?_, h1⟩; rw [Kp hx, V0, Ka, Ka, WB, if_pos hf, ← h.at_]; omega
theorem OInv.bad (h : OInv s H TY i A la pre) (hx : TY[i]? = some x) (hf : JH x = false) {v : Nat} (hv : v = W3 ((s.drop A).take 4)) (hb : (¬ 0 < pre.length ∧ v ≠ H) ∨ v < la ∨ s.length < v) : QA s H TY 0 H false = none := by
  subst hv
  rw [h.off, KK hx, QA, if_neg (by rw [hf]; decide), if_pos (by
    rcases hb with ⟨h1, h2⟩ | h1
    · exact .inl ⟨decide_eq_false h1, h2⟩
    · exact .inr h1)]
  rfl
theorem OInv.var (h : OInv s H TY i A la pre) (hx : TY[i]? = some x) (hf : JH x = false) {v : Nat} (hv : v = W3 ((s.drop A).take 4)) (h1 : 0 < pre.length ∨ v = H) (h2 : la ≤ v) (h3 : v ≤ s.length) : OInv s H TY (i + 1) (A + 4) v (pre ++ [v]) := by
  have hn : ¬ JH x = true := by rw [hf]; decide
  have hlv : W3 ((s.drop A).take 4) = v := hv.symm
  have ho := h.off
  rw [KK hx, QA, if_neg hn, hlv, if_neg (by
    rintro (⟨g1, g2⟩ | g | g)
    · simp only [decide_eq_false_iff_not] at g1; omega
    · omega
    · omega), Option.map_map] at ho
  refine ⟨(List.getElem?_eq_some_iff.1 hx).1, ?_, ?_⟩
  · rw [Kp hx, V0, Ka, Ka, WB, if_neg hn, ← h.at_]; omega
  · rw [ho, show decide (0 < (pre ++ [v]).length) = true by simp]
    congr 1
    funext r
    simp
theorem OInv.done (h : OInv s H TY TY.length A la pre) : QA s H TY 0 H false = if ¬ 0 < pre.length ∧ H ≠ s.length then none else some (pre ++ [s.length]) := by
  rw [h.off, List.drop_length, QA]
  by_cases hc : ¬ 0 < pre.length ∧ H ≠ s.length
  · rw [if_pos hc, if_pos ⟨decide_eq_false hc.1, hc.2⟩]; rfl
  · rw [if_neg hc, if_neg (by rintro ⟨g1, g2⟩; exact hc ⟨of_decide_eq_false g1, g2⟩)]; rfl
end
theorem Jhw {s : BS} {H : Nat} : ∀ {ts : List Ty} {a la : Nat} {op : Bool} {os : List Nat}, QA s H ts a la op = some os → 0 < os.length
  | [], _, _, _, _, h => by
    rw [QA] at h
    split at h
    · cases h
    · cases h; exact Nat.one_pos
  | x :: xs, a, la, op, os, h => by
    rw [QA] at h
    split at h
    · exact Jhw h
    · split at h
      · cases h
      · obtain ⟨r, h2, rfl⟩ := Option.map_eq_some_iff.1 h
        exact Nat.succ_pos _
structure RInv (s : BS) (H : Nat) (TY : List Ty) (ps : List (Ty × Nat × Nat)) (os : List Nat) (i A m : Nat) : Prop where
  le : i ≤ TY.length
  at_ : (A : Int) = Ka (TY.take i)
  tl : ps.drop i = KB (TY.drop i) A (os.drop m)
  off : ∃ la op, QA s H (TY.drop i) A la op = some (os.drop m)
section
variable {s : BS} {H : Nat} {TY : List Ty} {ps : List (Ty × Nat × Nat)} {os : List Nat} {i A m : Nat} {x : Ty}
theorem RInv.start (h : QA s H TY 0 H false = some os) : RInv s H TY (KB TY 0 os) os 0 0 0 := ⟨Nat.zero_le _, rfl, rfl, ⟨H, false, h⟩⟩
theorem Jtv {α : Type} {l r : List α} {i : Nat} {q : α} (h : l.drop i = q :: r) : l[i]? = some q ∧ l.drop (i + 1) = r := by
  have h1 : (l.drop i)[0]? = some q := by rw [h]; rfl
  rw [List.getElem?_drop, Nat.add_zero] at h1; exact ⟨h1, by rw [KK h1] at h; exact (List.cons.inj h).2⟩
theorem RInv.bound (h : RInv s H TY ps os i A m) (hx : TY[i]? = some x) (hH : Ka TY = (H : Int)) : (A : Int) + WB x ≤ H := by
  have e : TY = TY.take i ++ (x :: TY.drop (i + 1)) := by rw [← KK hx, List.take_append_drop]
  rw [e, V0, Ka] at hH
  have := Zs (TY.drop (i + 1))
  have := h.at_
  omega
theorem RInv.fix (h : RInv s H TY ps os i A m) (hx : TY[i]? = some x) (hf : JH x = true) (h0 : 0 ≤ JS x) : ps[i]? = some (x, A, A + (JS x).toNat) ∧ RInv s H TY ps os (i + 1) (A + (JS x).toNat) m := by
  have h1 := h.tl
  obtain ⟨la, op, h2⟩ := h.off
  rw [KK hx, KB, if_pos hf] at h1; rw [KK hx, QA, if_pos hf] at h2
  obtain ⟨g1, g2⟩ := Jtv h1
  refine ⟨g1, (List.getElem?_eq_some_iff.1 hx).1, ?_, g2, ⟨la, op, h2⟩⟩; rw [Kp hx, V0, Ka, Ka, WB, if_pos hf, ← h.at_]; omega
theorem RInv.var (h : RInv s H TY ps os i A m) (hx : TY[i]? = some x) (hf : JH x = false) : m + 1 < os.length ∧ ps[i]? = some (x, os.getD m 0, os.getD (m + 1) 0) ∧ RInv s H TY ps os (i + 1) (A + 4) (m + 1) := by
  have hn : ¬ JH x = true := by rw [hf]; decide
  have h1 := h.tl
  obtain ⟨la, op, h2⟩ := h.off
  rw [KK hx, KB, if_neg hn] at h1; rw [KK hx, QA, if_neg hn] at h2
  split at h2
  · cases h2
  · obtain ⟨r, h3, h4⟩ := Option.map_eq_some_iff.1 h2
    have hp := Jhw h3
    have hlen : (os.drop m).length = r.length + 1 := by rw [← h4]; rfl
    rw [List.length_drop] at hlen
    have ht : (os.drop m).tail = os.drop (m + 1) := by rw [List.tail_drop]
    have e0 : (os.drop m).getD 0 0 = os.getD m 0 := by rw [List.getD_eq_getElem?_getD, List.getD_eq_getElem?_getD, List.getElem?_drop, Nat.add_zero]
    have e1 : (os.drop m).getD 1 0 = os.getD (m + 1) 0 := by rw [List.getD_eq_getElem?_getD, List.getD_eq_getElem?_getD, List.getElem?_drop]
    rw [ht, e0, e1] at h1
    obtain ⟨g1, g2⟩ := Jtv h1
    refine ⟨by omega, g1, (List.getElem?_eq_some_iff.1 hx).1, ?_, g2, ⟨W3 ((s.drop A).take 4), true, ?_⟩⟩
    · rw [Kp hx, V0, Ka, Ka, WB, if_neg hn, ← h.at_]; omega
    · rw [h3, ← ht, ← h4]; rfl
end
theorem Joi (t : Ty) : (Xa t).k = t.k := by cases t; rw [Xa]; rfl
theorem Jtw (t : Ty) : (Xa t).n = t.n := by cases t; rw [Xa]; rfl
theorem Jhx (t : Ty) : (Xa t).ins = VB t.ins := by cases t; rw [Xa]; rfl
theorem erT_def : Xa default = default := by show Xa (.mk 0 0 none []) = .mk 0 0 none []; rw [Xa, VB]
mutual
theorem vI : ∀ (t : Ty) (d : Int), V2 (Xa t) d = V2 t d
  | .mk k n p ins, d => by rw [Xa, V2, V2, Jdh ins, YW]
theorem Jdh : ∀ (l : List Ty) (d : Int), XE (VB l) d = XE l d
  | [], _ => by rw [VB]
  | x :: xs, d => by rw [VB, XE, XE, vI x, Jdh xs]
end
mutual
theorem Jdi : ∀ (t : Ty), W5 (Xa t) = W5 t
  | .mk k n p ins => by rw [Xa, W5, W5, Jdj ins]
theorem Jdj : ∀ (l : List Ty), ZA (VB l) = ZA l
  | [] => by rw [VB]
  | x :: xs => by rw [VB, ZA, ZA, Jdi x, Jdj xs]
end
mutual
theorem Xu : ∀ (t : Ty), JS (Xa t) = JS t
  | .mk k n p ins => by rw [Xa, JS, JS, Jdk ins]
theorem Jdk : ∀ (l : List Ty), Wf (VB l) = Wf l
  | [] => by rw [VB]
  | x :: xs => by rw [VB, Wf, Wf, Xu x, Jdk xs]
end
theorem Xc (t : Ty) : JH (Xa t) = JH t := by unfold JH; rw [vI, Jdi]
theorem Joj (t : Ty) : WB (Xa t) = WB t := by unfold WB; rw [Xc, Xu]
theorem yl : ∀ l : List Ty, Ka (l.map Xa) = Ka l
  | [] => rfl
  | x :: xs => by rw [List.map_cons, Ka, Ka, Joj, yl xs]
theorem Jdl (ins : List Ty) (i : Nat) : (VB ins).getD i default = Xa (ins.getD i default) := by
  rw [yg, List.getD_eq_getElem?_getD, List.getD_eq_getElem?_getD, List.getElem?_map]
  cases ins[i]? with
  | none => exact erT_def.symm
  | some x => rfl
theorem YY (k pick : Int) (ins : List Ty) (i : Nat) : JJ k pick (VB ins) i = Xa (JJ k pick ins i) := by unfold JJ; exact Jdl ins _
mutual
theorem Jhy : ∀ (v : Vl) (t : Ty), Ko v (Xa t) = Ko v t
  | .mk a b c d bits pb items pi pick, .mk k n p ins => by rw [Xa, Ko, Ko, YW, Jdm items]
theorem Jdm : ∀ (l : List Vl) (k pick : Int) (ins : List Ty) (i : Nat), Qo l k pick (VB ins) i = Qo l k pick ins i
  | [], _, _, _, _ => by rw [Qo, Qo]
  | x :: xs, k, pick, ins, i => by rw [Qo, Qo, YY, Jhy x, Jdm xs]
end
theorem Jdn (t : Ty) (v : Vl) : Vq (Xa t) v = Vq t v := by unfold Vq; rw [vI, Jhy]
theorem ym (h : Nat) : ∀ (l : List (Ty × BS)) (f th : BS), Yq h (l.map fun p => (Xa p.1, p.2)) f th = Yq h l f th
  | [], f, th => rfl
  | (x, s) :: l, f, th => by rw [List.map_cons, Yq, Yq, Xc, ym h l, ym h l]
mutual
theorem Jaj : ∀ (v : Vl) (t : Ty), Vo v (Xa t) = Vo v t
  | .mk a b c d bits pb items pi pick, t => by
    have h1 : ((KY items t.k pick t.ins 0).map fun p => (Xa p.1, p.2)).headD (default, []) = (fun p : Ty × BS => (Xa p.1, p.2)) ((KY items t.k pick t.ins 0).headD (default, [])) := by
      cases KY items t.k pick t.ins 0 with
      | nil => show (default, []) = (Xa default, []); rw [erT_def]
      | cons x l => rfl
    have h2 : (((KY items t.k pick t.ins 0).map fun p => (Xa p.1, p.2)).map Prod.fst) = ((KY items t.k pick t.ins 0).map Prod.fst).map Xa := by rw [List.map_map, List.map_map]; rfl
    rw [Vo, Vo, Joi, Jtw, Jhx, Jdo items, ym, h1, h2, yl]
theorem Jdo : ∀ (l : List Vl) (k pick : Int) (ins : List Ty) (i : Nat), KY l k pick (VB ins) i = (KY l k pick ins i).map fun p => (Xa p.1, p.2)
  | [], _, _, _, _ => by rw [KY, KY]; rfl
  | x :: xs, k, pick, ins, i => by rw [KY, KY, YY, Jaj x, Jdo xs]; rfl
end
theorem Jok (t : Ty) (v : Vl) : jo (Xa t) v = jo t v := by unfold jo; rw [Jdn, Jaj]
theorem Jol (k : Int) (ins : List Ty) (m : Nat) : Kt k (VB ins) m = (Kt k ins m).map Xa := by
  unfold Kt
  rw [List.map_map]; exact List.map_congr_left fun i _ => YY k 0 ins i
theorem yn (s : BS) (h : Nat) : ∀ (l : List Ty) (a la : Nat) (op : Bool), QA s h (l.map Xa) a la op = QA s h l a la op
  | [], _, _, _ => rfl
  | x :: xs, a, la, op => by rw [List.map_cons, QA, QA, Xc, Xu, yn s h xs, yn s h xs]
theorem qt (s : BS) : ∀ (l : List Ty) (a : Nat) (os : List Nat), V1 s (l.map Xa) a os = V1 s l a os
  | [], _, _ => rfl
  | x :: xs, a, os => by rw [List.map_cons, V1, V1, Xc, Xu, qt s xs, qt s xs]
theorem Jom (k n : Int) (ins : List Ty) (s : BS) : JT k n (VB ins) s = JT k n ins s := by
  unfold JT
  rw [YW, YY, Xc, Xu]
theorem Jon (k n : Int) (ins : List Ty) (fs : List Gf) (s : BS) : xX k n (VB ins) fs s = xX k n ins fs s := by
  unfold xX
  rw [Jom, Jol, yl, yn]
  split
  · rfl
  · split
    · rfl
    · cases QA s (Ka (Kt k ins (JT k n ins s).1)).toNat (Kt k ins (JT k n ins s).1) 0 (Ka (Kt k ins (JT k n ins s).1)).toNat false with
      | none => rfl
      | some os => simp only [qt]
theorem Jr8 (k n : Int) (p : Pl) (ins : List Ty) (fs : List Gf) (s : BS) : ZJ k n none (VB ins) fs s = ZJ k n p ins fs s := by
  have h1 : JH (.mk k n none (VB ins)) = JH (.mk k n p ins) := by have := Xc (.mk k n p ins); rw [Xa] at this; exact this
  have h2 : JS (.mk k n none (VB ins)) = JS (.mk k n p ins) := by have := Xu (.mk k n p ins); rw [Xa] at this; exact this
  unfold ZJ
  rw [h1, h2, YW, Jon]
mutual
theorem Jhz : ∀ (t : Ty), KJ (Xa t) = KJ t
  | .mk k n p ins => by funext s; rw [Xa, KJ, KJ, Jdp ins, Jr8 k n p]
theorem Jdp : ∀ (l : List Ty), Y5 (VB l) = Y5 l
  | [] => by rw [VB]
  | x :: xs => by rw [VB, Y5, Y5, Jhz x, Jdp xs]
end
theorem Joo (t : Ty) (s : BS) : getR (Xa t) s = getR t s := by unfold getR; rw [vI, Jhz]
theorem Jop (items : List Vl) (x : Ty) : WT items (Xa x) = WT items x := by unfold WT; rw [List.map_congr_left fun v _ => Jaj v x]
theorem Joq (k n : Int) (ins : List Ty) (items : List Vl) (rs : List BS) : WN k n (VB ins) items rs = WN k n ins items rs := by
  unfold WN Xq
  rw [Jdl, YW, Joi, Jop, Xu]
mutual
theorem Jdq : ∀ (v : Vl) (t : Ty), Kz v (Xa t) = Kz v t
  | .mk a b c d bits pb items pi pick, t => by rw [Kz, Kz, Joi, Jtw, Jhx, zv items, Joq]
theorem zv : ∀ (l : List Vl) (k pick : Int) (ins : List Ty) (i : Nat), Kc l k pick (VB ins) i = Kc l k pick ins i
  | [], _, _, _, _ => by rw [Kc, Kc]
  | x :: xs, k, pick, ins, i => by rw [Kc, Kc, YY, Jdq x, zv xs]
end
theorem Jjp (t : Ty) (v : Vl) : Yh (Xa t) v = Yh t v := by unfold Yh; rw [Jdn, Jdq]
def jI (x : BS × BS) : Vl := KI [yh x.1, yh x.2] 0
def acV (a : AcE) : Vl := KI [yh a.addr, .mk a.nonce 0 0 0 [] none [] none 0, .mk a.bal.a a.bal.b a.bal.c a.bal.d [] none [] none 0, yh a.code, KI (a.slots.map jI) 0] 0
def XL (l : List AcE) : Vl := KI (l.map acV) 0
theorem Jak : V2 QQ 0 = 0 := by decide +kernel
def WO (l : List AcE) : BS × Int := if Qn l ≠ 0 then ([], Qn l) else jo QQ (XL l)
def jJ (l : List AcE) : BS × Int := if Qn l ≠ 0 then ([], Qn l) else Yh QQ (XL l)
def Y7 (v : Vl) : BS := v.items.map fun x => UInt8.ofNat (x.num.getD 0 0)
def jK (v : Vl) (i : Nat) : Vl := v.items.getD i v0L
def Xv (v : Vl) : BS × BS := (Y7 (jK v 0), Y7 (jK v 1))
def w4B (v : Vl) : W4 := ⟨v.num.getD 0 0, v.num.getD 1 0, v.num.getD 2 0, v.num.getD 3 0⟩
def acB (v : Vl) : AcE := ⟨Y7 (jK v 0), (jK v 1).num.getD 0 0, w4B (jK v 2), Y7 (jK v 3), (jK v 4).items.map Xv⟩
def qu (v : Vl) : List AcE := v.items.map acB
def YZ (s : BS) : List AcE × Int := if (getR QQ s).2 ≠ 0 then ([], (getR QQ s).2) else if Qn (qu (getR QQ s).1) ≠ 0 then ([], Qn (qu (getR QQ s).1)) else (qu (getR QQ s).1, 0)
def byB (x : Vl) : UInt8 := UInt8.ofNat (x.num.getD 0 0)
theorem Jvl (v : Vl) : Y7 v = v.items.map byB := rfl
theorem Jjq (q : Nat) : Value.int .u8 (IntKind.u8.wrap (q : Int)) = bV (UInt8.ofNat q) := by
  rw [jc]
  congr 1
  apply UInt8.toNat_inj.1
  simp
def ofS (l : List Vl) (i : Nat) : BS := (l.take i).map byB ++ List.replicate (l.length - i) 0
theorem Jal (l : List Vl) {i : Nat} (h : i ≤ l.length) : (ofS l i).length = l.length := by unfold ofS; simp; omega
theorem Jor {l : List Vl} {i : Nat} {x : Vl} (h : l[i]? = some x) : ((ofS l i).map bV).set i (bV (byB x)) = (ofS l (i + 1)).map bV := by
  have hlt := (List.getElem?_eq_some_iff.1 h).1
  unfold ofS
  rw [← List.map_set]
  congr 1
  rw [List.set_append_right _ _ (by simp; omega), Kp h, List.map_append, List.append_assoc]
  congr 1
  rw [show (List.map byB (List.take i l)).length = i by simp; omega, Nat.sub_self, show l.length - i = (l.length - (i + 1)) + 1 by omega, List.replicate_succ, List.set_cons_zero]
  rfl
theorem Jr9 {R : Jq} {v : Vl} (hv : v.In R) (hl : v.items.length ≤ 100000) : PureR Tryz.prog 62 [v.val].toArray (J3 (Y7 v)) R := by
  obtain ⟨a, b, c, d, bits, pb, items, pi, pick⟩ := v
  have hs : Seg R items.length (Qg items) pi := by cases hv; assumption
  change items.length ≤ 100000 at hl; rw [Jvl]; refine Je Tryz.func62 rfl rfl fun w => ?_; refine sR fun _ hK1 => ?_; refine LN rfl fun r1 => ?_; refine Ji rfl (nK hK1 ?_); refine sR fun _ hK2 => ?_
  refine LS 2 [0] rfl rfl ?_; refine LR rfl (J4 rfl hs rfl) ?_; refine WQ (n := items.length) (b := 1) rfl rfl rfl rfl rfl rfl rfl rfl rfl (by omega) (by omega) fun rm => ?_; rw [show List.replicate items.length (Value.int .u8 0) = (ofS items 0).map bV from by unfold ofS; simp [bV]]; refine Ji rfl (nK hK2 ?_); refine sQ fun _ hK3 => sR fun _ hK4 => ?_
  refine LS 2 [1] rfl rfl ?_; refine LR rfl (J4 rfl hs rfl) ?_; refine Ji rfl (nK hK4 ?_); refine Jt (JK (σ := Nat) (fun i => i ≤ items.length) (fun i => [(3, .slice (some ⟨rm, 0, none⟩) items.length items.length), (11, KL items.length pi), (12, .int .i64 (items.length : Int)), (13, .int .i64 (i : Int))]) (fun i => [(rm, .cells ((ofS items i).map bV).toArray 5 (0, 0))]) (fun _ _ _ => True) (fun i => items.length - i) 0 (Nat.zero_le _) (.cons rfl (.cons rfl (.cons rfl (.cons rfl .nil)))) (.cons_cons _ (List.nil_sublist _)) (fun _ _ h => h) ?_); intro i hi1; refine sR fun _ hK5 => JV rfl (nK hK5 ?_); refine sQ fun _ hK6 => ?_; refine Jc rfl (fun h7 => ?_) (fun h7 => ?_)
  · try simp only [ZZ] at h7
    refine Jf (hK6 ?_); refine sB fun _ hK8 => sQ fun _ hK9 => ?_
    obtain ⟨⟨ya, yb, yc, yd, ybits, ypb, yitems, ypi, ypick⟩, hx, hxm⟩ := Vg (show i < items.length by omega)
    refine Ja (Ji rfl ?_)
    refine LR rfl (Js (j := i) rfl hs rfl rfl rfl (by first | rfl | omega) (by omega)) ?_; refine LR rfl (QE (fun q hq => Or.inr hq) rfl hs hx rfl rfl) ?_; refine LN rfl fun r2 => ?_; refine Ji rfl ?_
    refine LT 0 rfl rfl (nK hK9 ?_); refine Ja (LS 3 [] rfl rfl ?_)
    refine LR rfl (JP (j := 0) rfl rfl rfl rfl rfl (by first | decide | omega) (by first | (simp only [Nat.zero_add, Nat.reduceAdd, Nat.reduceMul, Nat.zero_mul, Nat.mul_one, Nat.add_zero]; exact rfl) | exact rfl)) ?_; refine LS 2 [0] rfl rfl ?_; refine Jz (show _ = bV (UInt8.ofNat ya) from Jjq ya) ?_; refine LR rfl (Kf (j := i) (m := 1) (off' := i) rfl rfl rfl rfl (by omega) (by omega) (by omega)) ?_; refine KR (k := 1) (off := i) (xs := (ofS items i).map bV) (ys := (ofS items (i + 1)).map bV) rfl rfl rfl rfl rfl rfl (by rw [List.length_map, Jal _ (by omega)]; omega) (Jor hx) rfl ?_; refine Jg (Jj (hK8 ?_)); refine Ja ?_
    refine JV rfl ?_; refine Jz (show _ = Value.int .i64 ((i + 1 : Nat) : Int) from by rw [wrap_i64 (by omega) (by omega)]; congr 1 <;> omega) ?_; refine Ji rfl (Jg (J7 ?_)); exact J2 (i + 1) (by omega) (by omega) (.cons rfl (.cons rfl (.cons rfl (.cons rfl .nil)))) (.cons _ (List.Sublist.refl _)) (fun _ _ h => h)
  · try simp only [ZZ] at h7
    refine JG (Jm ?_); refine Jm (J0 (hK3 ?_)); refine sQ fun _ hK10 => ?_
    obtain rfl : i = items.length := by omega
    refine Ja (Ji rfl ?_); refine LR rfl (QN (b := ofS items items.length) (row := some (rm, items.length, [])) (e := 5) (show _ = some (JC (ofS items items.length).length _) from by rw [Jal _ (Nat.le_refl _)]; rfl) ⟨by rw [List.length_map]; omega, by rw [Jal _ (Nat.le_refl _)]; simp⟩ (fun p hp => .inl (by rw [List.mem_singleton.1 hp, List.append_nil]; exact List.mem_cons_self)) rfl rfl rfl) ?_; refine Ji rfl (nK hK10 ?_); refine Jb (pT rfl rfl rfl fun w1 hs1 => ?_); refine ⟨?_, hs1.keep⟩; rw [show ofS items items.length = items.map byB from by unfold ofS; simp]; rfl
theorem Jxe {s : BS} {r : Nat} {Lr : Jq} (hl : s.length ≤ 100000) (h : (r, Obj.cells (Qg (s.map jG)).toArray 0 (0, 0)) ∈ Lr) : Vl.In Lr (.mk 0 0 0 0 [] none (s.map jG) (some (⟨r, 0, none⟩, s.length)) 0) :=
  .mk u0 u0 u0 u0 (by decide) rfl (by rw [List.length_map]; omega) ⟨by rw [List.length_map]; exact Nat.le_refl _, fun _ => ⟨rfl, _, 0, (0, 0), h, by rw [List.drop_zero, List.toList_toArray, List.take_length]⟩⟩ i0 fun x hx => by
    obtain ⟨b, _, rfl⟩ := List.mem_map.1 hx
    exact (Jtp b).mono fun q hq => absurd hq List.not_mem_nil
def Jos {s : BS} (hl : s.length ≤ 100000) : VR (yh s) := ⟨_, [(0, .cells (Qg (s.map jG)).toArray 0 (0, 0))], Jxe hl (List.mem_singleton_self _), Jtq s _⟩
theorem Jot {Lr : Jq} {its : List Vl} {r e n : Nat} (h : (r, Obj.cells (Qg its).toArray e (0, 0)) ∈ Lr) (hn : its.length = n) (hl : n ≤ 1000) (hi : ∀ x ∈ its, x.In Lr) : Vl.In Lr (.mk 0 0 0 0 [] none its (some (⟨r, 0, none⟩, n)) 0) :=
  .mk u0 u0 u0 u0 (by decide) rfl (by omega) ⟨Nat.le_of_eq hn, fun _ => ⟨rfl, _, e, (0, 0), h, by rw [List.drop_zero, List.toList_toArray, List.take_length]⟩⟩ i0 hi
theorem Jvm {us : List Vl} {F yL zL : Jq} {y z : Vl} {rb e : Nat} (hin : ∀ x ∈ us, x.In F) (hy : y.In yL) (hz : z.In zL) {q : Vl} (hq : q ∈ us ++ [Vl.mk 0 0 0 0 [] none [y, z] (some (⟨rb, 0, none⟩, 2)) 0]) : q.In ((rb, Obj.cells (Qg [y, z]).toArray e (0, 0)) :: (zL ++ (yL ++ F))) := by
  rcases List.mem_append.1 hq with hq | hq
  · exact (hin q hq).mono fun p hp => by simp [hp]
  · rw [List.mem_singleton.1 hq]
    refine Jot List.mem_cons_self rfl (by decide) fun x hx => ?_; simp only [List.mem_cons, List.not_mem_nil, or_false] at hx
    rcases hx with rfl | rfl
    · exact hy.mono fun p hp => by simp [hp]
    · exact hz.mono fun p hp => by simp [hp]
theorem Jvn {slots : List (BS × BS)} {j : Nat} {us : List Vl} {k v : BS} {y z : Vl} {p : Pl} (her : us.map WJ = (slots.take j).map jI) (hx : slots[j]? = some (k, v)) (hy : WJ y = yh k) (hz : WJ z = yh v) : (us ++ [Vl.mk 0 0 0 0 [] none [y, z] p 0]).map WJ = (slots.take (j + 1)).map jI := by
  rw [List.map_append, her, Kp hx, List.map_append]
  congr 1
  show [WJ _] = [jI (k, v)]
  rw [KZ, Wd, List.map_cons, List.map_cons, List.map_nil, hy, hz]; rfl
theorem Jvo {vs us : List Vl} {E F U yL zL : Jq} {y z : Vl} {rb e nonce ba bb bc bd n : Nat} {p : Pl} (hin : ∀ x ∈ vs, x.In E) (hs : Seg U n (Qg us) p) (hn : us.length = n) (hn2 : n ≤ 100000) (hin2 : ∀ x ∈ us, x.In F) (hnu : Xw nonce) (hba : W4.ok ⟨ba, bb, bc, bd⟩) (hy : y.In yL) (hz : z.In zL) {q : Vl}
    (hq : q ∈ vs ++ [Vl.mk 0 0 0 0 [] none [y, .mk nonce 0 0 0 [] none [] none 0, .mk ba bb bc bd [] none [] none 0, z, .mk 0 0 0 0 [] none us p 0] (some (⟨rb, 0, none⟩, 5)) 0]) : q.In ((rb, Obj.cells (Qg [y, .mk nonce 0 0 0 [] none [] none 0, .mk ba bb bc bd [] none [] none 0, z, .mk 0 0 0 0 [] none us p 0]).toArray e (0, 0)) :: (zL ++ (yL ++ (U ++ (F ++ E))))) := by
  rcases List.mem_append.1 hq with hq | hq
  · exact (hin q hq).mono fun p hp => by simp [hp]
  · rw [List.mem_singleton.1 hq]
    refine Jot List.mem_cons_self rfl (by decide) fun x hx => ?_; simp only [List.mem_cons, List.not_mem_nil, or_false] at hx
    rcases hx with rfl | rfl | rfl | rfl | rfl
    · exact hy.mono fun p hp => by simp [hp]
    · exact .mk hnu u0 u0 u0 (by decide) rfl (by decide) rfl i0 (fun x hx => nomatch hx)
    · exact .mk hba.a hba.b hba.c hba.d (by decide) rfl (by decide) rfl i0 (fun x hx => nomatch hx)
    · exact hz.mono fun p hp => by simp [hp]
    · refine .mk u0 u0 u0 u0 (by decide) rfl (by omega) (by rw [hn]; exact hs.mono fun p hp => by simp [hp]) i0 fun x hx => (hin2 x hx).mono fun p hp => by simp [hp]
theorem Jvp {accts : List AcL} {i : Nat} {vs us : List Vl} {addr code : BS} {nonce ba bb bc bd : Nat} {slots : List (BS × BS)} {ap p p2 : Pl} {y z : Vl} (her : vs.map WJ = (accts.take i).map fun a => acV a.er) (hx : accts[i]? = some ⟨addr, nonce, ⟨ba, bb, bc, bd⟩, code, slots, ap⟩) (hy : WJ y = yh addr) (hz : WJ z = yh code) (hu : us.map WJ = (slots.take slots.length).map jI) :
    (vs ++ [Vl.mk 0 0 0 0 [] none [y, .mk nonce 0 0 0 [] none [] none 0, .mk ba bb bc bd [] none [] none 0, z, .mk 0 0 0 0 [] none us p 0] p2 0]).map WJ = (accts.take (i + 1)).map fun a => acV a.er := by
  rw [List.map_append, her, Kp hx, List.map_append]
  congr 1
  show [WJ _] = [acV (AcL.er ⟨addr, nonce, ⟨ba, bb, bc, bd⟩, code, slots, ap⟩)]
  rw [List.take_length] at hu; simp only [KZ, Wd, List.map_cons, List.map_nil, hy, hz, hu]
  rfl
theorem Jvq (accts : List AcL) : Vl.mk 0 0 0 0 [] none (accts.map fun a => acV a.er) none 0 = XL (accts.map AcL.er) := by
  unfold XL KI
  rw [List.map_map]; rfl
open Classical in
theorem Jsa {α : Type} (a b : α) (Z Y M U W : List α) : (a :: b :: (Z ++ (Y ++ (M ++ (U ++ W))))).Perm (U ++ (a :: b :: (M ++ (Z ++ (Y ++ W))))) := by
  rw [List.perm_iff_count]; intro x; simp only [List.count_append, List.count_cons]; omega
open Classical in
theorem Jsb {α : Type} (a b : α) (Z Y M U F V E : List α) : (a :: b :: (Z ++ (Y ++ (M ++ (U ++ (F ++ (V ++ E))))))).Perm (V ++ (a :: b :: (M ++ (Z ++ (Y ++ (U ++ (F ++ E))))))) := by
  rw [List.perm_iff_count]; intro x; simp only [List.count_append, List.count_cons]; omega
open Classical in
theorem Jsc {α : Type} (r a b : α) (M Z Y F W : List α) : (r :: a :: b :: (M ++ (Z ++ (Y ++ (F ++ W))))).Perm (a :: (M ++ (r :: ((b :: (Z ++ (Y ++ F))) ++ W)))) := by
  rw [List.perm_iff_count]; intro x; simp only [List.count_append, List.count_cons]; omega
open Classical in
theorem Jsd {α : Type} (r a b : α) (M W : List α) : (r :: a :: b :: (M ++ W)).Perm (a :: (M ++ (r :: (b :: W)))) := by
  rw [List.perm_iff_count]; intro x; simp only [List.count_append, List.count_cons]; omega
def Ac1 (a : AcL) : Prop := a.addr.length ≤ 100000 ∧ a.code.length ≤ 100000 ∧ a.slots.length ≤ 100000 ∧ ∀ x ∈ a.slots, x.1.length ≤ 100000 ∧ x.2.length ≤ 100000
set_option maxHeartbeats 2000000 in
theorem Jh1 {R : Jq} {accts : List AcL} {p : Pl} (hs : StL.In R ⟨accts, p⟩) (hn : accts.length ≤ 100000) (hb : ∀ a ∈ accts, Ac1 a) : PureT (α := VR (XL (accts.map AcL.er))) Tryz.prog 54 [KL accts.length p].toArray (fun y => y.x.val) [] (fun y => y.L) R := by
  have hseg : Seg R accts.length (jv accts) p := hs.seg
  refine JF Tryz.func54 rfl rfl fun w => ?_; refine sR fun _ hK1 => ?_; refine LN rfl fun r1 => ?_; refine nK hK1 (sR fun _ hK2 => ?_); refine LN rfl fun r2 => ?_; refine nK hK2 (sQ fun _ hK3 => ?_); refine sR fun _ hK4 => Ji rfl (LR rfl (J4 rfl hseg rfl) (Ji rfl ?_)); refine nK hK4 (Jt ?_); refine JK (σ := Nat × List Vl × Vu × Jq) (fun q => q.1 ≤ accts.length ∧ rowOk 7 q.1 (Qg q.2.1) q.2.2.1 ∧ (∀ x ∈ q.2.1, Vl.In q.2.2.2 x) ∧ q.2.1.map WJ = (accts.take q.1).map fun a => acV a.er) (fun q => [(2, V6 r1), (3, V6 r2), (9, KL accts.length p), (10, .int .i64 (accts.length : Int)), (11, .int .i64 (q.1 : Int))]) (fun q => (r2, .cells #[.int .u64 0, .int .u64 0, .int .u64 0, .int .u64 0, .slice none 0 0, JC q.1 q.2.2.1, .int .i64 0] 81 (0, 0)) :: (r1, .cells #[.int .u64 0, .int .u64 0, .int .u64 0, .int .u64 0, .slice none 0 0, .slice none 0 0, .int .i64 0] 81 (0, 0)) :: (JU 81 (Qg q.2.1) q.2.2.1 ++ q.2.2.2)) (fun _ _ _ => True) (fun q => accts.length - q.1) (0, [], none, []) ⟨Nat.zero_le _, ⟨rfl, rfl⟩, fun x hx => (nomatch hx), rfl⟩ (.cons rfl (.cons rfl (.cons rfl (.cons rfl (.cons rfl .nil))))) (by simp only [JU, List.nil_append, List.append_nil]; exact List.Sublist.refl _) (fun _ _ h => h) ?_; rintro ⟨i, vs, row, E⟩ ⟨hi1, hrow, hin, her⟩; simp only at hi1 hrow hin her; refine sR fun _ hK5 => JV rfl (nK hK5 ?_); refine sQ fun _ hK6 => ?_; refine Jc rfl (fun h7 => ?_) (fun h7 => ?_)
  · try simp only [ZZ] at h7
    refine Jf (hK6 ?_); refine sB fun _ hK8 => sQ fun _ hK9 => ?_
    obtain ⟨a, ha, hma⟩ := Vg (show i < accts.length by omega)
    have ha2 := hs.accts a hma
    obtain ⟨hb1, hb2, hb3, hb4⟩ := hb a hma
    obtain ⟨addr, nonce, ⟨ba, bb, bc, bd⟩, code, slots, ap⟩ := a
    have hnu : Xw nonce := ha2.nonce
    have hba : W4.ok ⟨ba, bb, bc, bd⟩ := ha2.bal
    have hsg : Seg R slots.length (wo slots) ap := ha2.seg
    simp only at hb1 hb2 hb3 hb4; refine Ja ?_
    refine LR rfl (Js (j := i) rfl hseg rfl rfl rfl (by first | rfl | omega) (by omega)) ?_; refine LR rfl (KG AcL.len (fun q hq => Or.inr hq) rfl hseg ha rfl rfl) ?_; refine LN rfl fun r3 => ?_
    refine LT 0 rfl rfl (nK hK9 ?_); refine sR fun _ hK10 => ?_; refine LN rfl fun r4 => ?_; refine nK hK10 (sQ fun _ hK11 => ?_); refine sR fun _ hK12 => ?_
    refine LS 2 [1] rfl rfl ?_; refine LR rfl (J4 rfl hsg rfl) ?_; refine Ji rfl (nK hK12 ?_); refine Jt ?_; refine JK (σ := Nat × List Vl × Vu × Jq) (fun q => q.1 ≤ slots.length ∧ rowOk 7 q.1 (Qg q.2.1) q.2.2.1 ∧ (∀ x ∈ q.2.1, Vl.In q.2.2.2 x) ∧ q.2.1.map WJ = (slots.take q.1).map jI) (fun q => [(2, V6 r1), (3, V6 r2), (5, V6 r3), (6, V6 r4), (9, KL accts.length p), (10, .int .i64 (accts.length : Int)), (11, .int .i64 (i : Int)), (16, KL slots.length ap), (17, .int .i64 (slots.length : Int)), (18, .int .i64 (q.1 : Int))]) (fun q => (r4, .cells #[.int .u64 0, .int .u64 0, .int .u64 0, .int .u64 0, .slice none 0 0, JC q.1 q.2.2.1, .int .i64 0] 81 (0, 0)) :: (r3, .cells #[J3 addr, uV nonce, uV ba, uV bb, uV bc, uV bd, J3 code, KL slots.length ap] 34 (0, 0)) :: (r2, .cells #[.int .u64 0, .int .u64 0, .int .u64 0, .int .u64 0, .slice none 0 0, JC i row, .int .i64 0] 81 (0, 0)) :: (r1, .cells #[.int .u64 0, .int .u64 0, .int .u64 0, .int .u64 0, .slice none 0 0, .slice none 0 0, .int .i64 0] 81 (0, 0)) :: (JU 81 (Qg q.2.1) q.2.2.1 ++ (q.2.2.2 ++ (JU 81 (Qg vs) row ++ E)))) (fun _ _ _ => True) (fun q => slots.length - q.1) (0, [], none, []) ⟨Nat.zero_le _, ⟨rfl, rfl⟩, fun x hx => (nomatch hx), rfl⟩ (.cons rfl (.cons rfl (.cons rfl (.cons rfl (.cons rfl (.cons rfl (.cons rfl (.cons rfl (.cons rfl (.cons rfl .nil)))))))))) (by simp only [JU, List.nil_append, List.append_nil]; exact List.Sublist.refl _) (fun _ _ h => h) ?_; rintro ⟨j, us, rw2, F⟩ ⟨hj1, hrow2, hin2, her2⟩; simp only at hj1 hrow2 hin2 her2; refine sR fun _ hK13 => JV rfl (nK hK13 ?_); refine sQ fun _ hK14 => ?_; refine Jc rfl (fun h15 => ?_) (fun h15 => ?_)
    · try simp only [ZZ] at h15
      refine Jf (hK14 ?_); refine sB fun _ hK16 => sQ fun _ hK17 => ?_
      obtain ⟨⟨k, v⟩, hx, hmx⟩ := Vg (show j < slots.length by omega)
      obtain ⟨hk1, hv1⟩ := hb4 _ hmx
      simp only at hk1 hv1; refine Ja ?_
      refine LR rfl (Js (j := j) rfl hsg rfl rfl rfl (by first | rfl | omega) (by omega)) ?_; refine LR rfl (KG Kk (fun q hq => Or.inr hq) rfl hsg hx rfl rfl) ?_; refine LN rfl fun r5 => ?_
      refine LT 0 rfl rfl (nK hK17 ?_)
      refine JR [(r4, .cells #[.int .u64 0, .int .u64 0, .int .u64 0, .int .u64 0, .slice none 0 0, JC j rw2, .int .i64 0] 81 (0, 0)), (r5, .cells #[J3 k, J3 v] 59 (0, 0))] [(0, .pure), (1, .pure), (2, .pure), (3, .pure), (4, .grow (Qr (Jos hk1) (fun y => y.x.val) (fun y => y.L))), (5, .pure), (6, .pure), (7, .grow (Qr (Jos hv1) (fun y => y.x.val) (fun y => y.L))), (8, .dep [26, 29] (Jbn 2 81)), (9, .pure), (10, .dep [31] (Jbn 1 81))] 11 [0, 1, 2, 3, 5, 6, 4, 7, 8, 9, 10] (by kernel_rfl) (by kernel_rfl) (by first | exact (fun _ h => absurd h List.not_mem_nil) | simp [SubS] | (intro p hp; simp [hp])) ?_
      refine Jw (k := 0) rfl rfl rfl rfl rfl (fun _ hS => (JM rfl rfl rfl)) ?_; refine Jw (k := 1) rfl rfl rfl rfl rfl (fun _ hS => (Jk rfl (.inl (hS _ (Ku (n := 0) rfl))) rfl rfl)) ?_
      refine Jw (k := 2) rfl rfl rfl rfl rfl (fun _ hS => (JM rfl rfl rfl)) ?_; refine Jw (k := 3) rfl rfl rfl rfl rfl (fun _ hS => (Jk rfl (.inl (hS _ (Ku (n := 1) rfl))) rfl rfl)) ?_
      refine Jw (k := 5) rfl rfl rfl rfl rfl (fun _ hS => (JM rfl rfl rfl)) ?_; refine Jw (k := 6) rfl rfl rfl rfl rfl (fun _ hS => (Jk rfl (.inl (hS _ (Ku (n := 1) rfl))) rfl rfl)) ?_; refine KX (k := 4) rfl rfl rfl rfl rfl Jqa (Jah hk1) (fun q hq => nomatch hq) fun y => ?_
      obtain ⟨⟨ya, yb, yc, yd, ybits, ypb, yitems, ypi, ypick⟩, yL, yok, yer⟩ := y
      refine KX (k := 7) rfl rfl rfl rfl rfl Jqa (Jah hv1) (fun q hq => nomatch hq) fun y => ?_
      obtain ⟨⟨za, zb, zc, zd, zbits, zpb, zitems, zpi, zpick⟩, zL, zok, zer⟩ := y
      refine Vx (k := 8) (dv := [_, _]) (n := 2) (sz := 7) (vs := [_, _]) (zs := [_, _, _, _, _, _, _, _, _, _, _, _, _, _]) (r := [uV ya, uV yb, uV yc, uV yd, KL ybits.length ypb, KL yitems.length ypi, .int .i64 ypick, uV za, uV zb, uV zc, uV zd, KL zbits.length zpb, KL zitems.length zpi, .int .i64 zpick]) rfl rfl rfl rfl rfl rfl rfl rfl rfl rfl rfl rfl rfl (by rw [Ks]; exact rfl) rfl fun rb => ?_; refine Jw (k := 9) rfl rfl rfl rfl rfl (fun _ hS => (JI (r := [_, _, _, _, _, _, _]) rfl rfl)) ?_; refine Vx (k := 10) (dv := [_]) (n := 1) (sz := 7) (vs := [_]) (zs := [_, _, _, _, _, _, _]) (r := [.int .u64 0, .int .u64 0, .int .u64 0, .int .u64 0, .slice none 0 0, .slice (some ⟨rb, 0, none⟩) 2 2, .int .i64 0]) rfl rfl rfl rfl rfl rfl rfl rfl rfl rfl rfl rfl rfl (by rw [Ks]; exact rfl) rfl fun rc => ?_; refine KA ?_; refine KD (Jsa (M := [_, _, _, _, _]) ..) ?_; refine Kj (L0 := _) (xs := Qg us) (row := rw2) (n := j) (sz := 7) (b := 88) (news := [_, _, _, _, _, _, _]) (List.Perm.refl _) rfl rfl rfl rfl (kn 0 rfl) rfl rfl rfl rfl rfl (by decide) rfl rfl rfl (by decide) hrow2 (by omega) (by omega) fun ra cap sp hra => ?_
      refine LS 1 [] rfl rfl ?_; refine Kv (k := 4) (cs' := #[.int .u64 0, .int .u64 0, .int .u64 0, .int .u64 0, .slice none 0 0, JC (j + 1) (some (ra, cap, sp)), .int .i64 0]) rfl rfl rfl rfl rfl rfl rfl rfl rfl rfl ?_; refine Jg (Jj (hK16 ?_)); refine Ja ?_
      refine JV rfl ?_; refine Jz (show _ = Value.int .i64 ((j + 1 : Nat) : Int) from by rw [wrap_i64 (by omega) (by omega)]; congr 1 <;> omega) ?_; refine Ji rfl (Jg (J7 ?_))
      have hvc : Qg us ++ Vl.cells (.mk 0 0 0 0 [] none [(.mk ya yb yc yd ybits ypb yitems ypi ypick), (.mk za zb zc zd zbits zpb zitems zpi zpick)] (some (⟨rb, 0, none⟩, 2)) 0) = Qg (us ++ [.mk 0 0 0 0 [] none [(.mk ya yb yc yd ybits ypb yitems ypi ypick), (.mk za zb zc zd zbits zpb zitems zpi zpick)] (some (⟨rb, 0, none⟩, 2)) 0]) := by unfold Qg; rw [List.flatMap_append]; simp
      refine Xt (Jsc (M := [_, _, _, _, _]) ..) ?_; exact J2 (j + 1, us ++ [.mk 0 0 0 0 [] none [(.mk ya yb yc yd ybits ypb yitems ypi ypick), (.mk za zb zc zd zbits zpb zitems zpi zpick)] (some (⟨rb, 0, none⟩, 2)) 0], some (ra, cap, sp), _ :: (zL ++ (yL ++ F))) ⟨by simp only; omega, by simp only; rw [← hvc]; exact hra, fun z hz => Jvm hin2 yok zok hz, Jvn her2 hx yer zer⟩ (by simp only; omega) (.cons rfl (.cons rfl (.cons rfl (.cons rfl (.cons rfl (.cons rfl (.cons rfl (.cons rfl (.cons rfl (.cons rfl .nil)))))))))) (by simp only; rw [← hvc]; exact .cons _ (.cons _ (List.Sublist.refl _))) (fun _ _ h => h)
    · try simp only [ZZ] at h15
      refine JG (Jm ?_); refine Jm (J0 (hK11 ?_))
      obtain rfl : j = slots.length := by omega
      have hul : us.length = slots.length := by have := congrArg List.length her2; simpa using this
      have hvr2 : JC slots.length rw2 = KL us.length (Vi rw2) := by rw [hul]; exact (Wa _ _ (fun h => by rw [h] at hrow2; exact hrow2.1)).symm
      rw [hvr2]
      refine JR [(r2, .cells #[.int .u64 0, .int .u64 0, .int .u64 0, .int .u64 0, .slice none 0 0, JC i row, .int .i64 0] 81 (0, 0)), (r3, .cells #[J3 addr, uV nonce, uV ba, uV bb, uV bc, uV bd, J3 code, KL slots.length ap] 34 (0, 0)), (r4, .cells #[.int .u64 0, .int .u64 0, .int .u64 0, .int .u64 0, .slice none 0 0, KL us.length (Vi rw2), .int .i64 0] 81 (0, 0))] [(0, .pure), (1, .pure), (2, .pure), (3, .pure), (4, .grow (Qr (Jos hb1) (fun y => y.x.val) (fun y => y.L))), (5, .pure), (6, .pure), (7, .pure), (8, .pure), (9, .pure), (10, .pure), (11, .pure), (12, .pure), (13, .pure), (14, .grow (Qr (Jos hb2) (fun y => y.x.val) (fun y => y.L))), (15, .pure), (16, .dep [40, 44, 47, 50, 51] (Jbn 5 81)), (17, .pure), (18, .dep [53] (Jbn 1 81))] 19 [0, 1, 2, 3, 5, 6, 9, 10, 11, 12, 13, 15, 4, 7, 8, 14, 16, 17, 18] (by kernel_rfl) (by kernel_rfl) (by first | exact (fun _ h => absurd h List.not_mem_nil) | simp [SubS] | (intro p hp; simp [hp])) ?_
      refine Jw (k := 0) rfl rfl rfl rfl rfl (fun _ hS => (JM rfl rfl rfl)) ?_; refine Jw (k := 1) rfl rfl rfl rfl rfl (fun _ hS => (Jk rfl (.inl (hS _ (Ku (n := 0) rfl))) rfl rfl)) ?_
      refine Jw (k := 2) rfl rfl rfl rfl rfl (fun _ hS => (JM rfl rfl rfl)) ?_; refine Jw (k := 3) rfl rfl rfl rfl rfl (fun _ hS => (Jk rfl (.inl (hS _ (Ku (n := 1) rfl))) rfl rfl)) ?_
      refine Jw (k := 5) rfl rfl rfl rfl rfl (fun _ hS => (JM rfl rfl rfl)) ?_; refine Jw (k := 6) rfl rfl rfl rfl rfl (fun _ hS => (Jk rfl (.inl (hS _ (Ku (n := 1) rfl))) rfl rfl)) ?_
      refine Jw (k := 9) rfl rfl rfl rfl rfl (fun _ hS => (JM rfl rfl rfl)) ?_; refine Jw (k := 10) rfl rfl rfl rfl rfl (fun _ hS => (Jx (vs := [_, _, _, _]) rfl (.inl (hS _ (Ku (n := 1) rfl))) rfl rfl rfl rfl)) ?_; refine Jw (k := 11) rfl rfl rfl rfl rfl (fun _ hS => (JI (r := [_, _, _, _, _, _, _]) rfl rfl)) ?_
      refine Jw (k := 12) rfl rfl rfl rfl rfl (fun _ hS => (JM rfl rfl rfl)) ?_; refine Jw (k := 13) rfl rfl rfl rfl rfl (fun _ hS => (Jk rfl (.inl (hS _ (Ku (n := 1) rfl))) rfl rfl)) ?_; refine Jw (k := 15) rfl rfl rfl rfl rfl (fun _ hS => (Jx (vs := [_, _, _, _, _, _, _]) rfl (.inl (hS _ (Ku (n := 2) rfl))) rfl rfl rfl rfl)) ?_; refine KX (k := 4) rfl rfl rfl rfl rfl Jqa (Jah hb1) (fun q hq => nomatch hq) fun y => ?_
      obtain ⟨⟨ya, yb, yc, yd, ybits, ypb, yitems, ypi, ypick⟩, yL, yok, yer⟩ := y
      refine W7 (k := 7) rfl rfl rfl rfl rfl Jk6 (XU _) ?_; refine Jw (k := 8) rfl rfl rfl rfl rfl (fun _ hS => (JI (r := [_, _, _, _, _, _, _]) rfl rfl)) ?_; refine KX (k := 14) rfl rfl rfl rfl rfl Jqa (Jah hb2) (fun q hq => nomatch hq) fun y => ?_
      obtain ⟨⟨za, zb, zc, zd, zbits, zpb, zitems, zpi, zpick⟩, zL, zok, zer⟩ := y
      refine Vx (k := 16) (dv := [_, _, _, _, _]) (n := 5) (sz := 7) (vs := [_, _, _, _, _]) (zs := [_, _, _, _, _, _, _, _, _, _, _, _, _, _, _, _, _, _, _, _, _, _, _, _, _, _, _, _, _, _, _, _, _, _, _]) (r := [uV ya, uV yb, uV yc, uV yd, KL ybits.length ypb, KL yitems.length ypi, .int .i64 ypick, uV nonce, uV 0, uV 0, uV 0, .slice none 0 0, .slice none 0 0, .int .i64 0, uV ba, uV bb, uV bc, uV bd, .slice none 0 0, .slice none 0 0, .int .i64 0, uV za, uV zb, uV zc, uV zd, KL zbits.length zpb, KL zitems.length zpi, .int .i64 zpick, uV 0, uV 0, uV 0, uV 0, .slice none 0 0, KL us.length (Vi rw2), .int .i64 0]) rfl rfl rfl rfl rfl rfl rfl rfl rfl rfl rfl rfl rfl (by rw [Ks]; exact rfl) rfl fun rb => ?_; refine Jw (k := 17) rfl rfl rfl rfl rfl (fun _ hS => (JI (r := [_, _, _, _, _, _, _]) rfl rfl)) ?_; refine Vx (k := 18) (dv := [_]) (n := 1) (sz := 7) (vs := [_]) (zs := [_, _, _, _, _, _, _]) (r := [.int .u64 0, .int .u64 0, .int .u64 0, .int .u64 0, .slice none 0 0, .slice (some ⟨rb, 0, none⟩) 5 5, .int .i64 0]) rfl rfl rfl rfl rfl rfl rfl rfl rfl rfl rfl rfl rfl (by rw [Ks]; exact rfl) rfl fun rc => ?_; refine KA ?_; refine KD (Jsb (M := [_, _, _, _]) ..) ?_; refine Kj (L0 := _) (xs := Qg vs) (row := row) (n := i) (sz := 7) (b := 88) (news := [_, _, _, _, _, _, _]) (List.Perm.refl _) rfl rfl rfl rfl (kn 0 rfl) rfl rfl rfl rfl rfl (by decide) rfl rfl rfl (by decide) hrow (by omega) (by omega) fun ra cap sp hra => ?_
      refine LS 1 [] rfl rfl ?_; refine Kv (k := 5) (cs' := #[.int .u64 0, .int .u64 0, .int .u64 0, .int .u64 0, .slice none 0 0, JC (i + 1) (some (ra, cap, sp)), .int .i64 0]) rfl rfl rfl rfl rfl rfl rfl rfl rfl rfl ?_; refine Jg (Jj (hK8 ?_)); refine Ja ?_
      refine JV rfl ?_; refine Jz (show _ = Value.int .i64 ((i + 1 : Nat) : Int) from by rw [wrap_i64 (by omega) (by omega)]; congr 1 <;> omega) ?_; refine Ji rfl (Jg (J7 ?_))
      have hvc : Qg vs ++ Vl.cells (.mk 0 0 0 0 [] none [(.mk ya yb yc yd ybits ypb yitems ypi ypick), (.mk nonce 0 0 0 [] none [] none 0), (.mk ba bb bc bd [] none [] none 0), (.mk za zb zc zd zbits zpb zitems zpi zpick), .mk 0 0 0 0 [] none us (Vi rw2) 0] (some (⟨rb, 0, none⟩, 5)) 0) = Qg (vs ++ [.mk 0 0 0 0 [] none [(.mk ya yb yc yd ybits ypb yitems ypi ypick), (.mk nonce 0 0 0 [] none [] none 0), (.mk ba bb bc bd [] none [] none 0), (.mk za zb zc zd zbits zpb zitems zpi zpick), .mk 0 0 0 0 [] none us (Vi rw2) 0] (some (⟨rb, 0, none⟩, 5)) 0]) := by unfold Qg; rw [List.flatMap_append]; simp
      refine Xt (Jsd (M := [_, _, _, _]) ..) ?_; exact J2 (i + 1, vs ++ [.mk 0 0 0 0 [] none [(.mk ya yb yc yd ybits ypb yitems ypi ypick), (.mk nonce 0 0 0 [] none [] none 0), (.mk ba bb bc bd [] none [] none 0), (.mk za zb zc zd zbits zpb zitems zpi zpick), .mk 0 0 0 0 [] none us (Vi rw2) 0] (some (⟨rb, 0, none⟩, 5)) 0], some (ra, cap, sp), _ :: (zL ++ (yL ++ (_ ++ (F ++ E))))) ⟨by simp only; omega, by simp only; rw [← hvc]; exact hra, fun z hz => Jvo hin (Qe hrow2 (by decide)) hul hb3 hin2 hnu hba yok zok hz, Jvp her ha yer zer her2⟩ (by simp only; omega) (.cons rfl (.cons rfl (.cons rfl (.cons rfl (.cons rfl .nil))))) (by simp only; rw [← hvc]; exact .cons _ (.cons _ (.cons _ (List.Sublist.refl _)))) (fun _ _ h => h)
  · try simp only [ZZ] at h7
    refine JG (Jm ?_); refine Jm (J0 (hK3 ?_)); refine sQ fun _ hK18 => ?_
    have honeV : ([.int .u64 0, .int .u64 0, .int .u64 0, .int .u64 0, .slice none 0 0, JC i row, .int .i64 0] : List Value).all QP = true := by cases row <;> rfl
    refine Ja (LR rfl (Jo (xs := [.int .u64 0, .int .u64 0, .int .u64 0, .int .u64 0, .slice none 0 0, JC i row, .int .i64 0]) (n := 7) rfl (kn 0 rfl) rfl rfl rfl) (Jy (k := 1) (n := 7) (ys := [.int .u64 0, .int .u64 0, .int .u64 0, .int .u64 0, .slice none 0 0, JC i row, .int .i64 0]) rfl rfl rfl rfl rfl rfl rfl honeV rfl ?_)); refine nK hK18 (Jb ?_); refine Ju rfl rfl (.cons (J8 (vs := [_, _, _, _, _, _, _]) rfl (kn 1 rfl) rfl rfl) .nil) (fun w1 hs1 => ?_)
    have hiM : i = accts.length := by omega
    have hvl : vs.length = i := by have := congrArg List.length her; simp at this; omega
    rw [hiM, List.take_length] at her; rw [← hvl] at hrow
    have hvr : JC i row = KL vs.length (Vi row) := by rw [← hvl]; exact (Wa _ _ (fun h => by rw [h] at hrow; exact hrow.1)).symm
    exact ⟨⟨.mk 0 0 0 0 [] none vs (Vi row) 0, JU 81 (Qg vs) row ++ E, jF (by omega) (Qe hrow (by decide)) hin i0, by rw [KZ, Wd, her]; exact Jvq ..⟩, congrArg (fun z => Ending.returned (Value.agg #[.int .u64 0, .int .u64 0, .int .u64 0, .int .u64 0, .slice none 0 0, z, .int .i64 0])) hvr, hs1.weakL (.cons _ (.cons _ (List.Sublist.refl _)))⟩
def vA (x : AcL) : Value := .agg (AcL.cells x).toArray
theorem Jam (x : AcL) : Pure Tryz.prog 39 [vA x].toArray (J3 (AcL.addr x)) := by
  refine JE Tryz.func39 rfl rfl fun w => ?_; refine sR fun _ hK1 => ?_; refine LN rfl fun r1 => ?_; refine Ji rfl (nK hK1 ?_); refine sR fun _ hK2 => ?_
  refine LS 3 [0] rfl rfl (nK hK2 ?_); refine Jb (pT rfl rfl rfl fun w1 hs1 => ?_); exact ⟨rfl, hs1.keep⟩
theorem Jou {R : Jq} {xs : List AcL} {p : Pl} (hl : xs.length ≤ 9223372036854775807) (hs : Seg R xs.length (xs.flatMap AcL.cells) p) {g : FuncId} {caps : List Value} {pr : AcL → Bool} (eg : Enters Tryz.prog g) (hg : ∀ x ∈ xs, PureR Tryz.prog g (vA x :: caps).toArray (.bool (pr x)) R) :
    PureR Tryz.prog 34 [KL xs.length p, .func (.func g) #[] caps.toArray].toArray (.int .i64 (Yt pr xs)) R := by
  refine Je Tryz.func34 rfl rfl fun w => ?_; refine sR fun _ hK1 => Ji rfl (nK hK1 ?_); refine sQ fun _ hK2 => sR fun _ hK3 => ?_; refine Ji rfl (LR rfl (J4 rfl hs rfl) (Ji rfl ?_)); refine nK hK3 (Jt ?_); refine JK (σ := Nat) (fun i => i ≤ xs.length ∧ ∀ j, j < i → ∀ y, xs[j]? = some y → pr y = false) (fun i => [(0, KL xs.length p), (1, .func (.func g) #[] caps.toArray), (7, .int .i64 (xs.length : Int)), (8, .int .i64 (i : Int))]) (fun _ => []) (fun _ _ _ => True) (fun i => xs.length - i) 0 ⟨by omega, fun j hj => absurd hj (by omega)⟩ (.cons rfl (.cons rfl (.cons rfl (.cons rfl .nil)))) (List.nil_sublist _) (fun _ _ h => h) ?_; rintro i ⟨hi1, hinv⟩; refine sR fun _ hK4 => JV rfl (nK hK4 ?_); refine sQ fun _ hK5 => ?_; refine Jc rfl (fun h6 => ?_) (fun h6 => ?_)
  try simp only [ZZ] at h6
  refine Jf (hK5 ?_); refine sB fun _ hK7 => sR fun _ hK8 => ?_; refine LS 2 [] rfl rfl (nK hK8 ?_); refine sQ fun _ hK9 => ?_
  obtain ⟨x, hx, hmx⟩ := Vg (show i < xs.length by omega)
  refine Ja (LS 3 [] rfl rfl ?_)
  refine LR rfl (Js (j := i) rfl hs rfl rfl rfl (by first | rfl | omega) (by omega)) ?_; refine LR rfl (KG AcL.len (fun q hq => Or.inr hq) rfl hs hx rfl rfl) ?_; refine Jh rfl rfl rfl eg (hg x hmx) (fun q hq => Or.inr hq) ?_; refine nK hK9 ?_; refine Jc rfl (fun h10 => ?_) (fun h10 => ?_)
  try simp only [ZZ] at h10
  refine sR fun _ hK11 => LS 2 [] rfl rfl (nK hK11 ?_); refine Jb (Jn (Jd ?_)); refine Jd (Jn (Jd ?_)); refine pT rfl rfl rfl fun w1 hs1 => ?_; refine ⟨?_, hs1.keep⟩; rw [Jcc hx (by assumption) hinv]; rfl
  try simp only [ZZ] at h10
  refine Jf (Jj (hK7 ?_)); refine Ja (JV rfl (Jv (by omega) (by omega) ?_)); refine Ji rfl (Jg (J7 ?_))
  exact J2 (i + 1) ⟨by omega, fun j hj y hy => by
    rcases Nat.lt_succ_iff_lt_or_eq.1 hj with hj | rfl
    exact hinv j hj y hy
    rw [hx] at hy; cases hy; assumption⟩ (by omega) (.cons rfl (.cons rfl (.cons rfl (.cons rfl .nil)))) (List.nil_sublist _) (fun _ _ h => h)
  · try simp only [ZZ] at h6
    refine JG (Jm ?_); refine Jm (J0 (hK2 ?_)); refine sR fun _ hK12 => Ji rfl (nK hK12 ?_); refine Jb (pT rfl rfl rfl fun w1 hs1 => ?_); refine ⟨?_, hs1.keep⟩; rw [Jcb fun j x hx => hinv j (by have := (List.getElem?_eq_some_iff.1 hx).1; omega) x hx]; rfl
theorem Jov {R : Jq} {xs : List AcL} {p : Pl} (hl : xs.length ≤ 9223372036854775807) (hs : Seg R xs.length (xs.flatMap AcL.cells) p) :
    PureR Tryz.prog 38 [KL xs.length p, fV 39].toArray (.bool (Vf AcL.addr xs)) R := by
  refine Je Tryz.func38 rfl rfl fun w => ?_; refine sR fun K1 hK1 => Ji rfl (nK hK1 ?_); clear hK1 K1; refine sQ fun K2 hK2 => sR fun K3 hK3 => ?_; refine Ji rfl (nK hK3 ?_); clear hK3 K3; refine Jt ?_; refine JK (σ := Nat) (fun i => (i = 0 ∨ i < xs.length) ∧ ∀ j x y, j < i → xs[j]? = some x → xs[j + 1]? = some y → Op.bytesLess (AcL.addr x) (AcL.addr y) = true) (fun i => [(0, KL xs.length p), (1, fV 39), (5, .int .i64 ((i + 1 : Nat) : Int))]) (fun _ => []) (fun _ _ _ => True) (fun i => xs.length - i) 0 ⟨.inl rfl, fun j _ _ hj => absurd hj (by omega)⟩ (.cons rfl (.cons rfl (.cons rfl .nil))) (List.nil_sublist _) (fun _ _ h => h) ?_; rintro i ⟨hi1, hinv⟩; refine sQ fun K4 hK4 => sR fun K5 hK5 => ?_; refine LS 2 [] rfl rfl ?_; refine LR rfl (J4 rfl hs rfl) ?_; refine JV rfl (nK hK5 ?_); clear hK5 K5; refine Jc rfl (fun h6 => ?_) (fun h6 => ?_)
  try simp only [ZZ] at h6
  refine Jf (hK4 ?_); clear hK4 K4; refine sB fun K7 hK7 => sQ fun K8 hK8 => ?_
  obtain ⟨x, hx, hmx⟩ := Vg (show i < xs.length by omega)
  obtain ⟨y, hy, hmy⟩ := Vg (show i + 1 < xs.length by omega)
  refine JX 14 (by kernel_rfl) (by kernel_rfl) ?_; refine Jl rfl rfl rfl (Jp rfl) ?_; refine Jl rfl rfl rfl (Jp rfl) ?_; refine Jl rfl rfl rfl (Jp rfl) ?_; refine Jl rfl rfl rfl (J9 rfl rfl rfl) ?_; refine Wz (by omega) (by omega) ?_
  refine Jl rfl rfl rfl (Js (j := i) rfl hs rfl rfl rfl (by first | rfl | omega) (by omega)) ?_; refine Jl rfl rfl rfl (KG AcL.len (fun q hq => Or.inr hq) rfl hs hx rfl rfl) ?_; refine Qu rfl rfl rfl Jp7 (Jam x) ?_; refine Jl rfl rfl rfl (Jp rfl) ?_; refine Jl rfl rfl rfl (Jp rfl) ?_; refine Jl rfl rfl rfl (Jp rfl) ?_
  refine Jl rfl rfl rfl (Js (j := (i + 1)) rfl hs rfl rfl rfl (by first | rfl | omega) (by omega)) ?_; refine Jl rfl rfl rfl (KG AcL.len (fun q hq => Or.inr hq) rfl hs hy rfl rfl) ?_; refine Qu rfl rfl rfl Jp7 (Jam y) ?_; refine Jl rfl rfl rfl (Jgv rfl rfl) ?_; refine Ky ?_; refine nK hK8 ?_; clear hK8 K8; refine Jc rfl (fun h9 => ?_) (fun h9 => ?_)
  try simp only [ZZ] at h9
  refine sR fun K10 hK10 => Ji rfl (nK hK10 ?_); clear hK10 K10; refine Jb (Jn (Jd ?_)); clear hK7 K7; refine Jd (Jn (Jd ?_)); clear hK2 K2; refine pT rfl rfl rfl fun w1 hs1 => ?_; refine ⟨?_, hs1.keep⟩; rw [jy hx hy (by simp_all)]; rfl
  try simp only [ZZ] at h9
  refine Jf (Jj (hK7 ?_)); clear hK7 K7; refine Ja (LS 2 [] rfl rfl (Jv (by omega) (by omega) ?_)); refine Ji rfl (Jg (J7 ?_))
  exact J2 (i + 1) ⟨.inr (by omega), fun j u v hj hu hv => by
    rcases Nat.lt_succ_iff_lt_or_eq.1 hj with hj | rfl
    exact hinv j u v hj hu hv
    rw [hx] at hu; rw [hy] at hv; cases hu; cases hv; simp_all⟩ (by omega) (.cons rfl (.cons rfl (.cons rfl .nil))) (List.nil_sublist _) (fun _ _ h => h)
  · try simp only [ZZ] at h6
    refine JG (Jm ?_); clear hK4 K4; refine Jm (J0 (hK2 ?_)); clear hK2 K2; refine sR fun K11 hK11 => Ji rfl (nK hK11 ?_); clear hK11 K11; refine Jb (pT rfl rfl rfl fun w1 hs1 => ?_); refine ⟨?_, hs1.keep⟩; rw [Zm fun j u v hu hv => hinv j u v (by have := (List.getElem?_eq_some_iff.1 hv).1; omega) hu hv]; rfl
def vS (x : (BS × BS)) : Value := .agg (QR x).toArray
theorem Jan (x : (BS × BS)) : Pure Tryz.prog 48 [vS x].toArray (J3 (Prod.fst x)) := by
  refine JE Tryz.func48 rfl rfl fun w => ?_; refine sR fun _ hK1 => ?_; refine LN rfl fun r1 => ?_; refine Ji rfl (nK hK1 ?_); refine sR fun _ hK2 => ?_
  refine LS 3 [0] rfl rfl (nK hK2 ?_); refine Jb (pT rfl rfl rfl fun w1 hs1 => ?_); exact ⟨rfl, hs1.keep⟩
theorem yo {R : Jq} {xs : List (BS × BS)} {p : Pl} (hl : xs.length ≤ 9223372036854775807) (hs : Seg R xs.length (xs.flatMap QR) p) {g : FuncId} {caps : List Value} {pr : (BS × BS) → Bool} (eg : Enters Tryz.prog g) (hg : ∀ x ∈ xs, PureR Tryz.prog g (vS x :: caps).toArray (.bool (pr x)) R) :
    PureR Tryz.prog 40 [KL xs.length p, .func (.func g) #[] caps.toArray].toArray (.int .i64 (Yt pr xs)) R := by
  refine Je Tryz.func40 rfl rfl fun w => ?_; refine sR fun _ hK1 => Ji rfl (nK hK1 ?_); refine sQ fun _ hK2 => sR fun _ hK3 => ?_; refine Ji rfl (LR rfl (J4 rfl hs rfl) (Ji rfl ?_)); refine nK hK3 (Jt ?_); refine JK (σ := Nat) (fun i => i ≤ xs.length ∧ ∀ j, j < i → ∀ y, xs[j]? = some y → pr y = false) (fun i => [(0, KL xs.length p), (1, .func (.func g) #[] caps.toArray), (7, .int .i64 (xs.length : Int)), (8, .int .i64 (i : Int))]) (fun _ => []) (fun _ _ _ => True) (fun i => xs.length - i) 0 ⟨by omega, fun j hj => absurd hj (by omega)⟩ (.cons rfl (.cons rfl (.cons rfl (.cons rfl .nil)))) (List.nil_sublist _) (fun _ _ h => h) ?_; rintro i ⟨hi1, hinv⟩; refine sR fun _ hK4 => JV rfl (nK hK4 ?_); refine sQ fun _ hK5 => ?_; refine Jc rfl (fun h6 => ?_) (fun h6 => ?_)
  try simp only [ZZ] at h6
  refine Jf (hK5 ?_); refine sB fun _ hK7 => sR fun _ hK8 => ?_; refine LS 2 [] rfl rfl (nK hK8 ?_); refine sQ fun _ hK9 => ?_
  obtain ⟨x, hx, hmx⟩ := Vg (show i < xs.length by omega)
  refine Ja (LS 3 [] rfl rfl ?_)
  refine LR rfl (Js (j := i) rfl hs rfl rfl rfl (by first | rfl | omega) (by omega)) ?_; refine LR rfl (KG Kk (fun q hq => Or.inr hq) rfl hs hx rfl rfl) ?_; refine Jh rfl rfl rfl eg (hg x hmx) (fun q hq => Or.inr hq) ?_; refine nK hK9 ?_; refine Jc rfl (fun h10 => ?_) (fun h10 => ?_)
  try simp only [ZZ] at h10
  refine sR fun _ hK11 => LS 2 [] rfl rfl (nK hK11 ?_); refine Jb (Jn (Jd ?_)); refine Jd (Jn (Jd ?_)); refine pT rfl rfl rfl fun w1 hs1 => ?_; refine ⟨?_, hs1.keep⟩; rw [Jcc hx (by assumption) hinv]; rfl
  try simp only [ZZ] at h10
  refine Jf (Jj (hK7 ?_)); refine Ja (JV rfl (Jv (by omega) (by omega) ?_)); refine Ji rfl (Jg (J7 ?_))
  exact J2 (i + 1) ⟨by omega, fun j hj y hy => by
    rcases Nat.lt_succ_iff_lt_or_eq.1 hj with hj | rfl
    exact hinv j hj y hy
    rw [hx] at hy; cases hy; assumption⟩ (by omega) (.cons rfl (.cons rfl (.cons rfl (.cons rfl .nil)))) (List.nil_sublist _) (fun _ _ h => h)
  · try simp only [ZZ] at h6
    refine JG (Jm ?_); refine Jm (J0 (hK2 ?_)); refine sR fun _ hK12 => Ji rfl (nK hK12 ?_); refine Jb (pT rfl rfl rfl fun w1 hs1 => ?_); refine ⟨?_, hs1.keep⟩; rw [Jcb fun j x hx => hinv j (by have := (List.getElem?_eq_some_iff.1 hx).1; omega) x hx]; rfl
theorem Jow {R : Jq} {xs : List (BS × BS)} {p : Pl} (hl : xs.length ≤ 9223372036854775807) (hs : Seg R xs.length (xs.flatMap QR) p) :
    PureR Tryz.prog 68 [KL xs.length p, fV 48].toArray (.bool (Vf Prod.fst xs)) R := by
  refine Je Tryz.func68 rfl rfl fun w => ?_; refine sR fun K1 hK1 => Ji rfl (nK hK1 ?_); clear hK1 K1; refine sQ fun K2 hK2 => sR fun K3 hK3 => ?_; refine Ji rfl (nK hK3 ?_); clear hK3 K3; refine Jt ?_; refine JK (σ := Nat) (fun i => (i = 0 ∨ i < xs.length) ∧ ∀ j x y, j < i → xs[j]? = some x → xs[j + 1]? = some y → Op.bytesLess (Prod.fst x) (Prod.fst y) = true) (fun i => [(0, KL xs.length p), (1, fV 48), (5, .int .i64 ((i + 1 : Nat) : Int))]) (fun _ => []) (fun _ _ _ => True) (fun i => xs.length - i) 0 ⟨.inl rfl, fun j _ _ hj => absurd hj (by omega)⟩ (.cons rfl (.cons rfl (.cons rfl .nil))) (List.nil_sublist _) (fun _ _ h => h) ?_; rintro i ⟨hi1, hinv⟩; refine sQ fun K4 hK4 => sR fun K5 hK5 => ?_; refine LS 2 [] rfl rfl ?_; refine LR rfl (J4 rfl hs rfl) ?_; refine JV rfl (nK hK5 ?_); clear hK5 K5; refine Jc rfl (fun h6 => ?_) (fun h6 => ?_)
  try simp only [ZZ] at h6
  refine Jf (hK4 ?_); clear hK4 K4; refine sB fun K7 hK7 => sQ fun K8 hK8 => ?_
  obtain ⟨x, hx, hmx⟩ := Vg (show i < xs.length by omega)
  obtain ⟨y, hy, hmy⟩ := Vg (show i + 1 < xs.length by omega)
  refine JX 14 (by kernel_rfl) (by kernel_rfl) ?_; refine Jl rfl rfl rfl (Jp rfl) ?_; refine Jl rfl rfl rfl (Jp rfl) ?_; refine Jl rfl rfl rfl (Jp rfl) ?_; refine Jl rfl rfl rfl (J9 rfl rfl rfl) ?_; refine Wz (by omega) (by omega) ?_
  refine Jl rfl rfl rfl (Js (j := i) rfl hs rfl rfl rfl (by first | rfl | omega) (by omega)) ?_; refine Jl rfl rfl rfl (KG Kk (fun q hq => Or.inr hq) rfl hs hx rfl rfl) ?_; refine Qu rfl rfl rfl Jp8 (Jan x) ?_; refine Jl rfl rfl rfl (Jp rfl) ?_; refine Jl rfl rfl rfl (Jp rfl) ?_; refine Jl rfl rfl rfl (Jp rfl) ?_
  refine Jl rfl rfl rfl (Js (j := (i + 1)) rfl hs rfl rfl rfl (by first | rfl | omega) (by omega)) ?_; refine Jl rfl rfl rfl (KG Kk (fun q hq => Or.inr hq) rfl hs hy rfl rfl) ?_; refine Qu rfl rfl rfl Jp8 (Jan y) ?_; refine Jl rfl rfl rfl (Jgv rfl rfl) ?_; refine Ky ?_; refine nK hK8 ?_; clear hK8 K8; refine Jc rfl (fun h9 => ?_) (fun h9 => ?_)
  try simp only [ZZ] at h9
  refine sR fun K10 hK10 => Ji rfl (nK hK10 ?_); clear hK10 K10; refine Jb (Jn (Jd ?_)); clear hK7 K7; refine Jd (Jn (Jd ?_)); clear hK2 K2; refine pT rfl rfl rfl fun w1 hs1 => ?_; refine ⟨?_, hs1.keep⟩; rw [jy hx hy (by simp_all)]; rfl
  try simp only [ZZ] at h9
  refine Jf (Jj (hK7 ?_)); clear hK7 K7; refine Ja (LS 2 [] rfl rfl (Jv (by omega) (by omega) ?_)); refine Ji rfl (Jg (J7 ?_))
  exact J2 (i + 1) ⟨.inr (by omega), fun j u v hj hu hv => by
    rcases Nat.lt_succ_iff_lt_or_eq.1 hj with hj | rfl
    exact hinv j u v hj hu hv
    rw [hx] at hu; rw [hy] at hv; cases hu; cases hv; simp_all⟩ (by omega) (.cons rfl (.cons rfl (.cons rfl .nil))) (List.nil_sublist _) (fun _ _ h => h)
  · try simp only [ZZ] at h6
    refine JG (Jm ?_); clear hK4 K4; refine Jm (J0 (hK2 ?_)); clear hK2 K2; refine sR fun K11 hK11 => Ji rfl (nK hK11 ?_); clear hK11 K11; refine Jb (pT rfl rfl rfl fun w1 hs1 => ?_); refine ⟨?_, hs1.keep⟩; rw [Zm fun j u v hu hv => hinv j u v (by have := (List.getElem?_eq_some_iff.1 hv).1; omega) hu hv]; rfl
theorem Jse (a : BS) : (!decide (a = a)) = false := by simp
theorem Jh2 (a : BS) : Pure Tryz.prog 158 [J3 a].toArray (.bool false) := by
  refine JE Tryz.func158 rfl rfl fun w => ?_; refine sR fun _ hK1 => Ji rfl (nK hK1 ?_); refine sR fun _ hK2 => LS 2 [] rfl rfl ?_; refine LR rfl (Zc rfl rfl) ?_; refine Jz (congrArg Value.bool (Jse a)) ?_; refine Ji rfl (nK hK2 ?_); refine Jb (pT rfl rfl rfl fun w1 hs1 => ?_); exact ⟨rfl, hs1.keep⟩
theorem zw (a b : BS) : Pure Tryz.prog 106 [J3 a, J3 b].toArray (.int .i64 (qU a b)) := by
  refine JE Tryz.func106 rfl rfl fun w => ?_; refine sR fun K1 hK1 => Ji rfl (nK hK1 ?_); clear hK1 K1; refine sR fun K2 hK2 => Ji rfl (JD rfl rfl rfl (enters_of Tryz.func158 (by kernel_rfl) rfl) (Jh2 a) (Ji rfl ?_)); refine nK hK2 ?_; clear hK2 K2; refine sR fun K3 hK3 => Ji rfl (JD rfl rfl rfl (enters_of Tryz.func158 (by kernel_rfl) rfl) (Jh2 b) (Ji rfl ?_)); refine nK hK3 ?_; clear hK3 K3; refine sQ fun K4 hK4 => sR fun K5 hK5 => ?_; refine Ji rfl (nK hK5 ?_); clear hK5 K5; refine Jc rfl (fun h6 => ?_) (fun h6 => ?_)
  try exact Bool.noConfusion h6
  · try simp only [ZZ] at h6
    refine Jf (hK4 ?_); clear hK4 K4; refine sQ fun K12 hK12 => sR fun K13 hK13 => ?_; refine Ji rfl (nK hK13 ?_); clear hK13 K13; refine Jc rfl (fun h14 => ?_) (fun h14 => ?_)
    try exact Bool.noConfusion h14
    · try simp only [ZZ] at h14
      refine Jf (hK12 ?_); clear hK12 K12; refine sQ fun K16 hK16 => sR fun K17 hK17 => ?_; refine LS 2 [] rfl rfl ?_; refine LR rfl (Jpy rfl rfl) ?_; refine nK hK17 ?_; clear hK17 K17; refine Jc rfl (fun h18 => ?_) (fun h18 => ?_)
      try simp only [ZZ] at h18
      refine sR fun K19 hK19 => Ji rfl (nK hK19 ?_); clear hK19 K19; refine Jb (Jd ?_); clear hK16 K16; refine pT rfl rfl rfl fun w1 hs1 => ?_; refine ⟨?_, hs1.keep⟩
      unfold qU
      simp_all [JN]
      · try simp only [ZZ] at h18
        refine Jf (hK16 ?_); clear hK16 K16; refine sQ fun K20 hK20 => sR fun K21 hK21 => ?_; refine LS 2 [] rfl rfl ?_; refine LR rfl (Jra rfl rfl) ?_; refine nK hK21 ?_; clear hK21 K21; refine Jc rfl (fun h22 => ?_) (fun h22 => ?_)
        try simp only [ZZ] at h22
        refine sR fun K23 hK23 => Ji rfl (nK hK23 ?_); clear hK23 K23; refine Jb (Jd ?_); clear hK20 K20; refine pT rfl rfl rfl fun w1 hs1 => ?_; refine ⟨?_, hs1.keep⟩
        unfold qU
        simp_all [JN]
        · try simp only [ZZ] at h22
          refine Jf (hK20 ?_); clear hK20 K20; refine sR fun K24 hK24 => Ji rfl (nK hK24 ?_); clear hK24 K24; refine Jb (pT rfl rfl rfl fun w1 hs1 => ?_); refine ⟨?_, hs1.keep⟩
          unfold qU
          simp_all [JN]
theorem Jox : Lib.repeatL [0] 32 = VS := by decide +kernel
theorem Jff : Pure Tryz.prog 42 [].toArray (J3 VS) := by
  rw [← Jox]; refine JE Tryz.func42 rfl rfl fun w => ?_; refine sR fun _ hK1 => Ji rfl (nK hK1 ?_); refine sR fun _ hK2 => ?_; refine JD rfl rfl rfl Juf (qa (n := 32) (by decide)) ?_; refine Ji rfl (nK hK2 ?_); refine Jb (pT rfl rfl rfl fun w1 hs1 => ?_); exact ⟨rfl, hs1.keep⟩
theorem Jxf {R : Jq} {rb e : Nat} (hb : (rb, Obj.cells #[fV 39] e (0, 0)) ∈ R) (x : AcL) (k : BS) : PureR Tryz.prog 105 [vA x, J3 k, .pointer (some ⟨rb, 0, none⟩)].toArray (.int .i64 (qU (AcL.addr x) k)) R := by
  refine Je Tryz.func105 rfl rfl fun w => ?_; refine sR fun _ hK1 => ?_; refine LN rfl fun r1 => ?_; refine Ji rfl (nK hK1 ?_); refine sR fun _ hK2 => ?_; refine LR rfl (Jk rfl (Or.inr hb) rfl rfl) ?_; refine LR rfl (Jx (vs := [_, _, _, _, _, _, _, _]) rfl (kn 0 rfl) rfl rfl rfl rfl) ?_; refine JD rfl rfl rfl Jp7 (Jam x) ?_; refine Ji rfl (JD rfl rfl rfl (enters_of Tryz.func106 (by kernel_rfl) rfl) (zw (AcL.addr x) k) (Ji rfl ?_)); refine nK hK2 (Jb ?_); refine pT rfl rfl rfl fun w1 hs1 => ?_; exact ⟨rfl, hs1.keep⟩
theorem Jjr {R : Jq} {xs : List AcL} {p : Pl} (hl : xs.length ≤ 1000) (hs : Seg R xs.length (xs.flatMap AcL.cells) p) (hso : KC AcL.addr xs) {k : BS} {g : FuncId} {caps : List Value} (eg : Enters Tryz.prog g) (hg : ∀ x ∈ xs, PureR Tryz.prog g (vA x :: J3 k :: caps).toArray (.int .i64 (qU (AcL.addr x) k)) R) :
    PureR Tryz.prog 104 [KL xs.length p, J3 k, .func (.func g) #[] caps.toArray].toArray (.tuple #[.int .i64 (ZR AcL.addr k xs : Nat), .bool (VN AcL.addr k xs)]) R := by
  refine Je Tryz.func104 rfl rfl fun w => ?_; refine sR fun _ hK1 => LS 2 [] rfl rfl (nK hK1 ?_); refine sR fun _ hK2 => Ji rfl (LR rfl (J4 rfl hs rfl) (Ji rfl ?_)); refine nK hK2 (sR fun _ hK3 => ?_); refine LS 3 [] rfl rfl (nK hK3 ?_); refine sB fun _ hK4 => ?_; refine JK (σ := Nat × Nat) (fun s => (s.1 ≤ s.2 ∧ s.2 ≤ xs.length) ∧ (∀ q y, q < s.1 → xs[q]? = some y → Op.bytesLess (AcL.addr y) k = true) ∧ ∀ q y, s.2 ≤ q → xs[q]? = some y → Op.bytesLess (AcL.addr y) k = false) (fun s => [(0, KL xs.length p), (1, J3 k), (2, .func (.func g) #[] caps.toArray), (8, .int .i64 (xs.length : Int)), (9, .int .i64 (s.1 : Int)), (10, .int .i64 (s.2 : Int))]) (fun _ => []) (fun _ _ _ => True) (fun s => s.2 - s.1) (0, xs.length) ⟨⟨Nat.zero_le _, Nat.le_refl _⟩, fun q _ hq => absurd hq (Nat.not_lt_zero q), fun q y hq hy => absurd (List.getElem?_eq_some_iff.1 hy).1 (by omega)⟩ (.cons rfl (.cons rfl (.cons rfl (.cons rfl (.cons rfl (.cons rfl .nil)))))) (List.nil_sublist _) (fun _ _ h => h) ?_; rintro ⟨i, j⟩ ⟨⟨hi0, hj0⟩, hi1, hi2⟩; simp only at hi0 hj0 hi1 hi2; change HC _ _ [(0, _), (1, _), (2, _), (8, _), (9, .int .i64 (i : Int)), (10, .int .i64 (j : Int))] _ _ _ _; refine sQ fun _ hK5 => sR fun _ hK6 => ?_; refine LS 3 [] rfl rfl (nK hK6 ?_); refine Jc rfl (fun h7 => ?_) (fun h7 => ?_)
  try simp only [ZZ] at h7
  refine Jf (hK5 ?_); refine Jt (sR fun _ hK8 => (LS 3 [] rfl rfl ?_)); refine Jv (by omega) (by omega) ?_; refine JV rfl (qx (by omega) (by omega) (LR rfl (vR (n := 1) (b := (((i + j) / 2 : Nat) : Int)) rfl rfl rfl (by decide) (by omega) (by omega)) ?_)); refine JV rfl (Jv (by omega) (by omega) (Ji rfl ?_)); refine nK hK8 (sQ fun _ hK9 => ?_)
  obtain ⟨x, hx, hmx⟩ := Vg (show (i + j) / 2 < xs.length by omega)
  refine Ja (LS 3 [] rfl rfl ?_)
  refine LR rfl (Js (j := ((i + j) / 2)) rfl hs rfl rfl rfl (by first | rfl | omega) (by omega)) ?_; refine LR rfl (KG AcL.len (fun q hq => Or.inr hq) rfl hs hx rfl rfl) ?_; refine Ji rfl (Jh rfl rfl rfl eg (hg x hmx) (fun q hq => Or.inr hq) ?_); refine JV rfl (Jz (congrArg Value.bool (Jgy (AcL.addr x) k)) ?_); refine nK hK9 ?_; refine Jc rfl (fun h10 => ?_) (fun h10 => ?_)
  try simp only [ZZ] at h10
  refine Ja (LS 2 [] rfl rfl (Jv (by omega) (by omega) ?_)); refine Ji rfl (Jg ?_); refine Jj (J7 ?_); exact J2 ((i + j) / 2 + 1, j) ⟨⟨by simp only; omega, hj0⟩, Jce hso hx (by assumption), hi2⟩ (by simp only; omega) (.cons rfl (.cons rfl (.cons rfl (.cons rfl (.cons rfl (.cons rfl .nil)))))) (List.nil_sublist _) (fun _ _ h => h)
  try simp only [ZZ] at h10
  refine Ja (LS 2 [] rfl rfl (Jg ?_)); refine Jj (J7 ?_); exact J2 (i, (i + j) / 2) ⟨⟨by simp only; omega, by simp only; omega⟩, hi1, Jcf hso hx (by assumption)⟩ (by simp only; omega) (.cons rfl (.cons rfl (.cons rfl (.cons rfl (.cons rfl (.cons rfl .nil)))))) (List.nil_sublist _) (fun _ _ h => h)
  · try simp only [ZZ] at h7
    refine JG (Jm ?_); refine Jm (J0 (hK4 ?_)); refine sQ fun _ hK11 => ?_
    have hij : i = j := by omega
    have hlo : i = ZR AcL.addr k xs := Jmp (by omega) hi1 (fun y hy => hi2 i y (by omega) hy)
    refine Ja (LS 5 [] rfl rfl ?_)
    refine JB 39 rfl (fun hb12 => ?_) (fun hb12 => ?_) <;> (try simp only [ZZ] at hb12) <;> first | (refine Ji rfl ?_) | (refine LK rfl ?_)
    all_goals refine LW 2 [] rfl rfl ?_
    all_goals first
      | (obtain ⟨x, hx, hmx⟩ := Vg (show i < xs.length by omega); refine LR rfl (Js (j := i) rfl hs rfl rfl rfl (by first | rfl | omega) (by omega)) ?_)
      | (refine LK rfl ?_)
    all_goals first
      | (refine LR rfl (KG AcL.len (fun q hq => Or.inr hq) rfl hs hx rfl rfl) ?_)
      | (refine LK rfl ?_)
    all_goals refine LW 1 [] rfl rfl ?_
    all_goals first
      | (refine Jh rfl rfl rfl eg (hg x hmx) (fun q hq => Or.inr hq) ?_)
      | (refine LK rfl ?_)
    all_goals first
      | (refine JV rfl ?_; refine Jz (congrArg Value.bool (Jcd (AcL.addr x) k)) ?_)
      | (refine LK rfl ?_)
    all_goals refine LW 1 [] rfl rfl ?_
    all_goals refine LS 2 [] rfl rfl ?_
    all_goals refine Jg ?_
    all_goals (
     refine hK11 (Jb ?_); refine Ju rfl rfl (.cons (J1 rfl) (.cons (J1 rfl) .nil)) (fun w1 hs1 => ?_); refine ⟨?_, hs1.keep⟩
     first
       | (rw [← Jcg (kf := AcL.addr) (hlo ▸ hx), ← hlo]; rfl)
       | (rw [qh (kf := AcL.addr) (by omega), ← hlo]; rfl)
     skip)
theorem Joy {R : Jq} {xs : List AcL} {p : Pl} (hl : xs.length ≤ 1000) (hs : Seg R xs.length (xs.flatMap AcL.cells) p) (hso : KC AcL.addr xs) {k : BS} :
    PureR Tryz.prog 70 [KL xs.length p, J3 k, fV 39].toArray (.tuple #[.int .i64 (ZR AcL.addr k xs : Nat), .bool (VN AcL.addr k xs)]) R := by
  refine Je Tryz.func70 rfl rfl fun w => ?_; refine sR fun _ hK1 => ?_; refine LN rfl fun r1 => ?_; refine LS 2 [] rfl rfl (nK hK1 ?_); refine sR fun _ hK2 => LS 2 [] rfl rfl ?_; refine LR rfl (Kq rfl rfl) ?_; refine Jh (Rl := (r1, Obj.cells #[fV 39] _ (0, 0)) :: R) rfl rfl rfl (enters_of Tryz.func104 (by kernel_rfl) rfl) (Jjr (caps := [.pointer (some ⟨r1, 0, none⟩)]) hl (hs.mono fun q hq => List.mem_cons_of_mem _ hq) hso (enters_of Tryz.func105 (by kernel_rfl) rfl) (fun x hx => Jxf List.mem_cons_self x k)) (fun q hq => (List.mem_cons.1 hq).elim (fun h => Or.inl (by rw [h]; exact List.mem_cons_self)) Or.inr) ?_; refine LS 4 [] rfl rfl (nK hK2 ?_); refine Jb ?_; refine Ju rfl rfl (.cons (J1 rfl) (.cons (J1 rfl) .nil)) (fun w1 hs1 => ?_); exact ⟨rfl, hs1.keep⟩
end Go.Proofs.YteceenlfegnigaaGreatDoor
