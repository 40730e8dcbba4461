import Derived.Test.YtfaagelglpgpkaaGreatDoorZtSealede
import Derived.Shelf.SlGeneric
import Derived.Shelf.SlSortCmp.WholeK
import Derived.Ground.SlsfProg
import Derived.Test.YtfaagelglpgpkaaGreatDoorProg
set_option maxRecDepth 100000
namespace Go.Proofs.YtfaagelglpgpkaaGreatDoor
set_option linter.all false
open Go.SL Go.RowKit Go.Shelf
def XS : List BS → Bool
 | x :: y :: l => decide (x = y) || XS (y :: l)
 | _ => false
theorem Jie : ∀ {l : List BS} {i : Nat} {x : BS}, l[i]? = some x → l[i + 1]? = some x → XS l = true
 | [], i, x, h, _ => by simp at h
 | [a], i, x, _, h => by simp at h
 | a :: b :: l, 0, x, h1, h2 => by
  simp only [List.getElem?_cons_zero, List.getElem?_cons_succ, Nat.zero_add, Option.some.injEq] at h1 h2; subst h1 h2
  unfold XS
  rw [decide_eq_true rfl]; rfl
 | a :: b :: l, i + 1, x, h1, h2 => by
  rw [List.getElem?_cons_succ] at h1 h2
  unfold XS
  rw [Jie h1 h2, Bool.or_true]
theorem Jfa : ∀ {l : List BS}, (∀ i x, l[i]? = some x → l[i + 1]? = some x → False) → XS l = false
 | [], _ => rfl
 | [a], _ => rfl
 | a :: b :: l, h => by
  unfold XS
  rw [decide_eq_false fun e => h 0 a rfl (by rw [e]; rfl), Jfa fun i x h1 h2 => h (i + 1) x (by rw [List.getElem?_cons_succ]; exact h1) (by rw [List.getElem?_cons_succ]; exact h2)]; rfl
abbrev jt (xs : List AcL) : List BS := xs.map AcL.addr
theorem qV {xs : List AcL} {i : Nat} {x : AcL} (h : xs[i]? = some x) : (jt xs)[i]? = some x.addr := by rw [List.getElem?_map, h]; rfl
def CompR (xs : List AcL) : Type := { q : Option Addr × Nat × Nat // (q.2.1 < xs.length ↔ XS (jt xs) = true) ∧ q.2.1 ≤ xs.length }
def CompR.val {xs : List AcL} (q : CompR xs) : Value := .slice q.1.1 q.1.2.1 q.1.2.2
theorem wo {xs : List AcL} (h : XS (jt xs) = false) (a : Option Addr) (c : Nat) : (xs.length < xs.length ↔ XS (jt xs) = true) ∧ xs.length ≤ xs.length := ⟨⟨fun h2 => absurd h2 (Nat.lt_irrefl _), fun h2 => by rw [h] at h2; cases h2⟩, Nat.le_refl _⟩
theorem Jpy {xs : List AcL} (h : xs.length < 2) : XS (jt xs) = false := Jfa fun i x _ h2 => by
 have := (List.getElem?_eq_some_iff.1 h2).1
 rw [List.length_map] at this; omega
theorem Jkl {R : Ji} {xs : List AcL} {row : QJ} (hl : xs.length ≤ 1000) (hrow : rowOk 8 xs.length (KM xs) row) {g : FuncId} (eg : Enters Tryz.prog g) (hg : ∀ x y : AcL, Pure Tryz.prog g [vA x, vA y].toArray (.bool (decide (x.addr = y.addr)))) :
  PureT (α := CompR xs) Tryz.prog 78 [JC xs.length row, .func (.func g) #[] #[]].toArray (fun q => q.val) (JL 48 (KM xs) row) (fun _ => []) R := by
 cases row with
 | none =>
  have h0 : xs = [] := by
   have := hrow.1
   exact List.eq_nil_of_length_eq_zero (by simpa using this)
  subst h0; refine Ju Tryz.func78 rfl rfl fun w => ?_; refine J9 ?_; refine Jq 9 rfl ?_; refine LR rfl (JQ rfl rfl) ?_; refine JN 3 rfl ?_; refine J0 rfl (fun h4 => ?_) (fun h4 => ?_)
  try simp only [ZZ] at h4
  refine Kn 8 rfl ?_; refine pT rfl rfl rfl fun w1 hs1 => ?_; exact ⟨⟨(none, 0, 0), wo (xs := []) rfl none 0⟩, rfl, hs1⟩
  try exact Bool.noConfusion h4
 | some p =>
  obtain ⟨r, cap, sp⟩ := p
  obtain ⟨hr1, hr2⟩ := hrow
  have hcap : xs.length ≤ cap := by omega
  have hseg : ∀ zs : List AcL, zs.length = xs.length → Seg [(r, .cells (KM zs ++ sp).toArray 48 (0, 0))] zs.length (KM zs) (some (⟨r, 0, none⟩, cap)) := fun zs hz => Kx (sz := 8) (row := some (r, cap, sp)) ⟨Ke AcL.len _, by have := hr2; rw [hz]; exact hr2⟩ (by decide)
  refine Ju Tryz.func78 rfl rfl fun w => ?_; refine J9 ?_; refine Jq 9 rfl ?_; refine LR rfl (JQ rfl rfl) ?_; refine JN 3 rfl ?_; refine J0 rfl (fun h4 => ?_) (fun h4 => ?_)
  try simp only [ZZ] at h4
  refine Kn 8 rfl ?_; refine pT rfl rfl rfl fun w1 hs1 => ?_; exact ⟨⟨(some ⟨r, 0, none⟩, xs.length, cap), wo (Jpy (by omega)) none 0⟩, rfl, hs1.weakL (List.nil_sublist _)⟩
  ·try simp only [ZZ] at h4
   refine JP 9 rfl ?_; refine J2 (σ := Nat) (fun k => (1 ≤ k ∧ k ≤ xs.length) ∧ ∀ i a, i + 1 < k → (jt xs)[i]? = some a → (jt xs)[i + 1]? = some a → False) (fun k => [(0, .slice (some ⟨r, 0, none⟩) xs.length cap), (1, .func (.func g) #[] #[]), (5, .int .i64 (k : Int))]) (fun _ => [(r, .cells (KM xs ++ sp).toArray 48 (0, 0))]) (fun _ _ _ => True) (fun k => xs.length - k) 1 ⟨⟨Nat.le_refl _, by omega⟩, fun i a hi => absurd hi (by omega)⟩ (lK rfl) (List.Sublist.refl _) (fun _ _ h => h) ?_; rintro k ⟨⟨hk0, hk1⟩, hinv⟩; refine Jq 5 rfl ?_; refine LR rfl (JQ rfl rfl) ?_; refine JN 3 rfl ?_; refine cD (fun h10 => ?_) fun h10 => ?_
   ·refine JP 5 rfl ?_
    have hsegz := hseg xs rfl
    obtain ⟨x, hx, hmx⟩ := Ve (show k - 1 < xs.length by omega)
    obtain ⟨y, hy, hmy⟩ := Ve (show k < xs.length by omega)
    refine JK 11 (by kernel_rfl) (by kernel_rfl) ?_; refine Jb rfl rfl rfl (Jg rfl) ?_; refine Jb rfl rfl rfl (Jg rfl) ?_; refine Jb rfl rfl rfl (Jg rfl) ?_; refine Jb rfl rfl rfl (JE (j := k) (m := 8) (off' := 0 + (k) * 8) rfl rfl rfl rfl rfl (by omega) (by omega)) ?_; refine Jb rfl rfl rfl (Kw (p := some (⟨r, 0, none⟩, cap)) AcL.len (fun q hq => Or.inl hq) rfl hsegz hy rfl rfl) ?_; refine Jb rfl rfl rfl (Jg rfl) ?_; refine Jb rfl rfl rfl (Jg rfl) ?_; refine Jb rfl rfl rfl (Jy rfl rfl rfl) ?_; refine Vv (by omega) (by omega) ?_; refine Qg (show _ = Value.int .i64 ((k - 1 : Nat) : Int) from by congr 1; omega) ?_; refine Jb rfl rfl rfl (JE (j := (k - 1)) (m := 8) (off' := 0 + ((k - 1)) * 8) rfl rfl rfl rfl rfl (by omega) (by omega)) ?_; refine Jb rfl rfl rfl (Kw (p := some (⟨r, 0, none⟩, cap)) AcL.len (fun q hq => Or.inl hq) rfl hsegz hx rfl rfl) ?_; refine V7 rfl rfl rfl eg ((hg y x).toR) oR ?_; refine JY ?_; refine JN 2 rfl ?_; refine cD (fun h13 => ?_) fun h13 => ?_
    ·refine Jq 4 rfl ?_; refine LR rfl (JJ (sz := 8) (m := k) (kl := some k) (kh := none) (km := none) (q := xs.length) (z := cap) (off' := k * 8) rfl rfl rfl ⟨_, rfl⟩ trivial trivial rfl rfl rfl (by omega) (by omega) (by omega) (fun _ => rfl) (by rw [if_neg (by omega)]; omega)) ?_; refine JN 5 rfl ?_
     have hadj : XS (jt xs) = true := by
      have he : y.addr = x.addr := by simp_all
      have h1 := qV hx
      have h2 := qV hy
      rw [he] at h2
      obtain ⟨k0, rfl⟩ : ∃ k0, k = k0 + 1 := ⟨k - 1, by omega⟩
      exact Jie h1 h2
     clear hsegz hx hy; refine JP 5 rfl ?_; refine J2 (σ := Nat × Nat × List AcL) (fun s => s.2.2.length = xs.length ∧ (1 ≤ s.1 ∧ s.1 ≤ xs.length - k) ∧ s.2.1 ≤ k + s.1 - 1) (fun s => [(0, .slice (some ⟨r, 0, none⟩) xs.length cap), (1, .func (.func g) #[] #[]), (5, .int .i64 (s.2.1 : Int)), (6, .slice (some ⟨r, k * 8, none⟩) (xs.length - k) (cap - k)), (7, .int .i64 (s.1 : Int))]) (fun s => [(r, .cells (KM s.2.2 ++ sp).toArray 48 (0, 0))]) (fun _ _ _ => True) (fun s => xs.length - k - s.1) (1, k, xs) ⟨rfl, ⟨Nat.le_refl _, by simp only; omega⟩, by simp only; omega⟩ (lK rfl) (List.Sublist.refl _) (fun _ _ h => h) ?_; rintro ⟨k2, i, zs⟩ ⟨hz, ⟨hk2, hk3⟩, hi⟩; simp only at hz hk2 hk3 hi; change HC _ _ [(0, _), (1, _), (5, .int .i64 (i : Int)), (6, _), (7, .int .i64 (k2 : Int))] [(r, .cells (KM zs ++ sp).toArray 48 (0, 0))] _ _ _; refine Jq 5 rfl ?_; refine LR rfl (JQ rfl rfl) ?_; refine JN 3 rfl ?_; refine cD (fun h19 => ?_) fun h19 => ?_
     refine JP 5 rfl ?_
     have hsegz := hseg zs hz
     obtain ⟨x, hx, hmx⟩ := Ve (show k + k2 - 1 < zs.length by omega)
     obtain ⟨y, hy, hmy⟩ := Ve (show k + k2 < zs.length by omega)
     refine JK 12 (by kernel_rfl) (by kernel_rfl) ?_; refine Jb rfl rfl rfl (Jg rfl) ?_; refine Jb rfl rfl rfl (Jg rfl) ?_; refine Jb rfl rfl rfl (Jg rfl) ?_; refine Jb rfl rfl rfl (JE (j := k2) (m := 8) (off' := 0 + (k + k2) * 8) rfl rfl rfl rfl rfl (by omega) (by omega)) ?_; refine Jb rfl rfl rfl (Kw (p := some (⟨r, 0, none⟩, cap)) AcL.len (fun q hq => Or.inl hq) rfl hsegz hy rfl rfl) ?_; refine Jb rfl rfl rfl (Jg rfl) ?_; refine Jb rfl rfl rfl (Jg rfl) ?_; refine Jb rfl rfl rfl (Jy rfl rfl rfl) ?_; refine Vv (by omega) (by omega) ?_; refine Qg (show _ = Value.int .i64 ((k2 - 1 : Nat) : Int) from by congr 1; omega) ?_; refine Jb rfl rfl rfl (JE (j := k2 - 1) (m := 8) (off' := 0 + (k + k2 - 1) * 8) rfl rfl rfl rfl rfl (by omega) (by omega)) ?_; refine Jb rfl rfl rfl (Kw (p := some (⟨r, 0, none⟩, cap)) AcL.len (fun q hq => Or.inl hq) rfl hsegz hx rfl rfl) ?_; refine V7 rfl rfl rfl eg ((hg y x).toR) oR ?_; refine Jb rfl rfl rfl (Jy rfl rfl rfl) ?_; refine JY ?_; refine JN 2 rfl ?_; refine cD (fun h22 => ?_) fun h22 => ?_
     refine Jq 6 rfl ?_; refine LR rfl (JE (j := k2) (m := 8) (off' := 0 + (k + k2) * 8) rfl rfl rfl rfl rfl (by omega) (by omega)) ?_; refine LR rfl (Kw (p := some (⟨r, 0, none⟩, cap)) AcL.len (fun q hq => Or.inl hq) rfl hsegz hy rfl rfl) ?_; refine LR rfl (JE (j := i) (m := 8) (off' := i * 8) rfl rfl rfl rfl rfl (by omega) (by omega)) ?_; refine Qz (k := 0) (n := 8) (vs := (AcL.cells y).toArray) (cs' := ((zs.set i y).flatMap AcL.cells ++ sp).toArray) rfl rfl rfl rfl rfl rfl (AcL.one y) (by simp only [List.size_toArray, List.length_append, KM, Ke AcL.len]; omega) (by apply Array.toList_inj.1; simp only [List.toList_toArray]; exact zJ AcL.len (show i < zs.length by omega) y sp) rfl ?_; refine JF 5 rfl ?_; refine Jc (by omega) (by omega) ?_; refine JF 7 rfl ?_; refine Jc (by omega) (by omega) ?_; refine Jx 2 rfl ?_; refine Jz ?_; exact Jt (k2 + 1, i + 1, zs.set i y) ⟨by simp only [List.length_set]; exact hz, ⟨by simp only; omega, by simp only; omega⟩, by simp only; omega⟩ (by simp only; omega) (lK rfl) (List.Sublist.refl _) (fun _ _ h => h)
     refine Jq 6 rfl ?_; refine Jc (by omega) (by omega) ?_; refine Jx 2 rfl ?_; refine Jz ?_; exact Jt (k2 + 1, i, zs) ⟨hz, ⟨by simp only; omega, by simp only; omega⟩, by simp only; omega⟩ (by simp only; omega) (lK rfl) (List.Sublist.refl _) (fun _ _ h => h)
     ·refine Jq 9 rfl ?_; refine LR rfl (JJ (sz := 8) (m := i) (kl := some i) (kh := none) (km := none) (q := xs.length) (z := cap) (off' := i * 8) rfl rfl rfl ⟨_, rfl⟩ trivial trivial rfl rfl rfl (by omega) (by omega) (by omega) (fun _ => rfl) (by rw [if_neg (by omega)]; omega)) ?_; refine yh (k := 0) (sz := 8) rfl rfl rfl rfl rfl rfl rfl (by decide) (by simp only [List.size_toArray, List.length_append, KM, Ke AcL.len]; omega) rfl rfl ?_; refine JF 6 rfl ?_
      refine LR rfl (JJ (sz := 8) (q := i) (kl := none) (kh := some i) (km := none) (m := 0) (z := cap) (off' := 0) rfl rfl rfl trivial ⟨_, rfl⟩ trivial rfl rfl rfl (by omega) (by omega) (by omega) (fun h => by cases h) (by split <;> omega)) ?_; refine Jx 9 rfl ?_; refine pT rfl rfl rfl fun w1 hs1 => ?_; exact ⟨⟨(some ⟨r, 0, none⟩, i, cap), ⟨⟨fun _ => hadj, fun _ => by simp only; omega⟩, by simp only; omega⟩⟩, rfl, hs1.weakL (List.nil_sublist _)⟩
    refine Jq 6 rfl ?_; refine Jc (by omega) (by omega) ?_; refine Jx 2 rfl ?_; refine Jz ?_
    exact Jt (k + 1) ⟨⟨by omega, by omega⟩, fun i a hi h1 h2 => by
     rcases Nat.lt_or_ge (i + 1) k with hq | hq
     exact hinv i a hq h1 h2
     obtain rfl : i = k - 1 := by omega
     rw [show k - 1 + 1 = k by omega] at h2
     have e1 := Option.some.inj ((qV hx).symm.trans h1)
     have e2 := Option.some.inj ((qV hy).symm.trans h2)
     have e3 : y.addr = x.addr := e2.trans e1.symm
     simp_all⟩ (by omega) (lK rfl) (List.Sublist.refl _) (fun _ _ h => h)
   ·refine Kn 12 rfl ?_; refine pT rfl rfl rfl fun w1 hs1 => ?_; exact ⟨⟨(some ⟨r, 0, none⟩, xs.length, cap), wo (Jfa fun i a h1 h2 => hinv i a (by have := (List.getElem?_eq_some_iff.1 h2).1; rw [List.length_map] at this; omega) h1 h2) none 0⟩, rfl, hs1.weakL (List.nil_sublist _)⟩
def acI (xs : List AcL) (i : Nat) : AcL := xs.getD i ac0L
theorem Jif {xs : List AcL} {i : Nat} (h : i < xs.length) : xs[i]? = some (acI xs i) ∧ acI xs i ∈ xs := by
 unfold acI
 rw [List.getD_eq_getElem?_getD, List.getElem?_eq_getElem h]; exact ⟨rfl, List.getElem_mem h⟩
def xN (r n : Nat) (p : Pl) : Nat × Obj := (r, .cells #[KG n p] 30 (0, 0))
theorem Jpz (n : Nat) (p : Pl) : PureE (α := Nat) Tryz.prog 74 [KG n p].toArray (fun r => .func (.func 125) #[] #[.pointer (some ⟨r, 0, none⟩)]) (fun r => [xN r n p]) := by
 refine JW Tryz.func74 rfl rfl fun w => ?_; refine J9 ?_; refine Jq 2 rfl ?_; refine LN rfl fun r1 => ?_; refine JF 5 rfl ?_; refine LR rfl (JA rfl rfl) ?_; refine Jx 4 rfl ?_; refine pT rfl rfl rfl fun w1 hs1 => ?_; exact ⟨_, rfl, hs1⟩
theorem Jp0 {R : Ji} {xs : List AcL} {p : Pl} (hl : xs.length ≤ 9223372036854775807) (hs : Seg R xs.length (KM xs) p) (rv : Nat) :
    ZH Tryz.prog 125 [.pointer (some ⟨rv, 0, none⟩)] (xN rv xs.length p :: R) 0 (nxN (fun i => [vA (acI xs i)]) xs.length) (wx xs.length) := by
  have hs := hs.mono (R' := xN rv xs.length p :: R) fun q hq => List.mem_cons_of_mem _ hq
  refine QO Tryz.func125 rfl rfl fun q xids w2 XI XF hY => ?_; refine J9 ?_; refine Jq 2 rfl ?_; refine LR rfl (Jd rfl (Jv (k := 0) rfl) rfl rfl) ?_; refine LR rfl (J5 rfl hs rfl) ?_; refine JN 4 rfl ?_; refine J2 (σ := Nat) (fun i => i ≤ xs.length) (fun i => [(0, .func (.yield q) #[] #[]), (1, .pointer (some ⟨rv, 0, none⟩)), (5, KG xs.length p), (6, .int .i64 (xs.length : Int)), (7, .int .i64 (i : Int))]) (fun _ => []) (fun i => XI i) (fun i => xs.length - i) 0 (Nat.zero_le _) (lK rfl) (List.nil_sublist _) (fun _ _ h => h) ?_; intro i hi; refine JP 6 rfl ?_; refine cD (fun g => ?_) fun g => ?_
  · refine JP 5 rfl ?_
    have hil : i < xs.length := by omega
    have hix := Jif hil
    refine Jq 1 rfl ?_
    refine LR rfl (Js (j := i) rfl hs rfl rfl rfl (by first | rfl | omega) (by omega)) ?_; refine LR rfl (Kw AcL.len oR rfl hs hix.1 rfl rfl) ?_; refine LN rfl fun r1 => ?_; refine Jn (k := 0) (n := 8) (ys := AcL.cells (acI xs i)) rfl rfl rfl rfl rfl rfl rfl rfl rfl ?_; refine JF 5 rfl ?_; refine LR rfl (Jf (xs := AcL.cells (acI xs i)) (n := 8) rfl (kn 0 rfl) rfl rfl rfl) ?_; refine Vh (XT := XI (i + 1)) (XF := XF) rfl rfl rfl rfl (hY i [vA (acI xs i)] (i + 1) ⟨hil, rfl, rfl⟩) ?_ ?_
    all_goals (
     refine Jx 2 rfl (Zn 1 rfl ?_); refine J0 rfl (fun g => ?_) (fun g => ?_)
     · try exact Bool.noConfusion g
       all_goals try simp only [ZZ] at g
       all_goals (
        refine Kn 5 rfl ?_; refine Jh rfl rfl .nil (fun w1 hs1 => ?_)
        obtain ⟨xs1, hx1⟩ := hs1.now
        exact ⟨⟨_, rfl⟩, hs1.keep, .inr ⟨_, hx1⟩⟩
        skip)
     · try exact Bool.noConfusion g
       all_goals try simp only [ZZ] at g
       all_goals (
        refine Jq 5 rfl ?_; refine Jc (by omega) (by omega) ?_; refine Jx 2 rfl ?_; refine Jz ?_; exact Jt (i + 1) (by omega) (by omega) (lK rfl) (List.nil_sublist _) (fun _ _ h => h)
        skip)
     skip)
  · refine Kn 4 rfl ?_; refine Kh rfl rfl .nil (fun w1 hs1 => ?_)
    obtain ⟨xs1, hx1⟩ := hs1.now
    exact ⟨⟨_, rfl⟩, hs1.keep, .inl ⟨i, _, (by show i = xs.length; omega), hx1⟩⟩
theorem Jc5 {xs : List AcL} {i : Nat} (h : i < xs.length) : KM (xs.take i) ++ (AcL.cells (acI xs i)) = KM (xs.take (i + 1)) := by
 rw [List.take_add_one, (Jif h).1]
 simp [KM, List.flatMap_append]
theorem Jp1 {R : Ji} {xs : List AcL} {g : FuncId} {caps : List Value} (hl : xs.length ≤ 1000) (eg : Enters Tryz.prog g) (hit : ZH Tryz.prog g caps R 0 (nxN (fun i => [vA (acI xs i)]) xs.length) (wx xs.length)) :
  PureT (α := { row : QJ // rowOk 8 xs.length (KM xs) row }) Tryz.prog 194 [.slice none 0 0, .func (.func g) #[] caps.toArray].toArray (fun x => JC xs.length x.1) [] (fun x => JL 48 (KM xs) x.1) R := by
 refine Ju Tryz.func194 rfl rfl fun w => ?_; refine J9 ?_; refine Jq 2 rfl ?_; refine LN rfl fun r1 => ?_; refine JN 10 rfl ?_; refine VK (τ := Unit) (fun i (s : Nat × QJ) => i = s.1 ∧ i ≤ xs.length ∧ rowOk 8 i (KM (xs.take i)) s.2) (fun s => (r1, .cells #[JC s.1 s.2] 30 (0, 0)) :: JL 48 (KM (xs.take s.1)) s.2) (fun _ _ => False) (fun _ => []) [] (0, none) rfl rfl eg hit (by rintro _ _ _ ⟨_, rfl, _⟩; rfl) rfl oR rfl ⟨rfl, Nat.zero_le _, ⟨rfl, rfl⟩⟩ ?_ ?_ ?_
 rintro q Xr Xb w3 i _ _ ⟨_, row⟩ ⟨hii, rfl, rfl⟩ ⟨rfl, him, hrow⟩ Kr hKr; refine inR ?_
 simp only at hKr ⊢; refine Jq 1 rfl ?_; refine LN rfl fun r2 => ?_; refine Jn (k := 0) (n := 8) (ys := AcL.cells (acI xs i)) rfl rfl rfl rfl rfl rfl rfl rfl rfl ?_; refine Jx 1 rfl ?_; refine hKr _ _ ?_; refine J9 ?_; clear hKr; refine Jq 2 rfl ?_; refine LR rfl (Jd rfl (kn 1 rfl) rfl rfl) ?_; refine LR rfl (Jf (xs := AcL.cells (acI xs i)) (n := 8) rfl (kn 0 rfl) rfl rfl rfl) ?_; refine JH (n := 1) (sz := 8) (vs := [_]) (zs := [_, _, _, _, _, _, _, _]) (r := AcL.cells (acI xs i)) rfl rfl rfl rfl rfl rfl rfl rfl rfl (by rw [Kf]; exact rfl) rfl fun r3 => ?_; refine Kz (L0 := [_, _, _]) (xs := KM (xs.take i)) (row := row) (n := i) (sz := 8) (b := 96) (news := AcL.cells (acI xs i)) (List.perm_append_comm (l₁ := [_, _, _])) rfl rfl rfl rfl (kn 0 rfl) rfl rfl rfl rfl rfl (by decide) rfl rfl rfl (by decide) hrow (by omega) (by omega) fun ra cap sp hra => ?_
 refine LT 3 rfl rfl ?_; refine Jx 2 rfl ?_; refine Qs [3, 0] (L' := [_, _]) (by decide) rfl ?_; refine Ks (i + 1, some (ra, cap, sp)) ⟨rfl, by omega, by rw [Jc5 hii] at hra; exact hra⟩ ?_; simp only [JL, JC, Jc5 hii]
 rintro D i ⟨_, row⟩ hfi ⟨rfl, him, hrow⟩
 simp only at hrow ⊢
 have hfi : i = xs.length := hfi
 subst hfi; rw [List.take_length] at hrow ⊢; refine Gqq 9 [1] rfl rfl ?_; refine KN (k := 0) rfl rfl ?_; refine pT rfl rfl rfl fun w1 hs1 => ?_; exact ⟨⟨row, hrow⟩, rfl, hs1.weakL (by simp only [List.set_cons_zero, List.append_nil]; exact List.sublist_append_right [_, _] _)⟩
 ·exact fun _ _ _ h => h.elim
theorem Jkm {R : Ji} {xs : List AcL} {g : FuncId} {caps : List Value} (hl : xs.length ≤ 1000) (eg : Enters Tryz.prog g) (hit : ZH Tryz.prog g caps R 0 (nxN (fun i => [vA (acI xs i)]) xs.length) (wx xs.length)) :
  PureT (α := { row : QJ // rowOk 8 xs.length (KM xs) row }) Tryz.prog 123 [.func (.func g) #[] caps.toArray].toArray (fun x => JC xs.length x.1) [] (fun x => JL 48 (KM xs) x.1) R := by
 refine Ju Tryz.func123 rfl rfl fun w => ?_; refine J9 ?_; refine Jq 8 rfl ?_; refine Kq rfl rfl rfl (enters_of Tryz.func194 (by kernel_rfl) rfl) (Jp1 hl eg hit) oR fun x => ?_; refine Jx 4 rfl ?_; refine pT rfl rfl rfl fun w1 hs1 => ?_; exact ⟨x, rfl, hs1.weakL (List.sublist_append_left _ _)⟩
end Go.Proofs.YtfaagelglpgpkaaGreatDoor
namespace Go.Proofs
open Go.Shelf
def Tryz.laysSortA_ren : Go.Shelf.Ren := ⟨fun | 6 => 124 | 15 => 174 | 14 => 195 | 28 => 234 | 29 => 235 | 20 => 248 | 21 => 249 | 22 => 250 | 23 => 251 | 24 => 252 | 25 => 253 | 26 => 254 | 27 => 255 | 46 => 319 | 47 => 308 | 48 => 309 | 49 => 320 | 50 => 321 | 57 => 349 | n => n, fun | 22 => 30 | 24 => 48 | 25 => 125 | 3 => 3 | 39 => 188 | 0 => 0 | 53 => 261 | 55 => 25 | 4 => 4 | 46 => 254 | 45 => 253 | 50 => 258 | 5 => 5 | 9 => 9 | 66 => 293 | 70 => 297 | 76 => 327 | 77 => 328 | n => n, fun | n => n⟩
theorem Tryz.laysSortA : Go.Proofs.SlLaysF0.n6 Tryz.prog Tryz.laysSortA_ren := {
 mixed := by kernel_rfl
 f6 := ⟨Tryz.f124.name, by decide, Tryz.func124.trans (congrArg some (by kernel_rfl))⟩
 f14 := ⟨Tryz.f195.name, by decide, Tryz.func195.trans (congrArg some (by kernel_rfl))⟩
 f15 := Tryz.func174.trans (congrArg some (by kernel_rfl))
 f20 := ⟨Tryz.f248.name, by decide, Tryz.func248.trans (congrArg some (by kernel_rfl))⟩
 f21 := ⟨Tryz.f249.name, by decide, Tryz.func249.trans (congrArg some (by kernel_rfl))⟩
 f22 := ⟨Tryz.f250.name, by decide, Tryz.func250.trans (congrArg some (by kernel_rfl))⟩
 f23 := ⟨Tryz.f251.name, by decide, Tryz.func251.trans (congrArg some (by kernel_rfl))⟩
 f24 := ⟨Tryz.f252.name, by decide, Tryz.func252.trans (congrArg some (by kernel_rfl))⟩
 f25 := ⟨Tryz.f253.name, by decide, Tryz.func253.trans (congrArg some (by kernel_rfl))⟩
 f26 := ⟨Tryz.f254.name, by decide, Tryz.func254.trans (congrArg some (by kernel_rfl))⟩
 f27 := ⟨Tryz.f255.name, by decide, Tryz.func255.trans (congrArg some (by kernel_rfl))⟩
 f28 := Tryz.func234.trans (congrArg some (by kernel_rfl))
 f29 := Tryz.func235.trans (congrArg some (by kernel_rfl))
 f46 := ⟨Tryz.f319.name, by decide, Tryz.func319.trans (congrArg some (by kernel_rfl))⟩
 f47 := Tryz.func308.trans (congrArg some (by kernel_rfl))
 f48 := Tryz.func309.trans (congrArg some (by kernel_rfl))
 f49 := ⟨Tryz.f320.name, by decide, Tryz.func320.trans (congrArg some (by kernel_rfl))⟩
 f50 := ⟨Tryz.f321.name, by decide, Tryz.func321.trans (congrArg some (by kernel_rfl))⟩
 f57 := ⟨Tryz.f349.name, by decide, Tryz.func349.trans (congrArg some (by kernel_rfl))⟩
 t0 := Tryz.underlying0
 a0 := Tryz.isAgg0
 z0 := Tryz.sizeOf0
 v0 := Tryz.zeroValue0
 t3 := Tryz.underlying3
 a3 := Tryz.isAgg3
 z3 := Tryz.sizeOf3
 v3 := Tryz.zeroValue3
 t4 := Tryz.underlying4
 a4 := Tryz.isAgg4
 z4 := Tryz.sizeOf4
 v4 := Tryz.zeroValue4
 t5 := Tryz.underlying5
 a5 := Tryz.isAgg5
 z5 := Tryz.sizeOf5
 v5 := Tryz.zeroValue5
 t9 := Tryz.underlying9
 a9 := Tryz.isAgg9
 z9 := Tryz.sizeOf9
 v9 := Tryz.zeroValue9
 t22 := Tryz.underlying30
 a22 := Tryz.isAgg30
 z22 := Tryz.sizeOf30
 v22 := Tryz.zeroValue30
 t25 := Tryz.underlying125
 a25 := Tryz.isAgg125
 z25 := Tryz.sizeOf125
 v25 := Tryz.zeroValue125
 t39 := Tryz.underlying188
 a39 := Tryz.isAgg188
 z39 := Tryz.sizeOf188
 v39 := Tryz.zeroValue188
 t45 := Tryz.underlying253
 a45 := Tryz.isAgg253
 z45 := Tryz.sizeOf253
 v45 := Tryz.zeroValue253
 t46 := Tryz.underlying254
 a46 := Tryz.isAgg254
 z46 := Tryz.sizeOf254
 v46 := Tryz.zeroValue254
 t50 := Tryz.underlying258
 a50 := Tryz.isAgg258
 z50 := Tryz.sizeOf258
 v50 := Tryz.zeroValue258
 t53 := Tryz.underlying261
 a53 := Tryz.isAgg261
 z53 := Tryz.sizeOf261
 v53 := Tryz.zeroValue261
 t55 := Tryz.underlying25
 a55 := Tryz.isAgg25
 z55 := Tryz.sizeOf25
 v55 := Tryz.zeroValue25
 t66 := Tryz.underlying293
 a66 := Tryz.isAgg293
 z66 := Tryz.sizeOf293
 v66 := Tryz.zeroValue293
 t70 := Tryz.underlying297
 a70 := Tryz.isAgg297
 z70 := Tryz.sizeOf297
 v70 := Tryz.zeroValue297
 t76 := Tryz.underlying327
 a76 := Tryz.isAgg327
 z76 := Tryz.sizeOf327
 v76 := Tryz.zeroValue327
 t77 := Tryz.underlying328
 a77 := Tryz.isAgg328
 z77 := Tryz.sizeOf328
 v77 := Tryz.zeroValue328 }
end Go.Proofs
namespace Go.Proofs.YtfaagelglpgpkaaGreatDoor
set_option linter.all false
open Go.SL Go.RowKit Go.Shelf
open Go.Proofs
theorem Jp2 (a : ByteArray) (W : World) : Calls Tryz.prog 126 #[.string a] W fun e w' => e = .returned (.bool false) ∧ w' = W := by
 go_enter Tryz.func126, Tryz.ntmps126
 go_wp2
 go_ret
 exact ⟨by simp, rfl⟩
theorem Jua (a b : BS) (t : TypeId) (w : World) : (binOp .gtr t (.string (bs a)) (.string (bs b))).run Tryz.prog w = .ok (.bool (Op.bytesLess b a)) w := by
 simp only [binOp, eqGuard, Op.stringOp, Sem.run_bind, VL]
 rw [show Op.bytesLess b a = !(Op.bytesLess a b || a == b) from by
  rcases WU a b with rfl | h | h
  ·rw [V8]; simp
  ·rw [h, WA h]; rfl
  ·rw [h, WA h, show (a == b) = false from beq_eq_false_iff_ne.2 (jY h).symm]; rfl]
 rfl
theorem Jfc (a b : BS) (W : World) : Calls Tryz.prog 76 #[.string (bs a), .string (bs b)] W fun e w' => e = .returned (.int .i64 (XE a b)) ∧ w' = W := by
 have h := Jp2
 have hg := Jua
 unfold XE
 go_enter Tryz.func76, Tryz.ntmps76
 go_wp2_with (first | (go_at_call 126; refine (h _ _).mono ?_; rintro e w' ⟨rfl, rfl⟩) | rw [hg])
 all_goals go_ret
 all_goals refine ⟨?_, rfl⟩
 all_goals simp_all [VL]
theorem Jub (x y : AcL) (W : World) : Calls Tryz.prog 75 #[.agg (AcL.cells x).toArray, .agg (AcL.cells y).toArray] W fun e w' => e = .returned (.int .i64 (XE x.addr y.addr)) ∧ ∃ q os', w' = Go.Sort.grow (W.drewN q) os' := by
 have hcon := fun W' => Jfc x.addr y.addr W'
 generalize XE x.addr y.addr = r at hcon ⊢
 obtain ⟨xa, xn, ⟨xb, xc, xd, xe⟩, xo, xs, xp⟩ := x
 obtain ⟨ya, yn, ⟨yb, yc, yd, ye⟩, yo, ys, yp⟩ := y
 simp only [AcL.cells] at hcon ⊢
 go_enter Tryz.func75, Tryz.ntmps75
 go_wp2_with (go_at_call 76; refine (hcon _).mono ?_; rintro e w' ⟨rfl, rfl⟩)
 go_ret
 exact ⟨rfl, 0, _, by rw [Go.Sort.alloc_eq_grow, Go.Sort.alloc_eq_grow, Go.Sort.grow_grow]; rfl⟩
theorem Jc6 {w w' : World} {blk n : Nat} {os : Array Obj} {xs ys : List Value} {sp : List Value} {e : TypeId} (hl : ys.length = xs.length) (hw : w' = Go.Sort.grow (Go.Sort.putRow id (Go.Sort.ahead w n) blk 0 ys.toArray) os)
  (hb : w.heap[blk]? = some (.cells (xs ++ sp).toArray e (0, 0))) : Keep [blk] w w' ∧ w'.heap[blk]? = some (.cells (ys ++ sp).toArray e (0, 0)) := by
 have hlt := J4 hb
 have hh : ∀ k, k < w.heap.size → w'.heap[k]? = (w.heap.modify blk (Go.Sort.onCells (Go.Sort.putCells id 0 ys.toArray)))[k]? := fun k hk => by
  subst hw
  show (_ ++ _ : Array Obj)[k]? = _
  rw [Array.getElem?_append_left]
  ·rfl
  ·show k < (Array.modify _ _ _).size
   rw [Array.size_modify]; exact hk
 refine ⟨⟨by subst hw; rfl, by subst hw; rfl, by subst hw; rfl, ?_, fun k hk hn => ?_⟩, ?_⟩
 ·subst hw
  show _ ≤ (_ ++ _ : Array Obj).size
  rw [Array.size_append]
  show _ ≤ (Array.modify _ _ _).size + _
  rw [Array.size_modify]; exact Nat.le_add_right _ _
 ·rw [hh k hk, Array.getElem?_modify, if_neg]
  intro e; exact hn (by simp [e])
 ·rw [hh blk hlt, Array.getElem?_modify, if_pos rfl, hb]
  simp only [Option.map_some, Go.Sort.onCells, Option.some.injEq, Obj.cells.injEq, and_true]
  apply Array.toList_inj.1
  apply List.ext_getElem?
  intro j; simp only [Go.Sort.putCells, Nat.zero_le, true_and, Nat.zero_add, List.size_toArray, Nat.sub_zero, Array.toList_mapIdx, List.getElem?_mapIdx]
  by_cases hj : j < ys.length
  ·rw [List.getElem?_append_left (by omega), List.getElem?_append_left hj]
   simp [hj, (by omega : j < xs.length)]
  ·rw [List.getElem?_append_right (by omega), List.getElem?_append_right (by omega)]
   simp only [hl, if_neg (by omega : ¬ j < xs.length)]
   cases sp[j - xs.length]? <;> simp
theorem Jfd {w : World} {blk : Nat} {xs : List Value} {sp : List Value} {e : TypeId} (hb : w.heap[blk]? = some (.cells (xs ++ sp).toArray e (0, 0))) : Go.Sort.Holds id w blk 0 xs.toArray := fun j hj => by
 have hj' : j < xs.length := by simpa using hj
 rw [Nat.zero_add, QX hb, X7 hb (show frB (0, 0) j = false from by simp [frB, Nat.blt, Nat.ble])]; refine ⟨?_, rfl⟩
 simp [hj', List.getElem?_append_left]
instance : Inhabited AcL := ⟨ac0L⟩
theorem Jc7 (xs : List AcL) : Go.Sort.flatK AcL.cells 8 xs.toArray = (KM xs).toArray := by
 refine Go.Sort.ext_get! (by rw [Go.Sort.size_flatK]; simp [KM, Ke AcL.len]) fun t ht => ?_; rw [Go.Sort.size_flatK, List.size_toArray] at ht
 have hq : t / 8 < xs.length := by omega
 have hx : xs[t / 8]? = some xs[t / 8] := List.getElem?_eq_getElem hq
 have hr : t % 8 < (AcL.cells xs[t / 8]).length := by rw [AcL.len]; omega
 have h := Jba (f := AcL.cells) AcL.len hx (List.getElem?_eq_getElem hr)
 rw [show t / 8 * 8 + t % 8 = t by omega] at h; rw [Go.Sort.get_flatK _ _ _ _ (by rw [List.size_toArray]; exact ht)]
 have h2 : (KM xs).toArray[t]? = some (AcL.cells xs[t / 8])[t % 8] := by simpa [KM] using h
 have e1 : ∀ (a : Array Value) (v : Value), a[t]? = some v → a[t]! = v := fun a v h => by rw [Array.getElem!_eq_getD, Array.getD_eq_getD_getElem?, h]; rfl
 rw [e1 _ _ h2]
 simp [hq, hr]
theorem Jp3 : Go.Sort.SWO (Go.Proofs.ltOf fun x y : AcL => XE x.addr y.addr) := by
 have h : ∀ x y : AcL, Go.Proofs.ltOf (fun x y : AcL => XE x.addr y.addr) x y = Op.bytesLess x.addr y.addr := fun x y => qN _ _
 refine ⟨fun x => by rw [h]; exact V8 _, fun x y z h1 h2 => by rw [h] at h1 h2 ⊢; exact Q1 h1 h2, fun x y z h1 h2 => ?_⟩; rw [h] at h1 h2 ⊢
 rcases WU x.addr z.addr with e | e | e
 ·rw [e]; exact V8 _
 ·rcases WU x.addr y.addr with f | f | f
  ·rw [f] at e; rw [e] at h2; cases h2
  ·rw [f] at h1; cases h1
  ·have := Q1 f e; rw [this] at h2; cases h2
 ·exact WA e
def SortR (xs : List AcL) : Type := { ys : List AcL // ys.Perm xs ∧ ∀ (i j : Nat) (x y : AcL), i < j → ys[i]? = some x → ys[j]? = some y → Op.bytesLess y.addr x.addr = false }
theorem Jxa : Pure Tryz.prog 248 [.slice none 0 0, .int .i64 0, .int .i64 0, fV 75].toArray (.tuple #[]) := by
 refine Jk Tryz.func248 rfl rfl fun w => ?_; refine J9 ?_; refine Jq 4 rfl ?_; refine Jc (by omega) (by omega) ?_; refine JN 4 rfl ?_; refine J2 (σ := Unit) (fun _ => True) (fun _ => [(2, .int .i64 0), (8, .int .i64 1)]) (fun _ => []) (fun _ _ _ => True) (fun _ => 0) () trivial (lK rfl) (List.nil_sublist _) (fun _ _ h => h) ?_; rintro ⟨⟩ -; refine JP 8 rfl ?_; refine J0 rfl (fun h4 => ?_) (fun h4 => ?_)
 exact absurd h4 (by decide)
 ·try simp only [ZZ] at h4
  refine Kn 4 rfl ?_; refine Kh rfl rfl .nil (fun w1 hs1 => ?_); exact ⟨rfl, hs1.keep⟩
theorem Jxb : Pure Tryz.prog 195 [.slice none 0 0, .int .i64 0, .int .i64 0, .int .i64 0, fV 75].toArray (.tuple #[]) := by
 refine Jk Tryz.func195 rfl rfl fun w => ?_; refine J9 ?_; refine JP 11 rfl ?_; refine J2 (σ := Unit) (fun _ => True) (fun _ => [(0, .slice none 0 0), (1, .int .i64 0), (2, .int .i64 0), (4, fV 75)]) (fun _ => []) (fun _ _ _ => True) (fun _ => 0) () trivial (lK rfl) (List.nil_sublist _) (fun _ _ h => h) ?_; rintro ⟨⟩ -; refine Jq 6 rfl ?_; refine Jc (by omega) (by omega) ?_; refine JN 10 rfl ?_; refine J0 rfl (fun h6 => ?_) (fun h6 => ?_)
 try simp only [ZZ] at h6
 refine Jq 6 rfl ?_; refine Jm rfl rfl rfl (enters_of Tryz.func248 (by kernel_rfl) rfl) Jxa ?_; refine Jx 7 rfl ?_; refine Jh rfl rfl .nil (fun w1 hs1 => ?_); exact ⟨rfl, hs1.keep⟩
 ·exact absurd h6 (by decide)
theorem P_sortA_nil : Pure Tryz.prog 124 [.slice none 0 0, fV 75].toArray (.tuple #[]) := by
 refine Jk Tryz.func124 rfl rfl fun w => ?_; refine J9 ?_; refine Jq 3 rfl ?_; refine LR rfl (JQ rfl rfl) ?_; refine JF 8 rfl ?_; refine Wa (by omega) (by omega) ?_; refine Jm rfl rfl rfl (enters_of Tryz.func174 (by kernel_rfl) rfl) wm ?_; refine QI rfl (Jm rfl rfl rfl (enters_of Tryz.func195 (by kernel_rfl) rfl) Jxb (Jx 1 rfl ?_)); refine Kh rfl rfl .nil (fun w1 hs1 => ?_); exact ⟨rfl, hs1.keep⟩
theorem Juc {R : Ji} {xs : List AcL} {row : QJ} (hl : xs.length ≤ 1000) (hrow : rowOk 8 xs.length (KM xs) row) :
  PureT (α := SortR xs) Tryz.prog 124 [JC xs.length row, fV 75].toArray (fun _ => .tuple #[]) (JL 48 (KM xs) row) (fun ys => JL 48 (KM ys.1) row) R := by
 cases row with
 | none =>
  have h0 : xs = [] := by
   have := hrow.1
   exact List.eq_nil_of_length_eq_zero (by simpa using this)
  subst h0; exact P_sortA_nil.toR.toT.map (fun _ => ⟨[], List.Perm.refl _, fun i j x y _ h => by simp at h⟩) (fun _ => rfl) (fun _ => List.Sublist.refl _)
 | some p =>
  obtain ⟨r, cap, sp⟩ := p
  obtain ⟨hr1, hr2⟩ := hrow
  refine ⟨fun w hT hR hd hne => ?_⟩
  have hb : w.heap[r]? = some (.cells (KM xs ++ sp).toArray 48 (0, 0)) := hT _ List.mem_cons_self
  have hH : Go.Sort.HoldsK AcL.cells 8 w r 0 xs.toArray := by
   unfold Go.Sort.HoldsK
   rw [Jc7]; exact Jfd hb
  have eg : ∀ args w, (callFunc 75 args).run Tryz.prog w = .ok (.enter 75 args) w := enters_of Tryz.func75 (by kernel_rfl) rfl
  have hcon := AnyQ.slices_SortFunc Tryz.laysSortA 8 Tryz.isAgg48 Tryz.sizeOf48 AcL.cells AcL.len (fun x v hv => by simp [AcL.cells] at hv; rcases hv with rfl | rfl | rfl | rfl | rfl | rfl | rfl | rfl <;> rfl) (fun x y => XE x.addr y.addr) Jp3 75 #[] r 0 cap xs.toArray w eg (fun _ _ _ _ x y => Jub x y _) hH (J4 hb) (by rw [List.size_toArray]; omega)
  change Calls Tryz.prog 124 #[.slice (some ⟨r, 0, none⟩) xs.length cap, fV 75] w _ at hcon; refine hcon.mono ?_; rintro e w' ⟨rfl, d', n, os, ⟨hp1, _, hp3⟩, hso, hw⟩
  have hsz : d'.toList.length = xs.length := by rw [Array.length_toList, hp1, List.size_toArray]
  have hfl : Go.Sort.flatK AcL.cells 8 d' = (KM d'.toList).toArray := Jc7 d'.toList
  have hw2 : w' = Go.Sort.grow (Go.Sort.putRow id (Go.Sort.ahead w n) r 0 (KM d'.toList).toArray) os := by rw [hw, ← hfl]; rfl
  obtain ⟨h1, h2⟩ := Jc6 (ys := KM d'.toList) (by simp only [KM, Ke AcL.len, hsz]) hw2 hb
  have hperm : d'.toList.Perm xs := by
   rw [List.size_toArray] at hp3
   have e1 : (d'.extract 0 xs.length).toList = d'.toList := by rw [Array.toList_extract]; simp [← hsz]; exact List.take_of_length_le (by simp)
   have e2 : (xs.toArray.extract 0 xs.length).toList = xs := by rw [Array.toList_extract]; simp
   rw [e1, e2] at hp3; exact hp3
  have hs : ∀ (i j : Nat) (x y : AcL), i < j → d'.toList[i]? = some x → d'.toList[j]? = some y → Op.bytesLess y.addr x.addr = false := fun i j x y hij hx hy => by
   have hj := (List.getElem?_eq_some_iff.1 hy).1
   have h := hso i j (Nat.zero_le _) hij (by rw [List.size_toArray]; omega)
   have g : ∀ (k : Nat) (z : AcL), d'.toList[k]? = some z → d'[k]! = z := fun k z hz => by
    have h3 : d'[k]? = some z := by simpa using hz
    rw [Array.getElem!_eq_getD, Array.getD_eq_getD_getElem?, h3]; rfl
   rw [g j y hy, g i x hx] at h
   have h4 : Op.bytesLess y.addr x.addr = decide (XE y.addr x.addr < 0) := (qN _ _).symm
   rw [h4]; exact h
  exact ⟨⟨d'.toList, hperm, hs⟩, rfl, h1, fun p hp => by
   rw [List.mem_singleton.1 hp]; exact ⟨.inl (by simp [JL]), h2⟩, List.pairwise_singleton _ _⟩
theorem Jkn {R : Ji} {xs : List AcL} {g : FuncId} {caps : List Value} (hl : xs.length ≤ 1000) (eg : Enters Tryz.prog g) (hit : ZH Tryz.prog g caps R 0 (nxN (fun i => [vA (acI xs i)]) xs.length) (wx xs.length)) :
  PureT (α := { y : SortR xs × QJ // rowOk 8 xs.length (KM y.1.1) y.2 }) Tryz.prog 73 [.func (.func g) #[] caps.toArray, fV 75].toArray (fun y => JC xs.length y.1.2) [] (fun y => JL 48 (KM y.1.1.1) y.1.2) R := by
 refine Ju Tryz.func73 rfl rfl fun w => ?_; refine J9 ?_; refine Jq 8 rfl ?_; refine Kq rfl rfl rfl (enters_of Tryz.func123 (by kernel_rfl) rfl) (Jkm hl eg hit) oR fun x => ?_
 obtain ⟨row, hrow⟩ := x
 refine JF 7 rfl ?_; refine Qk (T := JL 48 (KM xs) row) (L0 := []) (Rl := []) (List.Perm.refl _) rfl rfl rfl (enters_of Tryz.func124 (by kernel_rfl) rfl) (Juc hl hrow) oN fun ys => ?_; refine Jx 9 rfl ?_; refine pT rfl rfl rfl fun w1 hs1 => ?_; exact ⟨⟨(ys, row), hrow.same (by rw [KM, KM, Ke AcL.len, Ke AcL.len, ys.2.1.length_eq])⟩, rfl, hs1.weakL (List.sublist_append_left _ _)⟩
def wkC (g : GenL) (n : Nat) (p : Pl) (f : Int) : List Value := [KG g.ts.length g.tp, uV g.time, uV g.rc.number, uV g.rc.time, uV g.rc.base.a, uV g.rc.base.b, uV g.rc.base.c, uV g.rc.base.d, uV g.rc.blob.a, uV g.rc.blob.b, uV g.rc.blob.c, uV g.rc.blob.d, uV g.rc.overhead.a, uV g.rc.overhead.b, uV g.rc.overhead.c, uV g.rc.overhead.d, uV g.rc.scalar, uV g.rc.extra, uV g.rc.operator, KG g.accts.length g.ap, KG n p, .int .i64 f]
def wI (W : Nat) (g : GenL) (n : Nat) (p : Pl) (f : Int) : Nat × Obj := (W, .cells (wkC g n p f).toArray 70 (0, 0))
def rpB (rp W : Nat) : Nat × Obj := (rp, .cells #[Qf W 0] 68 (0, 0))
theorem Jud {R : Ji} {g : GenL} (hg : g.In R) (rp W n : Nat) (p : Pl) (f : Int) : PureT (α := Unit) Tryz.prog 70 [Qf rp 0].toArray (fun _ => .int .i64 (QH g.ts g.time).2) [wI W g n p f] (fun _ => [wI W g n p (QH g.ts g.time).1]) (rpB rp W :: R) := by
 have hA := (Jpw hg.tlen hg.tseg g.time).mono (R' := rpB rp W :: R) fun q hq => List.mem_cons_of_mem _ hq
 refine Ju Tryz.func70 rfl rfl fun w => ?_; refine J9 ?_; refine JP 6 rfl ?_
 refine JM [] [(0, .pure), (1, .pure), (2, .pure), (3, .pure), (4, .pure), (6, .pure), (7, .pure), (8, .pure), (9, .pure), (12, .pure), (13, .pure), (14, .pure), (15, .pure), (16, .pure), (17, .turn), (18, .pure)] 19 [0, 1, 2, 3, 4, 5, 6, 7, 8, 9, 10, 11, 12, 13, 14, 15, 16, 17, 18] (by kernel_rfl) (by kernel_rfl) (by first | exact (fun _ h => absurd h List.not_mem_nil) | simp [SubS] | (intro p hp; simp [hp])) ?_; refine Jl (k := 0) rfl rfl rfl rfl rfl (fun _ hS => (Jd rfl (Jv (k := 0) rfl) rfl rfl)) ?_; refine Jl (k := 1) rfl rfl rfl rfl rfl (fun _ hS => (Jd rfl (Jv (k := 0) rfl) rfl rfl)) ?_; refine Jl (k := 2) rfl rfl rfl rfl rfl (fun _ hS => (Jy rfl rfl rfl)) ?_
 refine Jl (k := 3) rfl rfl rfl rfl rfl (fun _ hS => (JG rfl rfl rfl)) ?_
 refine Jl (k := 4) rfl rfl rfl rfl rfl (fun _ hS => (JG rfl rfl rfl)) ?_; refine KA (k := 5) rfl rfl rfl rfl rfl (Jp (vs := [_]) rfl (kn 0 rfl) rfl rfl rfl rfl) ?_; refine Jl (k := 6) rfl rfl rfl rfl rfl (fun _ hS => (Jd rfl (Jv (k := 0) rfl) rfl rfl)) ?_; refine Jl (k := 7) rfl rfl rfl rfl rfl (fun _ hS => (Jy rfl rfl rfl)) ?_
 refine Jl (k := 8) rfl rfl rfl rfl rfl (fun _ hS => (JG rfl rfl rfl)) ?_
 refine Jl (k := 9) rfl rfl rfl rfl rfl (fun _ hS => (JG rfl rfl rfl)) ?_; refine KA (k := 10) rfl rfl rfl rfl rfl (Jd rfl (kn 0 rfl) rfl rfl) ?_; refine KH (k := 11) rfl rfl rfl rfl rfl (enters_of Tryz.func71 (by kernel_rfl) rfl) (hA) (fun q hq => .inr hq) ?_; refine Jl (k := 12) rfl rfl rfl rfl rfl (fun _ hS => (Jg rfl)) ?_; refine Jl (k := 13) rfl rfl rfl rfl rfl (fun _ hS => (JX rfl rfl)) ?_; refine Jl (k := 14) rfl rfl rfl rfl rfl (fun _ hS => (JX rfl rfl)) ?_; refine Jl (k := 15) rfl rfl rfl rfl rfl (fun _ hS => (Jy rfl rfl rfl)) ?_
 refine Jl (k := 16) rfl rfl rfl rfl rfl (fun _ hS => (JG rfl rfl rfl)) ?_
 refine XB (k := 17) (q := 0) rfl rfl rfl rfl rfl rfl rfl rfl rfl (by first | (simp only [List.setIfInBounds_toArray, List.set_cons_zero, List.set_cons_succ]; exact rfl) | exact rfl) (by first | (simp only [List.set_cons_zero, List.set_cons_succ]; exact rfl) | exact rfl) (by first | exact (fun _ h => absurd h List.not_mem_nil) | simp [SubS] | (intro p hp; simp [hp])) ?_; refine Jl (k := 18) rfl rfl rfl rfl rfl (fun _ hS => (J7 rfl)) ?_; refine Ko ?_; refine Jx 9 rfl ?_; refine pT rfl rfl rfl fun w1 hs1 => ?_; exact ⟨(), rfl, hs1⟩
theorem Jue {R : Ji} {g : GenL} (hg : g.In R) {s : StL} (hs : s.In R) (rp W : Nat) (f : Int) : PureT (α := StRes R (QC f s.er g.rc)) Tryz.prog 80 [Qf rp 0].toArray (fun x => .int .i64 x.err) [wI W g s.accts.length s.p f] (fun x => wI W g x.s.accts.length x.s.p f :: x.L) (rpB rp W :: R) := by
 have hw0 := Jtu f hs hg.rc
 refine xE Tryz.func80 rfl rfl fun w hR => ?_; refine J9 ?_
 obtain ⟨x0⟩ := hw0.ne (fun p hp => hR p (List.mem_cons_of_mem _ hp))
 refine JP 6 rfl ?_
 refine JM [] [(0, .pure), (1, .pure), (2, .pure), (3, .pure), (5, .pure), (6, .pure), (7, .pure), (9, .pure), (10, .pure), (11, .pure), (12, .pure), (14, .grow (KY x0 (fun x => x.val) (fun x => x.L))), (15, .pure), (16, .pure), (17, .pure), (18, .pure), (19, .pure), (20, .turn), (21, .pure)] 22 [0, 1, 2, 3, 4, 5, 6, 7, 8, 9, 10, 11, 12, 13, 14, 15, 16, 17, 18, 19, 20, 21] (by kernel_rfl) (by kernel_rfl) (by first | exact (fun _ h => absurd h List.not_mem_nil) | simp [SubS] | (intro p hp; simp [hp])) ?_; refine Jl (k := 0) rfl rfl rfl rfl rfl (fun _ hS => (Jd rfl (Jv (k := 0) rfl) rfl rfl)) ?_; refine Jl (k := 1) rfl rfl rfl rfl rfl (fun _ hS => (Jd rfl (Jv (k := 0) rfl) rfl rfl)) ?_; refine Jl (k := 2) rfl rfl rfl rfl rfl (fun _ hS => (Jy rfl rfl rfl)) ?_
 refine Jl (k := 3) rfl rfl rfl rfl rfl (fun _ hS => (JG rfl rfl rfl)) ?_; refine KA (k := 4) rfl rfl rfl rfl rfl (Jd rfl (kn 0 rfl) rfl rfl) ?_; refine Jl (k := 5) rfl rfl rfl rfl rfl (fun _ hS => (Jd rfl (Jv (k := 0) rfl) rfl rfl)) ?_; refine Jl (k := 6) rfl rfl rfl rfl rfl (fun _ hS => (Jy rfl rfl rfl)) ?_
 refine Jl (k := 7) rfl rfl rfl rfl rfl (fun _ hS => (JG rfl rfl rfl)) ?_; refine KA (k := 8) rfl rfl rfl rfl rfl (Jp (vs := [_]) rfl (kn 0 rfl) rfl rfl rfl rfl) ?_; refine Jl (k := 9) rfl rfl rfl rfl rfl (fun _ hS => (Jd rfl (Jv (k := 0) rfl) rfl rfl)) ?_; refine Jl (k := 10) rfl rfl rfl rfl rfl (fun _ hS => (Jy rfl rfl rfl)) ?_
 refine Jl (k := 11) rfl rfl rfl rfl rfl (fun _ hS => (JG rfl rfl rfl)) ?_
 refine Jl (k := 12) rfl rfl rfl rfl rfl (fun _ hS => (JG rfl rfl rfl)) ?_; refine KA (k := 13) rfl rfl rfl rfl rfl (Jp (vs := [_, _, _, _, _, _, _, _, _, _, _, _, _, _, _, _, _]) rfl (kn 0 rfl) rfl rfl rfl rfl) ?_; refine KS (k := 14) rfl rfl rfl rfl rfl (enters_of Tryz.func81 (by kernel_rfl) rfl) hw0 (fun q hq => .inr (List.mem_cons_of_mem _ hq)) fun x => ?_; refine Jl (k := 15) rfl rfl rfl rfl rfl (fun _ hS => (Jg rfl)) ?_; refine Jl (k := 16) rfl rfl rfl rfl rfl (fun _ hS => (JX rfl rfl)) ?_; refine Jl (k := 17) rfl rfl rfl rfl rfl (fun _ hS => (JX rfl rfl)) ?_; refine Jl (k := 18) rfl rfl rfl rfl rfl (fun _ hS => (Jy rfl rfl rfl)) ?_
 refine Jl (k := 19) rfl rfl rfl rfl rfl (fun _ hS => (JG rfl rfl rfl)) ?_; refine yK (k := 20) (q := x.L.length) (n := 1) (off := 20) (vs := x.s.cells.toArray) (cs := (wkC g s.accts.length s.p f).toArray) (e := 70) (E' := x.L ++ [wI W g x.s.accts.length x.s.p f]) (cs' := (wkC g x.s.accts.length x.s.p f).toArray) rfl rfl rfl rfl List.getElem?_concat_length rfl rfl rfl rfl (by exact Nat.le_of_ble_eq_true rfl) rfl (by simp [wI]) (fun _ h => absurd h List.not_mem_nil) ?_; refine Jl (k := 21) rfl rfl rfl rfl rfl (fun _ hS => (J7 rfl)) ?_; refine Ko ?_; refine Jx 9 rfl ?_; refine pT rfl rfl rfl fun w1 hs1 => ?_; exact ⟨x, rfl, hs1.perm (List.perm_append_comm)⟩
section
variable {c : Cx} {l : Ki} {E : Ji} {X : XP} {d : List Deferred} {ops : Array Oper} {rest : List Nat} {k i : Nat} {tb : Zu} {S : Ji} {T : Ji → Act → Prop}
theorem yR {α : Type} {T0 L0 Rl : Ji} {f : Operand} {args : Array Operand} {at_ : Array TypeId} {g : FuncId} {vs : List Value} {V : α → Value} {LL E' : α → Ji} {ty : TypeId} {ps : String} {af : Array Edge} {gd : Option (Nat × Bool)}
  (hp : E.Perm (T0 ++ L0)) (hE : ∀ x, (LL x ++ L0).Perm (E' x)) (hk : WF ops.toList k = some ⟨some i, .call ⟨.value f, args, at_⟩, ty, ps, af, gd⟩) (hg : JV l ops ⟨some i, .call ⟨.value f, args, at_⟩, ty, ps, af, gd⟩ = some true) (hi : Nat.ble (i + 1) c.n = true) (hA : tb k = .turn) (hca : Kc l f args = some (g, vs)) (eg : Enters c.P g)
  (hpt : PureT c.P g vs.toArray V T0 LL Rl) (hR : ∀ p ∈ Rl, known c L0 p.1 p.2) (hS : ∀ x, SubS S (E' x)) (h : ∀ x, HB c d ((i, V x) :: l) (E' x) X S ops tb rest T) : HB c d l E X S ops tb (k :: rest) T := fun a hf => by
 refine ⟨_, Qw hk, ?_⟩; rw [hA]; refine .inl ⟨α, V, E', ⟨JD hf hg, fun w hs => ?_⟩, fun x => ⟨hS x, h x _ (hf.put (Nat.le_of_ble_eq_true hi))⟩⟩
 have hs := hs.perm hp
 obtain ⟨hd1, _, hd3⟩ := List.pairwise_append.1 hs.distinct
 refine Wc hf hca eg ((hpt.run w (fun p hp => (hs.own p (List.mem_append_left _ hp)).2.2) (fun p hp => ?_) hd1 (fun p hp q hq => ?_)).mono fun _ _ ⟨x, he, hk, h1, h2⟩ => ⟨V x, he, x, rfl, (hs.turnT hk h1 h2).perm (hE x)⟩)
 ·exact (hR p hp).elim (fun h => (hs.own _ (List.mem_append_right _ h)).2.2) hs.readR
 ·rcases hR p hp with h | h
  ·exact fun e => hd3 q hq _ h e.symm
  ·rintro e
   obtain ⟨h1, _, h3⟩ := hs.ext _ h
   have h3 := J4 h3
   rcases (hs.own q (List.mem_append_left _ hq)).1 with h4 | h4
   ·exact h1 (e ▸ h4)
   ·simp only at h3 e; omega
theorem Jp4 {o : Oper} {v : Value} (hk : WF ops.toList k = some o) (hg : JV l ops o = some true) (hd : o.dst = some i) (hi : Nat.ble (i + 1) c.n = true) (hA : tb k = .turn) (hr : J3 c d l E X o v) (hS : SubS S E) (h : HB c d ((i, v) :: l) E X S ops tb rest T) : HB c d l E X S ops tb (k :: rest) T := fun a hf => by
 refine ⟨o, Qw hk, ?_⟩; rw [hA]; refine .inl ⟨Unit, fun _ => v, fun _ => E, ⟨JD hf hg, fun w hs => XX (hr a w hf hs) ⟨(), rfl, hs⟩⟩, fun _ => ⟨hS, ?_⟩⟩; rw [hd]; exact h _ (hf.put (Nat.le_of_ble_eq_true hi))
end
theorem Jp5 (xs : List AcL) : Nonempty { row : QJ // rowOk 8 xs.length (xs.flatMap AcL.cells) row } := ⟨⟨some (0, xs.length, []), ⟨Ke AcL.len xs, by simp⟩⟩⟩
structure Step2R (g : GenL) : Type where
  ys : SortR g.accts
  row : QJ
  ok : rowOk 8 ys.1.length (KM ys.1) row
def Step2R.st {g : GenL} (x : Step2R g) : StL := ⟨x.ys.1, QR x.row⟩
def Step2R.L {g : GenL} (x : Step2R g) : Ji := JL 48 (KM x.ys.1) x.row
def Jfe (ys : List AcL) : Int := if XS (jt ys) = true then 13 else KT (ys.map AcL.er)
theorem Jc8 {R : Ji} {g : GenL} (hg : g.In R) (x : Step2R g) : x.st.In (x.L ++ R) :=
 ⟨by show x.ys.1.length ≤ Yw; rw [x.ys.2.1.length_eq]; exact hg.st.len, (Kx x.ok (by decide)).mono fun q hq => List.mem_append_left _ hq, fun a ha => (hg.st.accts a (x.ys.2.1.mem_iff.1 ha)).mono fun q hq => List.mem_append_right _ hq⟩
theorem Juf {R : Ji} {g : GenL} (hg : g.In R) (hf : g.accts.length ≤ 1000) (rp W n : Nat) (p : Pl) (f : Int) : PureT (α := Step2R g) Tryz.prog 72 [Qf rp 0].toArray (fun x => .int .i64 (Jfe x.ys.1)) [wI W g n p f] (fun x => wI W g x.ys.1.length (QR x.row) f :: x.L) (rpB rp W :: R) := by
 have hseg : Seg (rpB rp W :: R) g.accts.length (KM g.accts) g.ap := hg.st.seg.mono fun q hq => List.mem_cons_of_mem _ hq
 have hg2 : g.In (rpB rp W :: R) := hg.mono fun q hq => List.mem_cons_of_mem _ hq
 have hb : g.accts.length ≤ 9223372036854775807 := by omega
 refine Ju Tryz.func72 rfl rfl fun w => ?_; refine J9 ?_; refine JP 6 rfl ?_
 refine JM [] [(0, .pure), (1, .pure), (2, .pure), (3, .pure), (4, .pure), (5, .turn), (6, .grow (KY (0 : Nat) (fun r => Value.func (.func 125) #[] #[.pointer (some ⟨r, 0, none⟩)]) (fun r => [xN r g.accts.length g.ap]))), (7, .turn), (8, .pure), (9, .pure), (10, .pure), (11, .turn)] 12 [0, 1, 2, 3, 4, 5, 6, 7, 8, 9, 10, 11] (by kernel_rfl) (by kernel_rfl) (by first | exact (fun _ h => absurd h List.not_mem_nil) | simp [SubS] | (intro p hp; simp [hp])) ?_; refine Jl (k := 0) rfl rfl rfl rfl rfl (fun _ hS => (Jd rfl (Jv (k := 0) rfl) rfl rfl)) ?_; refine Jl (k := 1) rfl rfl rfl rfl rfl (fun _ hS => (Jd rfl (Jv (k := 0) rfl) rfl rfl)) ?_; refine Jl (k := 2) rfl rfl rfl rfl rfl (fun _ hS => (Jy rfl rfl rfl)) ?_
 refine Jl (k := 3) rfl rfl rfl rfl rfl (fun _ hS => (JG rfl rfl rfl)) ?_
 refine Jl (k := 4) rfl rfl rfl rfl rfl (fun _ hS => (JG rfl rfl rfl)) ?_; refine Jp4 (k := 5) rfl rfl rfl rfl rfl (Jd rfl (kn 0 rfl) rfl rfl) (fun _ h => absurd h List.not_mem_nil) ?_; refine WG (k := 6) rfl rfl rfl rfl rfl (enters_of Tryz.func74 (by kernel_rfl) rfl) (Jpz _ _) fun rv => ?_
 refine yR (k := 7) (α := { y : SortR g.accts × QJ // rowOk 8 g.accts.length (KM y.1.1) y.2 }) (V := fun y => JC g.accts.length y.1.2) (LL := fun y => JL 48 (KM y.1.1.1) y.1.2) (T0 := []) (L0 := [xN rv g.accts.length g.ap, wI W g n p f]) (Rl := xN rv g.accts.length g.ap :: rpB rp W :: R) (E' := fun x => wI W g n p f :: xN rv g.accts.length g.ap :: JL 48 (KM x.1.1.1) x.1.2) (List.Perm.refl _) (fun x => List.perm_append_comm.trans (List.Perm.swap _ _ _)) rfl rfl rfl rfl rfl (enters_of Tryz.func73 (by kernel_rfl) rfl) (Jkn hf (enters_of Tryz.func125 (by kernel_rfl) rfl) (Jp0 hb hseg rv)) (fun q hq => by rcases List.mem_cons.1 hq with rfl | h; exact .inl (List.mem_cons_self ..); exact .inr h) (fun _ _ h => absurd h List.not_mem_nil) fun x => ?_
 obtain ⟨⟨ys, row⟩, hrow⟩ := x
 simp only at hrow ⊢
 have hyl := ys.2.1.length_eq
 rw [← hyl] at hrow; refine We (v' := KG ys.1.length (QR row)) (by rw [← hyl]; exact (WX _ _ (fun h => by subst h; exact hrow.1)).symm) ?_; refine Jl (k := 8) rfl rfl rfl rfl rfl (fun _ hS => (Jy rfl rfl rfl)) ?_
 refine Jl (k := 9) rfl rfl rfl rfl rfl (fun _ hS => (JG rfl rfl rfl)) ?_
 refine Jl (k := 10) rfl rfl rfl rfl rfl (fun _ hS => (JG rfl rfl rfl)) ?_; refine XB (k := 11) (q := 0) (off := 20) (cs' := (wkC g ys.1.length (QR row) f).toArray) rfl rfl rfl rfl rfl rfl rfl rfl rfl rfl rfl (fun _ h => absurd h List.not_mem_nil) ?_; refine Ko ?_; refine JN 9 rfl ?_
 obtain ⟨x0⟩ := Jp5 ys.1
 have hyl2 : ys.1.length ≤ 1000 := by omega
 have hsy : Seg (JL 48 (KM ys.1) row) ys.1.length (ys.1.flatMap AcL.cells) (QR row) := Kx hrow (by decide)
 refine JM (wI W g ys.1.length (QR row) f :: JL 48 (KM ys.1) row) [(0, .pure), (1, .pure), (2, .pure), (3, .pure), (4, .pure), (5, .grow (KY x0 (fun x => JC ys.1.length x.1) (fun x => JL 48 (ys.1.flatMap AcL.cells) x.1))), (6, .pure), (7, .turn), (8, .pure), (9, .pure), (10, .pure), (11, .pure), (12, .pure), (13, .pure), (14, .pure), (15, .pure)] 16 [0, 1, 2, 3, 4, 6, 9, 10, 11, 12, 13, 14, 5, 7, 8, 15] (by kernel_rfl) (by kernel_rfl) (fun q hq => by rcases List.mem_cons.1 hq with rfl | h; exact List.mem_cons_self ..; exact List.mem_cons_of_mem _ (List.mem_cons_of_mem _ h)) ?_; refine Jl (k := 0) rfl rfl rfl rfl rfl (fun _ hS => (Jd rfl (Jv (k := 0) rfl) rfl rfl)) ?_; refine Jl (k := 1) rfl rfl rfl rfl rfl (fun _ hS => (Jy rfl rfl rfl)) ?_
 refine Jl (k := 2) rfl rfl rfl rfl rfl (fun _ hS => (JG rfl rfl rfl)) ?_
 refine Jl (k := 3) rfl rfl rfl rfl rfl (fun _ hS => (JG rfl rfl rfl)) ?_; refine Jl (k := 4) rfl rfl rfl rfl rfl (fun _ hS => (Jd rfl (.inl (hS _ (Jo (n := 0) rfl))) rfl rfl)) ?_; refine Jl (k := 6) rfl rfl rfl rfl rfl (fun _ hS => (Jg rfl)) ?_; refine Jl (k := 9) rfl rfl rfl rfl rfl (fun _ hS => (Jd rfl (Jv (k := 0) rfl) rfl rfl)) ?_; refine Jl (k := 10) rfl rfl rfl rfl rfl (fun _ hS => (Jy rfl rfl rfl)) ?_
 refine Jl (k := 11) rfl rfl rfl rfl rfl (fun _ hS => (JG rfl rfl rfl)) ?_
 refine Jl (k := 12) rfl rfl rfl rfl rfl (fun _ hS => (JG rfl rfl rfl)) ?_; refine Jl (k := 13) rfl rfl rfl rfl rfl (fun _ hS => (Jd rfl (.inl (hS _ (Jo (n := 0) rfl))) rfl rfl)) ?_; refine Jl (k := 14) rfl rfl rfl rfl rfl (fun _ hS => (JQ rfl rfl)) ?_; refine KS (k := 5) rfl rfl rfl rfl rfl (enters_of Tryz.func79 (by kernel_rfl) rfl) (Jcv hyl2 hsy) (fun q hq => .inl (List.mem_cons_of_mem _ hq)) fun x2 => ?_
 obtain ⟨row2, hrow2⟩ := x2
 refine yR (k := 7) (α := CompR ys.1) (V := fun q => q.val) (LL := fun _ => []) (T0 := JL 48 (KM ys.1) row2) (Rl := []) (L0 := wI W g ys.1.length (QR row) f :: xN rv g.accts.length g.ap :: JL 48 (KM ys.1) row) (E' := fun _ => wI W g ys.1.length (QR row) f :: xN rv g.accts.length g.ap :: JL 48 (KM ys.1) row) (List.Perm.refl _) (fun x => List.Perm.refl _) rfl rfl rfl rfl rfl (enters_of Tryz.func78 (by kernel_rfl) rfl) (Jkl hyl2 hrow2 (enters_of Tryz.func77 (by kernel_rfl) rfl) Jt8) oN (fun _ => (fun q hq => by rcases List.mem_cons.1 hq with rfl | h; exact List.mem_cons_self ..; exact List.mem_cons_of_mem _ (List.mem_cons_of_mem _ h))) fun qq => ?_; refine Jl (k := 8) rfl rfl rfl rfl rfl (fun _ hS => (JQ rfl rfl)) ?_; refine Jl (k := 15) rfl rfl rfl rfl rfl (fun _ hS => (Jy rfl rfl rfl)) ?_; refine Ko ?_; refine JN 2 rfl ?_; refine cD (fun h6 => ?_) fun h6 => ?_
 refine Kn 7 rfl ?_; refine pT rfl rfl rfl fun w1 hs1 => ?_
 (have ha : XS (jt ys.1) = true := qq.2.1.1 (by omega)
  exact ⟨⟨ys, row, hrow⟩, by rw [Jfe, if_pos ha]; rfl, hs1.weakL (.cons₂ _ (.cons _ (List.Sublist.refl _)))⟩)
 ·refine JP 3 rfl ?_
  have hst := Jc8 hg2 ⟨ys, row, hrow⟩
  refine Jq 1 rfl ?_; refine LR rfl (Jd rfl (Jv (k := 0) rfl) rfl rfl) ?_; refine XV 3 [0] rfl rfl ?_; refine Je rfl rfl rfl Jr3 (YZ hst) (fun q hq => (List.mem_append.1 hq).elim (fun h => .inl (List.mem_cons_of_mem _ (List.mem_cons_of_mem _ h))) .inr) ?_; refine Jx 4 rfl ?_; refine pT rfl rfl rfl fun w1 hs1 => ?_
  (have ha : ¬ XS (jt ys.1) = true := fun ha => by
    have := qq.2.1.2 ha
    omega
   exact ⟨⟨ys, row, hrow⟩, by rw [Jfe, if_neg ha]; rfl, hs1.weakL (.cons₂ _ (.cons _ (List.Sublist.refl _)))⟩)
def xU (x y : AcE) : Bool := !Op.bytesLess y.addr x.addr
def Vn (l : List AcE) : List AcE := l.mergeSort xU
theorem yS (x y z : AcE) (h1 : xU x y = true) (h2 : xU y z = true) : xU x z = true := by
 simp only [xU, Bool.not_eq_true'] at h1 h2 ⊢
 rcases WU x.addr z.addr with e | e | e
 ·rw [e]; exact V8 _
 ·exact WA e
 ·rcases WU x.addr y.addr with f | f | f
  ·rw [f] at e; rw [e] at h2; cases h2
  ·have := Q1 e f; rw [this] at h2; cases h2
  ·rw [f] at h1; cases h1
theorem yT (x y : AcE) : (xU x y || xU y x) = true := by
 simp only [xU]
 rcases WU x.addr y.addr with e | e | e
 ·rw [e, V8]; rfl
 ·rw [WA e]; rfl
 ·rw [WA e]; simp
theorem wp {x y : AcE} (h1 : xU x y = true) (h2 : xU y x = true) : x.addr = y.addr := by
 simp only [xU, Bool.not_eq_true'] at h1 h2
 rcases WU x.addr y.addr with e | e | e
 ·exact e
 ·rw [e] at h2; cases h2
 ·rw [e] at h1; cases h1
theorem SortR.pair {xs : List AcL} (ys : SortR xs) : (ys.1.map AcL.er).Pairwise fun x y => xU x y = true := by
 rw [List.pairwise_map]
 rw [List.pairwise_iff_getElem]
 intro i j hi hj hij
 simp only [xU, Bool.not_eq_true']
 exact ys.2.2 i j _ _ hij (List.getElem?_eq_getElem hi) (List.getElem?_eq_getElem hj)
theorem Jih {l : List AcE} (hn : (l.map AcE.addr).Nodup) {x y : AcE} (hx : x ∈ l) (hy : y ∈ l) (h : x.addr = y.addr) : x = y := by
 induction l with
 | nil => cases hx
 | cons a l ih =>
  rw [List.map_cons, List.nodup_cons] at hn
  rcases List.mem_cons.1 hx with rfl | hx2
  ·rcases List.mem_cons.1 hy with rfl | hy2
   ·rfl
   ·exact absurd (h ▸ List.mem_map_of_mem hy2) hn.1
  ·rcases List.mem_cons.1 hy with rfl | hy2
   ·exact absurd (h ▸ List.mem_map_of_mem hx2) hn.1
   ·exact ih hn.2 hx2 hy2
theorem SortR.uniq {xs : List AcL} (ys : SortR xs) (hn : ((xs.map AcL.er).map AcE.addr).Nodup) : ys.1.map AcL.er = Vn (xs.map AcL.er) := by
 have hp : (ys.1.map AcL.er).Perm (xs.map AcL.er) := ys.2.1.map _
 have hp2 : (Vn (xs.map AcL.er)).Perm (xs.map AcL.er) := List.mergeSort_perm _ _
 have hs2 : (Vn (xs.map AcL.er)).Pairwise fun x y => xU x y = true := List.pairwise_mergeSort yS yT _
 exact List.Perm.eq_of_pairwise (fun x y hx hy h1 h2 => Jih hn (hp.mem_iff.1 hx) (hp2.mem_iff.1 hy) (wp h1 h2)) ys.pair hs2 (hp.trans hp2.symm)
theorem yU : ∀ {l : List AcE}, l.Pairwise (fun x y => xU x y = true) → (XS (l.map AcE.addr) = true ↔ ¬ (l.map AcE.addr).Nodup)
 | [], _ => by simp [XS]
 | [x], _ => by simp [XS]
 | x :: y :: l, h => by
  have ih := yU (List.pairwise_cons.1 h).2
  have e : XS ((x :: y :: l).map AcE.addr) = (decide (x.addr = y.addr) || XS ((y :: l).map AcE.addr)) := rfl
  rw [e, Bool.or_eq_true, decide_eq_true_eq, ih]
  have e2 : ((x :: y :: l).map AcE.addr).Nodup ↔ x.addr ∉ (y :: l).map AcE.addr ∧ ((y :: l).map AcE.addr).Nodup := List.nodup_cons
  rw [e2]
  constructor
  ·rintro (h1 | h1) ⟨h2, h3⟩
   ·exact h2 (by rw [h1]; exact List.mem_map_of_mem (List.mem_cons_self ..))
   ·exact h1 h3
  ·intro h1
   by_cases h2 : ((y :: l).map AcE.addr).Nodup
   ·left
    by_cases h3 : x.addr ∈ (y :: l).map AcE.addr
    ·obtain ⟨z, hz, hzx⟩ := List.mem_map.1 h3
     have hxy := (List.pairwise_cons.1 h).1 y (List.mem_cons_self ..)
     rcases List.mem_cons.1 hz with rfl | hz
     ·exact hzx.symm
     ·have hyz := (List.pairwise_cons.1 (List.pairwise_cons.1 h).2).1 z hz
      refine wp hxy ?_
      simp only [xU] at hyz ⊢
      rw [← hzx]; exact hyz
    ·exact absurd ⟨h3, h2⟩ h1
   ·exact .inr h2
def V3 (l : List AcE) : Int := if (l.map AcE.addr).Nodup then KT (Vn l) else 13
theorem xO {xs : List AcL} (ys : SortR xs) : Jfe ys.1 = V3 (xs.map AcL.er) := by
 have ha : jt ys.1 = (ys.1.map AcL.er).map AcE.addr := by simp [jt, AcL.er]
 have hp : ((ys.1.map AcL.er).map AcE.addr).Perm ((xs.map AcL.er).map AcE.addr) := (ys.2.1.map _).map _
 have h := yU ys.pair
 rw [← ha] at h
 unfold Jfe V3
 by_cases hn : ((xs.map AcL.er).map AcE.addr).Nodup
 ·have : ¬ XS (jt ys.1) = true := fun h2 => h.1 h2 (ha ▸ hp.nodup_iff.2 hn)
  rw [if_neg this, if_pos hn, ys.uniq hn]
 ·rw [if_neg hn, if_pos (h.2 fun h2 => hn (hp.nodup_iff.1 (ha ▸ h2)))]
def Vu (ts : List Nat) (t : Nat) (rc : Rec) (l : List AcE) : List AcE × Int × Int :=
 if (QH ts t).2 ≠ 0 then ([], 0, (QH ts t).2) else if V3 l ≠ 0 then ([], 0, V3 l) else
  if (QC (QH ts t).1 (Vn l) rc).2 ≠ 0 then ([], 0, (QC (QH ts t).1 (Vn l) rc).2) else ((QC (QH ts t).1 (Vn l) rc).1, (QH ts t).1, 0)
structure BldR (R : Ji) (e : List AcE × Int × Int) : Type where
  s : StL
  f : Int
  err : Int
  L : Ji
  ok : s.In (L ++ R)
  eq : (s.er, f, err) = e
def BldR.val {R : Ji} {e : List AcE × Int × Int} (x : BldR R e) : Value := .tuple #[x.s.val, .int .i64 x.f, .int .i64 x.err]
structure BSt : Type where
  i : Nat
  n : Nat
  p : Pl
  f : Int
  L : Ji
def BSt.ok (R : Ji) (g : GenL) (b : BSt) : Prop :=
 (b.i = 0 ∧ b.n = 0 ∧ b.p = none ∧ b.f = 0 ∧ b.L = []) ∨
 (b.i = 1 ∧ b.n = 0 ∧ b.p = none ∧ b.f = (QH g.ts g.time).1 ∧ (QH g.ts g.time).2 = 0 ∧ b.L = []) ∨
 (b.i = 2 ∧ b.f = (QH g.ts g.time).1 ∧ (QH g.ts g.time).2 = 0 ∧ ∃ x : Step2R g, Jfe x.ys.1 = 0 ∧ b.n = x.ys.1.length ∧ b.p = QR x.row ∧ b.L = x.L) ∨
 (b.i = 3 ∧ b.f = (QH g.ts g.time).1 ∧ (QH g.ts g.time).2 = 0 ∧ V3 (g.accts.map AcL.er) = 0 ∧ ∃ s : StL, s.In (b.L ++ R) ∧ b.n = s.accts.length ∧ b.p = s.p ∧ (s.er, (0 : Int)) = QC b.f (Vn (g.accts.map AcL.er)) g.rc)
theorem Jxc {ts : List Nat} {t : Nat} {rc : Rec} {l : List AcE} (h : (QH ts t).2 = 0) (h2 : V3 l ≠ 0) : Vu ts t rc l = ([], 0, V3 l) := by unfold Vu; rw [if_neg (by simpa using h), if_pos h2]
theorem Jp6 {ts : List Nat} {t : Nat} {rc : Rec} {l : List AcE} (h : (QH ts t).2 = 0) (h2 : V3 l = 0) : Vu ts t rc l = if (QC (QH ts t).1 (Vn l) rc).2 ≠ 0 then ([], 0, (QC (QH ts t).1 (Vn l) rc).2) else ((QC (QH ts t).1 (Vn l) rc).1, (QH ts t).1, 0) := by
 unfold Vu; rw [if_neg (by simpa using h), if_neg (by simpa using h2)]
structure BStep (R : Ji) (g : GenL) (b : BSt) : Type where
  n : Nat
  p : Pl
  f : Int
  err : Int
  L : Ji
  ok : err = 0 → BSt.ok R g ⟨b.i + 1, n, p, f, L ++ b.L⟩
  bad : err ≠ 0 → Vu g.ts g.time g.rc g.ac = ([], 0, err)
def fnN (i : Nat) : FuncId := if i = 0 then 70 else if i = 1 then 72 else 80
theorem Jff (i : Nat) : Enters Tryz.prog (fnN i) := by
 unfold fnN
 split
 ·exact enters_of Tryz.func70 (by kernel_rfl) rfl
 ·split
  ·exact enters_of Tryz.func72 (by kernel_rfl) rfl
  ·exact enters_of Tryz.func80 (by kernel_rfl) rfl
theorem Jp7 {l : List AcE} (h : V3 l = 0) : (l.map AcE.addr).Nodup := by
 unfold V3 at h
 split at h
 ·assumption
 ·cases h
theorem Jug {R : Ji} {g : GenL} (hg : g.In R) (hf : g.accts.length ≤ 1000) {b : BSt} (hb : b.ok R g) (hi : b.i < 3) (rp W : Nat) :
  PureT (α := BStep R g b) Tryz.prog (fnN b.i) [Qf rp 0].toArray (fun y => .int .i64 y.err) [wI W g b.n b.p b.f] (fun y => wI W g y.n y.p y.f :: y.L) (rpB rp W :: (b.L ++ R)) := by
 obtain ⟨i, n, p, f, L⟩ := b
 rcases hb with ⟨h1, h2, h3, h4, h5⟩ | ⟨h1, h2, h3, h4, h5, h6⟩ | ⟨h1, h2, h3, x, h4, h5, h6, h7⟩ | ⟨h1, _⟩
 ·simp only at h1 h2 h3 h4 h5
  subst h1 h2 h3 h4 h5; exact (Jud hg rp W 0 none 0).map (fun _ => ⟨0, none, (QH g.ts g.time).1, (QH g.ts g.time).2, [], fun h => .inr (.inl ⟨rfl, rfl, rfl, rfl, h, rfl⟩), fun h => by unfold Vu; rw [if_pos h]⟩) (fun _ => rfl) fun _ => List.Sublist.refl _
 ·simp only at h1 h2 h3 h4 h6
  subst h1 h2 h3 h4 h6
  exact (Juf hg hf rp W 0 none _).map (fun x => ⟨x.ys.1.length, QR x.row, (QH g.ts g.time).1, Jfe x.ys.1, x.L, fun h => .inr (.inr (.inl ⟨rfl, rfl, h5, x, h, rfl, rfl, List.append_nil _⟩)), fun h => by
   have h2 : V3 g.ac ≠ 0 := by rw [xO] at h; exact h
   rw [xO]; exact Jxc h5 h2⟩) (fun _ => rfl) fun _ => List.Sublist.refl _
 ·simp only at h1 h2 h5 h6 h7
  subst h1 h2 h5 h6 h7
  have he : V3 g.ac = 0 := by rw [← h4, xO]; rfl
  have hs : x.st.er = Vn g.ac := x.ys.uniq (Jp7 he)
  have hq : QC (QH g.ts g.time).1 x.st.er g.rc = QC (QH g.ts g.time).1 (Vn g.ac) g.rc := by rw [hs]
  exact (Jue (hg.mono fun q hq => List.mem_append_right _ hq) (Jc8 hg x) rp W _).map (fun y => ⟨y.s.accts.length, y.s.p, (QH g.ts g.time).1, y.err, y.L, fun h => .inr (.inr (.inr ⟨rfl, rfl, h3, he, y.s, by
    show y.s.In (y.L ++ x.L ++ R)
    rw [List.append_assoc]; exact y.ok, rfl, rfl, by
    have e := y.eq.trans hq
    rw [h] at e; exact e⟩)), fun h => by
   have e := y.eq.trans hq
   rw [Jp6 h3 he, ← e, if_pos h]⟩) (fun _ => rfl) fun _ => List.Sublist.refl _
 ·simp only at h1 hi; omega
def Jp8 (rq rp : Nat) : Nat × Obj := (rq, .cells #[.func (.func 70) #[] #[Qf rp 0], .func (.func 72) #[] #[Qf rp 0], .func (.func 80) #[] #[Qf rp 0]] 73 (0, 0))
theorem Ym {R : Ji} {g : GenL} (hg : g.In R) (hf : g.accts.length ≤ 1000) : PureT (α := BldR R (Vu g.ts g.time g.rc g.ac)) Tryz.prog 11 [g.val].toArray (fun x => x.val) [] (fun x => x.L) R := by
 refine Ju Tryz.func11 rfl rfl fun w => ?_; refine J9 ?_; refine Jq 2 rfl ?_; refine Kk (cs := g.cells.toArray) rfl rfl rfl rfl fun r1 => ?_; refine LN rfl fun r2 => ?_; refine JF 6 rfl ?_; refine LR rfl (Jf (xs := g.cells) (n := 20) rfl (kn 1 rfl) rfl rfl rfl) ?_; refine LR rfl (Jr (r := [_, _, _, _, _, _, _, _, _, _, _, _, _, _, _, _, _, _, _, _, _, _]) rfl rfl) ?_; refine Kk (cs := (wkC g 0 none 0).toArray) rfl rfl rfl rfl fun W => ?_; refine JF 7 rfl ?_; refine JR rfl rfl rfl (enters_of Tryz.func30 (by kernel_rfl) rfl) (Jt9 W) fun pp => ?_
 obtain ⟨rp, rq⟩ := pp
 change HL _ _ _ (Jp8 rq rp :: rpB rp W :: wI W g 0 none 0 :: (r2, _) :: (r1, _) :: []) _ _ _ _; refine LR rfl (JQ rfl rfl) ?_; refine JN 4 rfl ?_; refine J2 (σ := BSt) (fun b => b.ok R g ∧ b.i ≤ 3) (fun b => [(2, Qf r2 0), (3, .int .i64 0), (4, .int .i64 0), (5, Qf W 0), (13, .slice (some ⟨rq, 0, none⟩) 3 3), (14, .int .i64 3), (15, .int .i64 (b.i : Int))]) (fun b => Jp8 rq rp :: rpB rp W :: wI W g b.n b.p b.f :: (r2, .cells #[KG 0 none] 36 (0, 0)) :: (r1, .cells g.cells.toArray 32 (0, 0)) :: b.L) (fun _ _ _ => True) (fun b => 3 - b.i) ⟨0, 0, none, 0, []⟩ ⟨.inl ⟨rfl, rfl, rfl, rfl, rfl⟩, Nat.zero_le _⟩ (lK rfl) (List.Sublist.refl _) (fun _ _ h => h) ?_; rintro b ⟨hok, hi1⟩; refine JP 6 rfl ?_; refine cD (fun h7 => ?_) fun h7 => ?_
 ·refine JP 5 rfl ?_
  have hb3 : b.i < 3 := by omega
  have hi3 : b.i = 0 ∨ b.i = 1 ∨ b.i = 2 := by omega
  refine Jq 1 rfl ?_; refine LR rfl (JE (j := b.i) (m := 1) (off' := b.i) rfl rfl rfl rfl rfl hb3 (by omega)) ?_
  refine LR rfl (Jd (v := .func (.func (fnN b.i)) #[] #[Qf rp 0]) rfl (kn 0 rfl) rfl (by rcases hi3 with h | h | h <;> rw [h] <;> rfl)) ?_; refine JF 6 rfl ?_; refine Qk (T := [wI W g b.n b.p b.f]) (L0 := Jp8 rq rp :: rpB rp W :: (r2, _) :: (r1, _) :: b.L) (Rl := rpB rp W :: (b.L ++ R)) (List.perm_middle (l₁ := [_, _])) rfl rfl rfl (Jff b.i) (Jug hg hf hok hb3 rp W) (fun q hq => (List.mem_cons.1 hq).elim (fun h => .inl (by rw [h]; exact List.mem_cons_of_mem _ List.mem_cons_self)) fun hq => (List.mem_append.1 hq).elim (fun h => .inl (List.mem_cons_of_mem _ (List.mem_cons_of_mem _ (List.mem_cons_of_mem _ (List.mem_cons_of_mem _ h))))) .inr) fun y => ?_; refine Km (((VB y.L [_, _, _, _] b.L).cons _).trans (List.perm_middle (l₁ := [_, _])).symm) ?_; change HL _ _ _ (Jp8 rq rp :: rpB rp W :: wI W g y.n y.p y.f :: (r2, _) :: (r1, _) :: (y.L ++ b.L)) _ _ _ _; refine JN 9 rfl ?_; refine cD (fun h12 => ?_) fun h12 => ?_
  refine Jq 2 rfl ?_; refine LR rfl (Jr (r := [_]) rfl rfl) ?_; refine QI rfl ?_
  refine LT 3 rfl rfl ?_; refine Jx 10 rfl ?_; refine Jh rfl rfl (.cons (J1 (vs := [_]) rfl (kn 3 rfl) rfl rfl) (.cons (Jj rfl) (.cons (Jj rfl) .nil))) (fun w1 hs1 => ?_)
  (have hbad := y.bad (by omega)
   exact ⟨⟨st0L, 0, y.err, [], Jmc, hbad.symm⟩, rfl, hs1.weakL (List.nil_sublist _)⟩)
  refine Jq 5 rfl ?_; refine Jc (by omega) (by omega) ?_; refine Jx 2 rfl ?_; refine Jz ?_; exact Jt ⟨b.i + 1, y.n, y.p, y.f, y.L ++ b.L⟩ ⟨y.ok (by omega), by show b.i + 1 ≤ 3; omega⟩ (by show 3 - (b.i + 1) < 3 - b.i; omega) (lK rfl) (List.Sublist.refl _) (fun _ _ h => h)
 ·refine JP 6 rfl ?_; refine JM [wI W g b.n b.p b.f] [(0, .pure), (1, .pure), (2, .pure), (3, .pure), (4, .pure), (5, .pure), (6, .pure), (7, .pure), (8, .turn), (9, .pure), (10, .pure)] 11 [0, 1, 2, 3, 4, 5, 6, 7, 8, 9, 10] (by kernel_rfl) (by kernel_rfl) (fun q hq => by rw [List.mem_singleton.1 hq]; exact List.mem_cons_of_mem _ (List.mem_cons_of_mem _ List.mem_cons_self)) ?_; refine Jl (k := 0) rfl rfl rfl rfl rfl (fun _ hS => (Jg rfl)) ?_; refine Jl (k := 1) rfl rfl rfl rfl rfl (fun _ hS => (Jy rfl rfl rfl)) ?_
  refine Jl (k := 2) rfl rfl rfl rfl rfl (fun _ hS => (JG rfl rfl rfl)) ?_; refine Jl (k := 3) rfl rfl rfl rfl rfl (fun _ hS => (Jp (vs := [_]) rfl (.inl (hS _ (Jo (n := 0) rfl))) rfl rfl rfl rfl)) ?_; refine Jl (k := 4) rfl rfl rfl rfl rfl (fun _ hS => (Jg rfl)) ?_; refine Jl (k := 5) rfl rfl rfl rfl rfl (fun _ hS => (Jy rfl rfl rfl)) ?_
  refine Jl (k := 6) rfl rfl rfl rfl rfl (fun _ hS => (JG rfl rfl rfl)) ?_; refine Jl (k := 7) rfl rfl rfl rfl rfl (fun _ hS => (Jd rfl (.inl (hS _ (Jo (n := 0) rfl))) rfl rfl)) ?_; refine yK (k := 8) (q := 3) (n := 1) (off := 0) (vs := #[KG b.n b.p]) (E' := Jp8 rq rp :: rpB rp W :: wI W g b.n b.p b.f :: (r2, _) :: (r1, _) :: b.L) (cs' := #[KG b.n b.p]) rfl rfl rfl rfl rfl rfl rfl rfl rfl (by exact Nat.le_of_ble_eq_true rfl) rfl rfl (fun q hq => by rw [List.mem_singleton.1 hq]; exact List.mem_cons_of_mem _ (List.mem_cons_of_mem _ List.mem_cons_self)) ?_; refine Jl (k := 9) rfl rfl rfl rfl rfl (fun _ hS => (J7 rfl)) ?_; refine Jl (k := 10) rfl rfl rfl rfl rfl (fun _ hS => (J7 rfl)) ?_; refine Ko ?_; refine Jx 3 rfl ?_; refine Jh rfl rfl (.cons (J1 (vs := [_]) rfl (kn 3 rfl) rfl rfl) (.cons (Jj rfl) (.cons (Jj rfl) .nil))) (fun w1 hs1 => ?_)
  (rcases hok with ⟨h1, _⟩ | ⟨h1, _⟩ | ⟨h1, _⟩ | ⟨h1, h2, h3, h4, s, h5, h6, h7, h8⟩
   omega
   omega
   omega
   ·refine ⟨⟨s, b.f, 0, b.L, h5, ?_⟩, ?_, hs1.weakL (List.sublist_append_right [_, _, _, _, _] _)⟩
    have h9 : (s.er, (0 : Int)) = QC b.f (Vn g.ac) g.rc := h8
    have h10 : V3 g.ac = 0 := h4
    rw [Jp6 h3 h10, ← h2, ← h9, if_neg (by simp)]
    ·rw [h6, h7]; rfl)
abbrev leL (a b : AcL) : Prop := Op.bytesLess b.addr a.addr = false
structure GenOk (ts : List Nat) (t : Nat) (rc : Rec) (l s : List AcE) (f : Int) : Prop where
  act : QH ts t = (f, 0)
  nd : (l.map AcE.addr).Nodup
  chk : KT (Vn l) = 0
  wr : QC f (Vn l) rc = (s, 0)
theorem Jxd {ts : List Nat} {t : Nat} {rc : Rec} {l s : List AcE} {f : Int} (h : Vu ts t rc l = (s, f, 0)) : GenOk ts t rc l s f := by
 unfold Vu at h
 split at h
 ·rename_i h1; exact absurd (Prod.mk.inj (Prod.mk.inj h).2).2 h1
 rename_i h1
 split at h
 ·rename_i h2; exact absurd (Prod.mk.inj (Prod.mk.inj h).2).2 h2
 rename_i h2
 split at h
 ·rename_i h3; exact absurd (Prod.mk.inj (Prod.mk.inj h).2).2 h3
 rename_i h3
 have h1 := Decidable.not_not.1 h1
 have h2 := Decidable.not_not.1 h2
 have h3 := Decidable.not_not.1 h3
 obtain ⟨e1, e2⟩ := Prod.mk.inj h
 have e2 := (Prod.mk.inj e2).1
 unfold V3 at h2
 split at h2
 ·rename_i hn
  exact ⟨by rw [← e2, ← h1], hn, h2, by rw [← e1, ← e2, ← h3]⟩
 ·cases h2
structure Ov (f : Int) (s t : List AcE) : Prop where
  kept : Kept s t
  fee : ¬ (Qd f 1).2 = true → KQ t A1 = KQ s A1
theorem wq {f g : Int} (hg : g ≤ f) (h : (Qd g 1).2 = true) : (Qd f 1).2 = true := by
 unfold Qd at h ⊢
 rw [if_pos rfl] at h ⊢
 split at h
 ·rw [if_pos (by omega)]
 ·cases h
theorem Ov.of {f g : Int} {s t : List AcE} {r : Rec} (hg : g ≤ f) (W : Wrote g s t r) : Ov f s t := ⟨W.kept, fun hf => by
 have h := W.fee
 rw [if_neg fun h2 => hf (wq hg h2)] at h
 exact h⟩
theorem Ov.trans {f g : Int} {s t u : List AcE} (hg : g ≤ f) (h : Ov g s t) (k : Ov f t u) : Ov f s u := ⟨h.kept.trans k.kept, fun hf => (k.fee hf).trans (h.fee fun h2 => hf (wq hg h2))⟩
theorem Ov.mono {f g : Int} {s t : List AcE} (hg : g ≤ f) (h : Ov g s t) : Ov f s t := ⟨h.kept, fun hf => h.fee fun h2 => hf (wq hg h2)⟩
theorem xP {s : List AcE} (h : Kp AcE.addr s) : (s.map AcE.addr).Nodup := by
 unfold List.Nodup
 rw [List.pairwise_map]
 exact h.imp fun h => jY h
theorem Ju6 : ∀ s : BS, wL (s.map Zw) = s.length
 | [] => by rw [List.map_nil, wL]; rfl
 | b :: s => by rw [List.map_cons, wL, Ju6 s, List.length_cons]; show Yo (.mk b.toNat 0 0 0 [] none [] none 0) + s.length = _; rw [Yo, wL]; simp; omega
theorem Jii (s : BS) : Yo (wG s) = 1 + s.length := by unfold wG KO; rw [Yo, Ju6]; simp
theorem Jp9 : ∀ l : List (BS × BS), (∀ x ∈ l, x.1.length = 32 ∧ x.2.length = 32) → wL (l.map wf) = 67 * l.length
 | [], _ => by rw [List.map_nil, wL]; rfl
 | x :: l, h => by
  obtain ⟨h1, h2⟩ := h x List.mem_cons_self
  rw [List.map_cons, wL, Jp9 l fun y hy => h y (List.mem_cons_of_mem _ hy), List.length_cons]
  unfold wf KO
  rw [Yo, wL, wL, wL, Jii, Jii, h1, h2]; simp; omega
def wA (a : AcE) : Nat := 26 + a.code.length + 67 * a.slots.length
theorem Jy1 {a : AcE} (h : Wy a = 0) : Yo (acV a) = wA a := by
 obtain ⟨h1, h2, _⟩ := QE h
 unfold acV KO wA
 rw [Yo, wL, wL, wL, wL, wL, wL, Jii, Jii, Yo, Yo, Yo, wL, Jp9 _ fun x hx => ⟨(h2 x hx).1, (h2 x hx).2.1⟩, h1]; simp; omega
def wS (l : List AcE) : Nat := (l.map wA).sum
theorem Ju7 : ∀ l : List AcE, (∀ a ∈ l, Wy a = 0) → wL (l.map acV) = wS l
 | [], _ => by rw [List.map_nil, wL]; simp [wS]
 | a :: l, h => by
  have ih := Ju7 l fun b hb => h b (List.mem_cons_of_mem _ hb)
  rw [List.map_cons, wL, Jy1 (h a List.mem_cons_self), ih]
  unfold wS
  rw [List.map_cons, List.sum_cons]
theorem Jqa {l : List AcE} (h : KT l = 0) : Yo (YB l) = 1 + wS l := by
 unfold YB KO
 rw [Yo, Ju7 l (Xx.1 h).2.1]; simp
def slN (l : List AcE) : Nat := (l.map fun a => a.slots.length).sum
theorem Jqb {a : AcE} (h : X5 a = true) (h2 : a.code.length ≤ 512) : a.code.length ≤ 60 := by
 unfold X5 at h
 simp only [Bool.and_eq_true, Bool.not_eq_true', Bool.or_eq_false_iff, Bool.and_eq_false_iff, decide_eq_false_iff_not] at h
 omega
theorem Jqc : ∀ l : List AcE, (∀ a ∈ l, Wy a = 0 ∧ X5 a = true) → wS l ≤ 86 * l.length + 67 * slN l
 | [], _ => by simp [wS]
 | a :: l, h => by
  obtain ⟨h1, h2⟩ := h a List.mem_cons_self
  have ih := Jqc l fun b hb => h b (List.mem_cons_of_mem _ hb)
  have hc := Jqb h2 (QE h1).2.2.2.1
  unfold wS slN wA at ih ⊢
  rw [List.map_cons, List.sum_cons, List.map_cons, List.sum_cons, List.length_cons]
  omega
theorem Jij : ∀ (l : List AcE) (i : Nat) (n : Int), i + l.length ≤ 41 → (Ze i n l).1 = true → (∀ a ∈ l, X5 a = true) ∧ (Ze i n l).2 = n + (slN l : Int)
 | [], i, n, _, _ => ⟨fun a ha => (nomatch ha), by unfold Ze slN; simp⟩
 | a :: l, i, n, hl, h => by
  rw [List.length_cons] at hl
  unfold Ze at h ⊢
  rw [if_neg (by omega)] at h ⊢
  by_cases hf : X5 a = false
  ·rw [if_pos hf] at h; cases h
  ·rw [if_neg hf] at h ⊢
   obtain ⟨h1, h2⟩ := Jij l (i + 1) (n + (a.slots.length : Int)) (by omega) h
   refine ⟨fun b hb => ?_, ?_⟩
   ·rcases List.mem_cons.1 hb with rfl | hb
    ·simpa using hf
    ·exact h1 b hb
   ·rw [h2]; unfold slN; rw [List.map_cons, List.sum_cons]; omega
theorem Jik {l : List AcE} (h : Zt l = true) : l.length ≤ 40 ∧ (∀ a ∈ l, X5 a = true) ∧ slN l ≤ 40 := by
 unfold Zt at h
 simp only [Bool.and_eq_true, decide_eq_true_eq] at h
 obtain ⟨h1, h2, h3⟩ := h
 obtain ⟨g1, g2⟩ := Jij l 0 0 (by omega) h1
 exact ⟨h2, g1, by omega⟩
theorem Jil {l m : List AcE} (h : l.Perm m) : wS l = wS m := (h.map wA).sum_nat
theorem Ju8 : ∀ {l m : List AcE}, l.Nodup → (∀ x ∈ l, x ∈ m) → wS l ≤ wS m
 | [], _, _, _ => by simp [wS]
 | x :: l, m, hn, h => by
  obtain ⟨h1, h2⟩ := List.nodup_cons.1 hn
  have ih := Ju8 h2 (m := m.erase x) fun y hy => (List.mem_erase_of_ne (fun e => h1 (by rw [← e]; exact hy))).2 (h y (List.mem_cons_of_mem _ hy))
  have hp := Jil (List.perm_cons_erase (h x List.mem_cons_self))
  rw [hp]
  unfold wS at ih ⊢
  rw [List.map_cons, List.sum_cons, List.map_cons, List.sum_cons]
  omega
theorem Jqd {a : AcE} (h : Wy a = 0) : wA a ≤ 1610 := by
 obtain ⟨_, _, _, h4, h5⟩ := QE h
 unfold wA; omega
theorem Jqe (s : List AcE) (hs : KT s = 0) (k : BS) : wA (Vd s k) ≤ 1610 := by
 unfold Vd
 cases h : KQ s k with
 | none => simp [wA, ac0]
 | some a => exact Jqd (jb hs h).2
theorem Jqf {f : Int} {s t : List AcE} {r : Rec} (W : Wrote f s t r) : wS t ≤ wS s + 3220 := by
 have hs := (Xx.1 W.new).2.2
 have hn : t.Nodup := by
  have := xP hs
  unfold List.Nodup at this ⊢
  rw [List.pairwise_map] at this
  exact this.imp fun h e => h (by rw [e])
 have h := Ju8 (m := Vd t A0 :: Vd t A1 :: s) hn fun a ha => by
  have e2 : KQ t a.addr = some a := jD hs ha
  by_cases h0 : a.addr = A0
  ·have : Vd t A0 = a := by unfold Vd; rw [← h0, e2]; rfl
   rw [this]; exact List.mem_cons_self
  by_cases h1 : a.addr = A1
  ·have : Vd t A1 = a := by unfold Vd; rw [← h1, e2]; rfl
   rw [this]; exact List.mem_cons_of_mem _ List.mem_cons_self
  rw [W.others a.addr h0 h1] at e2
  exact List.mem_cons_of_mem _ (List.mem_cons_of_mem _ (jC e2).2)
 have g0 := Jqe t W.new A0
 have g1 := Jqe t W.new A1
 unfold wS at h ⊢
 rw [List.map_cons, List.sum_cons, List.map_cons, List.sum_cons] at h
 omega
theorem Jfg {ts : List Nat} {t : Nat} {rc : Rec} {l s : List AcE} {f : Int} (h : GenOk ts t rc l s f) (hf : Zt l = true) : KT s = 0 ∧ Yo (YB s) ≤ 20000 := by
 have W := Jml h.wr
 obtain ⟨f1, f2, f3⟩ := Jik hf
 obtain ⟨c1, c2, _⟩ := Xx.1 h.chk
 have hp := List.mergeSort_perm l xU
 have hlk : ∀ a ∈ l, Wy a = 0 ∧ X5 a = true := fun a ha => ⟨c2 a (hp.mem_iff.2 ha), f2 a ha⟩
 have h1 := Jqc l hlk
 have h2 := Jqf W
 rw [show wS (Vn l) = wS l from Jil hp] at h2
 have h3 := (Xx.1 W.new).1
 exact ⟨W.new, by rw [Jqa W.new]; omega⟩
def Ww (s : List AcE) : List AcE := [(KQ s A0).getD ac0]
theorem Jc9 {f : Int} {s t : List AcE} {r : Rec} (W : Wrote f s t r) : KT (Ww t) = 0 ∧ Yo (YB (Ww t)) ≤ 20000 := by
 obtain ⟨b, b1, b2, _⟩ := W.acct
 have e : Ww t = [b] := by unfold Ww; rw [b1]; rfl
 have hc : KT [b] = 0 := by rw [chk_one]; exact b2
 rw [e]
 refine ⟨hc, ?_⟩
 have := Jqd b2
 rw [Jqa hc]
 unfold wS
 simp only [List.map_cons, List.map_nil, List.sum_cons, List.sum_nil]
 omega
def wt (f : Int) : Int := Jh8 (vl f 5)
def qu (ts : List Nat) (t : Nat) (rc : Rec) (l : List AcE) : BS × Int :=
 if (Vu ts t rc l).2.2 ≠ 0 then ([], (Vu ts t rc l).2.2) else (Wz t (Ql (Vu ts t rc l).1).1, 0)
def ju (f : Int) (rc : Rec) : Nat := if wt f = 1 then rc.number else 0
def YD (ts : List Nat) (t : Nat) (rc : Rec) (l : List AcE) : BS × Int :=
 if (Vu ts t rc l).2.2 ≠ 0 then ([], (Vu ts t rc l).2.2) else
  VU (wt (Vu ts t rc l).2.1) [(Ql (Vu ts t rc l).1).1, (Ql (Ww (Vu ts t rc l).1)).1, Wz t (Ql (Vu ts t rc l).1).1] (ju (Vu ts t rc l).2.1 rc)
theorem Jqg (f : Int) : wt f = 0 ∨ wt f = 1 := by
 unfold wt Jh8
 by_cases h : (vl f 5) = []
 ·rw [h]; exact .inl rfl
 ·have hl : (vl f 5).length - 1 < (vl f 5).length := by have := List.length_pos_iff.2 h; omega
  have hm : (vl f 5).getD ((vl f 5).length - 1) 0 ∈ vl f 5 := by
   rw [List.getD_eq_getElem?_getD, List.getElem?_eq_getElem hl, Option.getD_some]; exact List.getElem_mem hl
  have hm2 := (List.mem_filter.1 hm).1
  simpa [qt] using hm2
theorem yV {l : List AcE} (h : KT l = 0) (hn : ∀ a ∈ l, VF a.nonce) : (Ql l).1.length = 32 ∧ (Ql l).2 = 0 := by
 rw [Jc0 h (xC h hn)]
 exact ⟨WI _ _ 0 Jhu (xC h hn), rfl⟩
theorem Jko (t : Nat) (r : BS) : (Wz t r).length = 32 := Ya _
theorem YE {R : Ji} {s : StL} (hs : s.In R) : ∀ a ∈ s.er, VF a.nonce := fun a ha => by
 obtain ⟨b, hb, rfl⟩ := List.mem_map.1 ha
 exact (hs.accts b hb).nonce
theorem Jfh {R : Ji} {ts : List Nat} {t : Nat} {rc : Rec} {l : List AcE} (x : BldR R (Vu ts t rc l)) (h : x.err = 0) : GenOk ts t rc l x.s.er x.f := Jxd (x.eq.symm.trans (by rw [h]))
theorem wu {g : GenL} (hf : Zt g.ac = true) : g.accts.length ≤ 40 := by
 have := (Jik hf).1
 unfold GenL.ac at this
 rwa [List.length_map] at this
theorem jv {l : List AcE} (h : KT l = 0) (hn : ∀ a ∈ l, VF a.nonce) : ∃ s : BS, Ql l = (s, 0) ∧ s.length = 32 := ⟨(Ql l).1, Prod.ext rfl (yV h hn).2, (yV h hn).1⟩
theorem jQ {ts : List Nat} {t : Nat} {rc : Rec} {l s : List AcE} {f e : Int} (h : (s, f, e) = Vu ts t rc l) (he : e ≠ 0) : qu ts t rc l = ([], e) ∧ YD ts t rc l = ([], e) := by
 constructor
 ·unfold qu; rw [← h, if_pos he]
 ·unfold YD; rw [← h, if_pos he]
theorem Jda {ts : List Nat} {t : Nat} {rc : Rec} {l s : List AcE} {f e : Int} (h : (s, f, e) = Vu ts t rc l) (he : e = 0) {rt : BS} (hr : Ql s = (rt, 0)) : qu ts t rc l = (Wz t rt, 0) := by
 unfold qu; rw [← h, if_neg (by simpa using he)]
 show (Wz t (Ql s).1, (0 : Int)) = _
 rw [hr]
theorem yW {ts : List Nat} {t : Nat} {rc : Rec} {l s : List AcE} {f e : Int} (h : (s, f, e) = Vu ts t rc l) (he : e = 0) {rt st : BS} (hr : Ql s = (rt, 0)) (hs : Ql (Ww s) = (st, 0)) : YD ts t rc l = VU (wt f) [rt, st, Wz t rt] (ju f rc) := by
 unfold YD; rw [← h, if_neg (by simpa using he)]
 show VU (wt f) [(Ql s).1, (Ql (Ww s)).1, Wz t (Ql s).1] (ju f rc) = _
 rw [hr, hs]
theorem XU (s : StL) (rv : Nat) : StL.er ⟨[Qm s A0], some (⟨rv, 0, none⟩, 1)⟩ = Ww s.er := by
 show [(Qm s A0).er] = Ww s.er
 unfold Ww
 rw [Jgl]
theorem Jqh {R : Ji} {g : GenL} (hg : g.In R) (hf : Zt g.ac = true) : PureR Tryz.prog 14 [g.val].toArray (Wt (qu g.ts g.time g.rc g.ac)) R := by
 have hl := wu hf
 refine Ja Tryz.func14 rfl rfl fun w => ?_; refine J9 ?_; refine Jq 2 rfl ?_; refine Kk (cs := g.cells.toArray) rfl rfl rfl rfl fun r1 => ?_; refine JF 6 rfl ?_; refine LR rfl (Jf (xs := g.cells) (n := 20) rfl (kn 0 rfl) rfl rfl rfl) ?_; refine Kq rfl rfl rfl Jei (Ym hg (by omega)) oR fun x => ?_; refine Km List.perm_append_comm ?_; change HL _ _ ((10, .tuple #[x.s.val, .int .i64 x.f, .int .i64 x.err]) :: _) ((r1, _) :: x.L) _ _ _ _; refine LS 4 [] rfl rfl ?_; refine LN rfl fun r4 => ?_; refine Jn (k := 0) (n := 1) (ys := x.s.cells) rfl rfl rfl rfl rfl rfl rfl rfl rfl ?_; refine JN 11 rfl ?_; refine cD (fun h5 => ?_) fun h5 => ?_
 refine JP 1 rfl ?_
 have hbad := jQ x.eq (by omega)
 refine Kn 8 rfl ?_; refine Jh rfl rfl (.cons (Jj rfl) (.cons (Jj rfl) .nil)) (fun w1 hs1 => ?_)
 (refine ⟨?_, hs1.keep⟩
  rw [hbad.1]; rfl)
 ·refine JP 3 rfl ?_
  have he : x.err = 0 := by omega
  obtain ⟨hck, hw⟩ := Jfg (Jfh x he) hf
  obtain ⟨rt, hrt, hrl⟩ := jv hck (YE x.ok)
  have hG := Jda x.eq he hrt
  refine Jq 1 rfl ?_; refine LR rfl (Jf (xs := x.s.cells) (n := 1) rfl (kn 0 rfl) rfl rfl rfl) ?_; refine Je rfl rfl rfl Jm2 (YC (R := x.L ++ R) x.ok (fun _ => hw)) (fun q hq => (List.mem_append.1 hq).elim (fun h => Or.inl (List.mem_cons_of_mem _ (List.mem_cons_of_mem _ h))) (fun hq => Or.inr hq)) ?_; refine Jw (congrArg Wt hrt) ?_; refine XV 12 [1] rfl rfl ?_; refine Jm rfl rfl rfl Jvw (xM (root := rt) hg.time (by omega)) ?_; refine Jx 6 rfl ?_; refine Jh rfl rfl (.cons (Jj rfl) (.cons (Jj rfl) .nil)) (fun w1 hs1 => ?_)
  (refine ⟨?_, hs1.keep⟩
   rw [hG]; rfl)
theorem Jim {R : Ji} {g : GenL} (hg : g.In R) (hf : Zt g.ac = true) : PureR Tryz.prog 16 [g.val].toArray (Wt (YD g.ts g.time g.rc g.ac)) R := by
 have hl := wu hf
 have hn0 : g.rc.number < 18446744073709551616 := hg.rc.1
 refine Ja Tryz.func16 rfl rfl fun w => ?_; refine J9 ?_; refine Jq 2 rfl ?_; refine Kk (cs := g.cells.toArray) rfl rfl rfl rfl fun r1 => ?_; refine JF 6 rfl ?_; refine LR rfl (Jf (xs := g.cells) (n := 20) rfl (kn 0 rfl) rfl rfl rfl) ?_; refine Kq rfl rfl rfl Jei (Ym hg (by omega)) oR fun x => ?_; refine Km List.perm_append_comm ?_; change HL _ _ ((18, .tuple #[x.s.val, .int .i64 x.f, .int .i64 x.err]) :: _) ((r1, _) :: x.L) _ _ _ _; refine LS 4 [] rfl rfl ?_; refine LN rfl fun r4 => ?_; refine Jn (k := 0) (n := 1) (ys := x.s.cells) rfl rfl rfl rfl rfl rfl rfl rfl rfl ?_; refine JN 11 rfl ?_; refine cD (fun h5 => ?_) fun h5 => ?_
 refine JP 1 rfl ?_
 have hbad := jQ x.eq (by omega)
 refine Kn 8 rfl ?_; refine Jh rfl rfl (.cons (Jj rfl) (.cons (Jj rfl) .nil)) (fun w1 hs1 => ?_)
 (refine ⟨?_, hs1.keep⟩
  rw [hbad.2]; rfl)
 ·refine JP 3 rfl ?_
  have he : x.err = 0 := by omega
  have hok := Jfh x he
  obtain ⟨hck, hw⟩ := Jfg hok hf
  obtain ⟨hck2, hw2⟩ := Jc9 (Jml hok.wr)
  obtain ⟨rt, hrt, hrl⟩ := jv hck (YE x.ok)
  obtain ⟨st, hst, hsl⟩ := jv hck2 (by rw [← XU x.s 0]; exact YE (xA (jd x.ok A0) 0))
  have hC := yW x.eq he hrt hst
  obtain ⟨v, hv⟩ : ∃ v, v = wt x.f := ⟨_, rfl⟩
  have hv01 := Jqg x.f
  rw [← hv] at hC hv01; refine Jq 1 rfl ?_; refine LR rfl (Jf (xs := x.s.cells) (n := 1) rfl (kn 0 rfl) rfl rfl rfl) ?_; refine Je rfl rfl rfl Jm2 (YC (R := x.L ++ R) x.ok (fun _ => hw)) (fun q hq => (List.mem_append.1 hq).elim (fun h => Or.inl (List.mem_cons_of_mem _ (List.mem_cons_of_mem _ h))) (fun hq => Or.inr hq)) ?_; refine Jw (congrArg Wt hrt) ?_; refine JN 8 rfl ?_
  refine JM [] [(3, .pure), (4, .pure), (5, .pure), (6, .grow (VG zo (.cells #[.string ⟨#[]⟩, .int .u64 0, .int .u64 0, .int .u64 0, .int .u64 0, .int .u64 0, .string ⟨#[]⟩, .slice none 0 0] 48 (0, 0)))), (7, .turn), (8, .pure)] 9 [0, 1, 2, 3, 4, 5, 6, 7, 8] (by kernel_rfl) (by kernel_rfl) (by first | exact (fun _ h => absurd h List.not_mem_nil) | simp [SubS] | (intro p hp; simp [hp])) ?_; refine KA (k := 0) rfl rfl rfl rfl rfl (Jf (xs := x.s.cells) (n := 1) rfl (kn 0 rfl) rfl rfl rfl) ?_; refine KH (k := 1) rfl rfl rfl rfl rfl Jr2 (P_Addr0.toR) (fun q hq => .inr hq) ?_; refine KH (k := 2) rfl rfl rfl rfl rfl Jvv (Jey (R := x.L ++ R) x.ok A0) (fun q hq => (List.mem_append.1 hq).elim (fun h => Or.inl (List.mem_cons_of_mem _ (List.mem_cons_of_mem _ h))) (fun hq => Or.inr hq)) ?_; refine Jl (k := 3) rfl rfl rfl rfl rfl (fun _ hS => (Jg rfl)) ?_; refine Jl (k := 4) rfl rfl rfl rfl rfl (fun _ hS => (JX rfl rfl)) ?_; refine Jl (k := 5) rfl rfl rfl rfl rfl (fun _ hS => (JX rfl rfl)) ?_; refine XA (k := 6) (cs := #[_, _, _, _, _, _, _, _]) rfl rfl rfl rfl rfl rfl fun r9 => ?_; refine Wf (k := 7) (q := 0) (n := 8) (ys := (Qm x.s A0).cells) rfl rfl rfl rfl rfl rfl rfl rfl rfl rfl rfl (fun _ h => absurd h List.not_mem_nil) ?_; refine Jl (k := 8) rfl rfl rfl rfl rfl (fun _ hS => (J7 rfl)) ?_; refine Ko ?_; refine JF 4 rfl ?_; refine LR rfl (Jf (xs := (Qm x.s A0).cells) (n := 8) rfl (kn 0 rfl) rfl rfl rfl) ?_; refine JH (n := 1) (sz := 8) (vs := [_]) (zs := [_, _, _, _, _, _, _, _]) (r := (Qm x.s A0).cells) rfl rfl rfl rfl rfl rfl rfl rfl rfl (by rw [Kf]; exact rfl) rfl fun rv => ?_; refine LR rfl (Jr (r := [_]) rfl rfl) ?_; refine Je (v := Wt (Ql (StL.er ⟨[Qm x.s A0], some (⟨rv, 0, none⟩, 1)⟩))) rfl rfl rfl Jm2 (YC (xA (jd x.ok A0) rv) (fun _ => by rw [XU]; exact hw2)) (fun q hq => (List.mem_cons.1 hq).elim (fun h => .inl (by rw [h]; exact List.mem_cons_self)) fun hq => (List.mem_append.1 hq).elim (fun h => Or.inl (List.mem_cons_of_mem _ (List.mem_cons_of_mem _ (List.mem_cons_of_mem _ (List.mem_cons_of_mem _ h))))) (fun hq => Or.inr hq)) ?_; refine Jw (congrArg Wt ((congrArg Ql (XU x.s rv)).trans hst)) ?_; refine JF 10 rfl ?_; refine Jm rfl rfl rfl (enters_of Tryz.func21 (by kernel_rfl) rfl) (Ju5 x.f 5) ?_; refine Jw (show _ = Value.tuple #[.int .i64 v, .int .i64 (Jh9 (vl x.f 5))] from by rw [hv]; rfl) ?_; refine Goc 22 [3] rfl rfl ?_; refine cD (fun h14 => ?_) fun h14 => ?_
  refine X6 12 [3] rfl rfl ?_; refine Jm rfl rfl rfl Jvw (xM (root := rt) hg.time (by omega)) ?_; refine LR rfl (Jr (r := [_, _, _]) rfl rfl) ?_; refine QI rfl ?_
  first | (refine Jm rfl rfl rfl Jbq (QW (p := [rt, st, Wz g.time rt]) rfl (n := 0) (by decide) v) ?_) | (refine Jm rfl rfl rfl Jbq (QW (p := [rt, st, Wz g.time rt]) rfl (n := g.rc.number) hn0 v) ?_)
  refine Jx 7 rfl ?_; refine Jh rfl rfl (.cons (Jj rfl) (.cons (Jj rfl) .nil)) (fun w1 hs1 => ?_)
  (refine ⟨?_, hs1.keep⟩
   rw [hC, show ju x.f g.rc = 0 from by unfold ju; rw [← hv, if_neg (by omega)]]; rfl)
  ·refine X6 10 [3] rfl rfl ?_; refine Jm rfl rfl rfl Jvw (xM (root := rt) hg.time (by omega)) ?_; refine LR rfl (Jr (r := [_, _, _]) rfl rfl) ?_; refine QI rfl ?_
   first | (refine Jm rfl rfl rfl Jbq (QW (p := [rt, st, Wz g.time rt]) rfl (n := 0) (by decide) v) ?_) | (refine Jm rfl rfl rfl Jbq (QW (p := [rt, st, Wz g.time rt]) rfl (n := g.rc.number) hn0 v) ?_)
   refine Jx 7 rfl ?_; refine Jh rfl rfl (.cons (Jj rfl) (.cons (Jj rfl) .nil)) (fun w1 hs1 => ?_)
   (refine ⟨?_, hs1.keep⟩
    rw [hC, show ju x.f g.rc = g.rc.number from by unfold ju; rw [← hv, if_pos (by omega)]]; rfl)
def BldR.cs {R : Ji} {e : List AcE × Int × Int} (x : BldR R e) : List Value := [KG x.s.accts.length x.s.p, .int .i64 x.f, .int .i64 x.err]
def U1 : BS := [173, 50, 40, 182, 118, 247, 211, 205, 66, 132, 165, 68, 63, 23, 241, 150, 43, 54, 228, 145, 179, 10, 64, 178, 64, 88, 73, 229, 151, 186, 95, 181]
def U2 : BS := [180, 193, 25, 81, 149, 124, 111, 143, 100, 44, 74, 246, 28, 214, 178, 70, 64, 254, 198, 220, 127, 198, 7, 238, 130, 6, 169, 158, 146, 65, 13, 48]
def U3 : BS := [33, 221, 185, 163, 86, 129, 92, 63, 172, 16, 38, 182, 222, 197, 223, 49, 36, 175, 186, 219, 72, 92, 155, 165, 163, 227, 57, 138, 4, 183, 186, 133]
def U4 : BS := [229, 135, 105, 179, 42, 27, 234, 241, 234, 39, 55, 90, 68, 9, 90, 13, 31, 182, 100, 206, 45, 211, 88, 231, 252, 191, 183, 140, 38, 161, 147, 68]
def U5 : BS := [14, 176, 30, 191, 201, 237, 39, 80, 12, 212, 223, 201, 121, 39, 45, 31, 9, 19, 204, 159, 102, 84, 13, 126, 128, 5, 129, 17, 9, 225, 207, 45]
def Juh : BS := [111, 110, 101, 0, 0, 0, 0, 0, 0, 0, 0, 0, 0, 0, 0, 0, 0, 0, 0, 0, 0, 0, 0, 0, 0, 0, 0, 0, 0, 0, 0, 0]
def UAd : BS := [66, 0, 0, 0, 0, 0, 0, 0, 0, 0, 0, 0, 0, 0, 0, 0, 0, 0, 0, 1, 0, 0, 0, 0, 0, 0, 0, 0, 0, 0, 0, 0]
def U6 : BS := [35, 243, 31, 87, 200, 20, 215, 123, 214, 192, 83, 67, 196, 40, 91, 130, 219, 75, 152, 38, 171, 132, 39, 130, 169, 132, 223, 125, 157, 106, 47, 69]
def U7 : BS := [131, 241, 113, 45, 226, 69, 37, 146, 43, 71, 20, 186, 3, 103, 171, 114, 46, 40, 106, 0, 255, 158, 222, 54, 24, 194, 237, 212, 173, 254, 220, 131]
def U8 : BS := [242, 186, 62, 27, 111, 140, 127, 23, 29, 217, 54, 77, 62, 57, 244, 120, 135, 65, 67, 42, 144, 41, 240, 241, 210, 153, 39, 8, 186, 55, 34, 213]
def U9 : BS := [33, 180, 236, 129, 209, 3, 231, 208, 120, 175, 195, 1, 158, 91, 71, 27, 49, 166, 79, 106, 42, 35, 105, 27, 30, 222, 120, 211, 167, 168, 139, 135]
def U10 : BS := [125, 225, 35, 91, 207, 235, 186, 242, 16, 196, 211, 228, 105, 77, 66, 123, 190, 229, 22, 9, 253, 235, 200, 196, 240, 97, 205, 75, 152, 210, 249, 126]
def U11 : BS := [50, 178, 115, 232, 148, 162, 253, 184, 200, 103, 108, 40, 44, 53, 250, 226, 67, 39, 85, 153, 173, 52, 25, 113, 190, 215, 6, 171, 166, 218, 61, 3]
def U12 : BS := [113, 204, 200, 86, 198, 253, 158, 85, 5, 131, 130, 73, 154, 154, 255, 0, 169, 41, 85, 96, 145, 202, 185, 51, 234, 104, 27, 232, 152, 96, 71, 248]
def U13 : BS := [132, 90, 164, 89, 164, 191, 80, 223, 178, 73, 159, 94, 140, 113, 233, 133, 102, 110, 174, 45, 34, 63, 195, 68, 238, 232, 104, 179, 81, 128, 234, 139]
def U14 : BS := [235, 114, 203, 217, 247, 64, 52, 193, 8, 30, 239, 190, 180, 198, 98, 176, 42, 249, 8, 173, 66, 240, 249, 56, 193, 75, 35, 171, 233, 208, 193, 195]
def U15 : BS := [164, 30, 190, 90, 41, 216, 190, 217, 85, 253, 216, 224, 7, 23, 171, 243, 88, 41, 83, 46, 207, 20, 69, 81, 243, 174, 71, 105, 10, 76, 147, 226]
def U16 : BS := [105, 102, 245, 27, 161, 222, 241, 181, 192, 86, 124, 98, 245, 190, 192, 54, 192, 63, 144, 3, 170, 4, 51, 225, 238, 10, 187, 77, 166, 236, 80, 115]
def U17 : BS := [10, 27, 235, 237, 66, 167, 30, 71, 6, 137, 246, 233, 78, 173, 243, 225, 156, 94, 59, 228, 197, 207, 199, 254, 209, 32, 79, 241, 25, 121, 182, 70]
def U18 : BS := [45, 63, 26, 239, 217, 230, 108, 101, 248, 231, 99, 101, 145, 158, 81, 76, 1, 45, 239, 215, 186, 35, 73, 247, 12, 176, 246, 235, 168, 152, 41, 208]
def U19 : BS := [83, 222, 232, 149, 76, 179, 109, 14, 136, 74, 190, 125, 178, 41, 59, 97, 160, 72, 246, 61, 180, 126, 236, 139, 6, 133, 137, 19, 179, 63, 187, 122]
def U20 : BS := [17, 238, 144, 76, 186, 158, 216, 91, 9, 196, 227, 243, 243, 253, 17, 83, 74, 68, 104, 161, 76, 150, 16, 48, 11, 32, 58, 250, 73, 27, 28, 188]
def U21 : BS := [220, 132, 225, 78, 18, 16, 82, 55, 250, 166, 171, 196, 184, 137, 66, 234, 243, 70, 30, 243, 118, 93, 157, 90, 173, 62, 193, 0, 44, 42, 179, 104]
def U22 : BS := [168, 203, 117, 212, 196, 131, 35, 196, 128, 0, 198, 72, 59, 250, 217, 105, 45, 64, 183, 82, 19, 160, 167, 124, 155, 84, 205, 96, 106, 220, 133, 188]
def U23 : BS := [226, 171, 200, 37, 18, 134, 109, 196, 173, 119, 38, 26, 229, 87, 194, 26, 95, 114, 197, 167, 124, 172, 103, 224, 254, 45, 15, 145, 239, 132, 203, 46]
def ULe : BS := [6, 0, 0, 0, 0, 0, 0, 0]
def U24 : BS := [42, 123, 160, 192, 217, 163, 200, 255, 136, 106, 193, 125, 8, 79, 43, 190, 169, 215, 147, 160, 73, 244, 233, 147, 58, 4, 119, 152, 128, 29, 116, 250]
def UHd : BS := [0, 0, 0, 0, 0, 0, 0, 0, 0, 0, 0, 0, 0, 0, 0, 0, 0, 0, 0, 0, 0, 0, 0, 0, 0, 0, 0, 0, 0, 0, 0, 0]
def U25 : BS := [156, 238, 190, 167, 74, 13, 235, 10, 52, 177, 34, 104, 132, 238, 41, 29, 152, 1, 252, 49, 101, 106, 191, 80, 101, 242, 97, 240, 51, 57, 169, 37]
theorem uq1 : Wn (z32 ++ z32) = U1 := by decide +kernel
theorem uq2 : Wn (U1 ++ U1) = U2 := by decide +kernel
theorem uq3 : Wn (U2 ++ U2) = U3 := by decide +kernel
theorem uq4 : Wn (U3 ++ U3) = U4 := by decide +kernel
theorem uq5 : Wn (U4 ++ U4) = U5 := by decide +kernel
theorem uq6 : Wn (Juh ++ z32) = U6 := by decide +kernel
theorem uq7 : Wn (U6 ++ U1) = U7 := by decide +kernel
theorem uq8 : Wn (U7 ++ U2) = U8 := by decide +kernel
theorem uq9 : Wn (U8 ++ U3) = U9 := by decide +kernel
theorem J0c : Yg U9 3 = U10 := by decide +kernel
theorem J0d : Yg U4 0 = U11 := by decide +kernel
theorem J0e : Wn (UAd ++ z32) = U12 := by decide +kernel
theorem J0f : Wn (z32 ++ U10) = U13 := by decide +kernel
theorem J0g : Wn (U11 ++ z32) = U14 := by decide +kernel
theorem J0h : Wn (U12 ++ U13) = U15 := by decide +kernel
theorem J0i : Wn (U14 ++ U1) = U16 := by decide +kernel
theorem J0j : Wn (U15 ++ U16) = U17 := by decide +kernel
theorem J0k : Wn (U17 ++ z32) = U18 := by decide +kernel
theorem J0l : Wn (U18 ++ U1) = U19 := by decide +kernel
theorem J0m : Wn (U19 ++ U2) = U20 := by decide +kernel
theorem J0n : Wn (U20 ++ U3) = U21 := by decide +kernel
theorem J0o : Wn (U21 ++ U4) = U22 := by decide +kernel
theorem J0p : Yg U22 1 = U23 := by decide +kernel
theorem J0q : Wn (ULe ++ U23) = U24 := by decide +kernel
theorem J0r : Wn (UHd ++ [U23, U23, U24].flatten) = U25 := by decide +kernel
theorem jw (k : Nat) (a z : BS) : Vk (k + 1) [a] z = Vk k [Wn (a ++ z)] (Wn (z ++ z)) := rfl
theorem Jin (k : Nat) (z : BS) : Vk (k + 1) [] z = Vk k [] (Wn (z ++ z)) := rfl
theorem Jy2 (k : Nat) (a b z : BS) : Vk (k + 1) [a, b] z = Vk k [Wn (a ++ b)] (Wn (z ++ z)) := by rw [Vk]; simp [KZ, SL.pairUp]
theorem Jy3 (k : Nat) (a b c z : BS) : Vk (k + 1) [a, b, c] z = Vk k [Wn (a ++ b), Wn (c ++ z)] (Wn (z ++ z)) := by rw [Vk]; simp [KZ, SL.pairUp]
theorem Jy4 (k : Nat) (a b c d e z : BS) : Vk (k + 1) [a, b, c, d, e] z = Vk k [Wn (a ++ b), Wn (c ++ d), Wn (e ++ z)] (Wn (z ++ z)) := by rw [Vk]; simp [KZ, SL.pairUp]
theorem Jqi (a z : BS) : Vk 0 [a] z = a := rfl
theorem Jy5 (z : BS) : Vk 0 [] z = z := rfl
theorem yX {l : List Vl} {x : Ty} {n : Int} (hx : Xd x = false) : KI (KO l 0) (.mk 4 n none [x]) = Yg (QS (JU l 4 0 [x] 0) n.toNat) l.length := by
 unfold KO
 rw [Xe, if_neg (by decide), if_pos rfl]
 unfold WC
 rw [if_neg (by decide), if_neg (by rw [show [x].getD 0 default = x from rfl, hx]; decide)]
theorem Jqj {l : List Vl} {ins : List Ty} : KI (KO l 0) (.mk 7 0 none ins) = QS (JU l 7 0 ins 0) ins.length := by
 unfold KO
 rw [Xe, if_neg (by decide), if_neg (by decide), if_neg (by decide), if_neg (by decide), if_neg (by decide)]
 unfold WC
 rw [if_pos rfl]
def b25 : AcE := ⟨A0, 0, w40, cOne, []⟩
theorem Jkq : KI (wG cOne) (Xh 4 512) = U10 := by
 have e1 : WC 4 512 [byT] (cOne.map Zw) (JU (cOne.map Zw) 4 0 [byT] 0) = QS [Juh] 16 := by
  unfold WC
  rw [if_neg (by decide), if_pos (by decide +kernel), show Yj (WB (cOne.map Zw) ([byT].getD 0 default)) = [Juh] by decide +kernel, show ((512 : Int).toNat * (KL ([byT].getD 0 default)).toNat + 31) / 32 = 16 by decide +kernel]
 have e2 : QS [Juh] 16 = U9 := by
  rw [← je (by decide), show lg 16 = 4 by decide +kernel, jw, uq6, uq1, jw, uq7, uq2, jw, uq8, uq3, jw, uq9, uq4, Jqi]
 unfold wG KO Xh
 rw [Xe, if_neg (by decide), if_pos rfl]
 show Yg (WC 4 512 [byT] (cOne.map Zw) (JU (cOne.map Zw) 4 0 [byT] 0)) 3 = _
 rw [e1, e2, J0c]
theorem Jqk : KI (wG A0) (Xh 3 20) = UAd := by decide +kernel
theorem Jfj : KI (KO [] 0) (.mk 4 16 none [xm]) = U11 := by
 rw [yX (by decide +kernel)]
 show Yg (QS [] 16) 0 = _
 rw [← je (by decide), show lg 16 = 4 by decide +kernel, Jin, uq1, Jin, uq2, Jin, uq3, Jin, uq4, Jy5, J0d]
theorem Jui : KI (acV b25) acT = U17 := by
 unfold acV acT
 rw [Jqj]
 show QS [KI (wG A0) (Xh 3 20), KI (.mk 0 0 0 0 [] none [] none 0) (.mk 1 8 none []), KI (.mk 0 0 0 0 [] none [] none 0) (.mk 1 32 none []), KI (wG cOne) (Xh 4 512), KI (KO [] 0) (.mk 4 16 none [xm])] 5 = _
 rw [Jqk, Jkq, Jfj, show KI (.mk 0 0 0 0 [] none [] none 0) (.mk 1 8 none []) = z32 by decide +kernel, show KI (.mk 0 0 0 0 [] none [] none 0) (.mk 1 32 none []) = z32 by decide +kernel, ← je (by decide), show lg 5 = 3 by decide +kernel, Jy4, J0e, J0f, J0g, uq1, Jy3, J0h, J0i, uq2, Jy2, J0j, Jqi]
theorem Jql : KI (YB [b25]) jL = U23 := by
 unfold YB jL
 rw [yX (by decide +kernel)]
 show Yg (QS [KI (acV b25) acT] 32) 1 = _
 rw [Jui, ← je (by decide), show lg 32 = 5 by decide +kernel, jw, J0k, uq1, jw, J0l, uq2, jw, J0m, uq3, jw, J0n, uq4, jw, J0o, uq5, Jqi, J0p]
theorem Jy6 : KT [b25] = 0 := by decide +kernel
theorem Jy7 : Ql [b25] = (U23, 0) := by rw [Jc0 Jy6 (by decide +kernel), Jql]
theorem Jy8 : Wz 6 U23 = U24 := by
 unfold Wz
 rw [show (wC 6 8).1 = ULe by decide +kernel, J0q]
theorem J0s : wt 0 = 0 := by decide +kernel
theorem J0t : VU 0 [U23, U23, U24] 0 = (U25, 0) := by
 have e : VC 0 [U23, U23, U24] 0 = (UHd ++ [U23, U23, U24].flatten, 0) := by decide +kernel
 unfold VU
 rw [e, if_pos rfl, J0r]
theorem J0u : U24 ≠ U25 := by decide +kernel
theorem Jdb {l m : List AcE} (h : m.Perm l) (hp : m.Pairwise fun x y => xU x y = true) (hn : (l.map AcE.addr).Nodup) : Vn l = m := by
 have h1 : (Vn l).Perm l := List.mergeSort_perm _ _
 exact List.Perm.eq_of_pairwise (fun x y hx hy a b => Jih hn (h1.mem_iff.1 hx) (h.mem_iff.1 hy) (wp a b)) (List.pairwise_mergeSort yS yT _) hp (h1.trans h.symm)
def ww (b : BS) : AcE := ⟨b, 0, w40, [], []⟩
def wv : BS := List.replicate 20 0
def m25 : BS := 98 :: List.replicate 19 0
theorem Jxe : Vu [5, 9] 6 rec0 [] = ([b25], 0, 0) := by
 have e : Vn [] = [] := Jdb (List.Perm.refl _) List.Pairwise.nil List.nodup_nil
 have e1 : V3 [] = 0 := by unfold V3; rw [e]; decide +kernel
 unfold Vu
 rw [e1, e, show QH [5, 9] 6 = (0, 0) by decide +kernel, show QC 0 [] rec0 = ([b25], 0) by decide +kernel]
 rfl
theorem J0v : Vu [5, 9] 6 rec0 [ww m25, ww wv] = ([ww wv, b25, ww m25], 0, 0) := by
 have hn : ([ww m25, ww wv].map AcE.addr).Nodup := by decide +kernel
 have e : Vn [ww m25, ww wv] = [ww wv, ww m25] := Jdb (List.Perm.swap _ _ _) (by decide +kernel) hn
 have e1 : V3 [ww m25, ww wv] = 0 := by unfold V3; rw [if_pos hn, e]; decide +kernel
 unfold Vu
 rw [e1, e, show QH [5, 9] 6 = (0, 0) by decide +kernel, show QC 0 [ww wv, ww m25] rec0 = ([ww wv, b25, ww m25], 0) by decide +kernel]
 rfl
theorem J0w : Vu [5, 9] 6 rec0 [ww m25, ww wv, ww wv] = ([], 0, 13) := by
 have e1 : V3 [ww m25, ww wv, ww wv] = 13 := by unfold V3; rw [if_neg (by decide +kernel)]
 unfold Vu
 rw [e1, show QH [5, 9] 6 = (0, 0) by decide +kernel]
 rfl
theorem J0x (l : List AcE) : Vu [5, 9] 4 rec0 l = ([], 0, 10) := by
 unfold Vu
 rw [show QH [5, 9] 4 = (0, 10) by decide +kernel]
 rfl
theorem J0y : qu [5, 9] 6 rec0 [] = (U24, 0) := by
 unfold qu
 rw [Jxe]
 show (if (0 : Int) ≠ 0 then _ else (Wz 6 (Ql [b25]).1, 0)) = _
 rw [if_neg (by simp), Jy7, Jy8]
theorem J0z : YD [5, 9] 6 rec0 [] = (U25, 0) := by
 have e : Ww [b25] = [b25] := by decide +kernel
 unfold YD
 rw [Jxe]
 show (if (0 : Int) ≠ 0 then _ else VU (wt 0) [(Ql [b25]).1, (Ql (Ww [b25])).1, Wz 6 (Ql [b25]).1] (ju 0 rec0)) = _
 rw [if_neg (by simp), e, Jy7, J0s, Jy8, show ju 0 rec0 = 0 by decide +kernel]
 exact J0t
def VE (fs : Array Field) (i : Nat) : Option (TypeId × Nat) := (fs[i]?).map (fun f => (f.type, f.offset))
section
variable {H : Type} {enc : TypeId × Value → H} {P : Program} {w : World} {base : Nat} {sp : Nat → Bool} {held : Bool}
theorem Jks {tR tW tu tI fuel : Nat} {fa : Array Field} (ha : P.underlying tR = some (.struct fa)) (hA : P.cellsOf tR = 17) (a0 : VE fa 0 = some (tI, 0)) (a1 : VE fa 1 = some (tI, 1)) (a2 : VE fa 2 = some (tW, 2)) (a3 : VE fa 3 = some (tW, 6)) (a4 : VE fa 4 = some (tW, 10))
  (a5 : VE fa 5 = some (tI, 14)) (a6 : VE fa 6 = some (tI, 15)) (a7 : VE fa 7 = some (tI, 16))
  (hI : P.underlying tI = some (.int .u64)) (hIc : P.cellsOf tI = 1) (hW : P.underlying tW = some (.array 4 tu)) (hWc : P.cellsOf tW = 4) (hu : P.underlying tu = some (.int .u64)) (huc : P.cellsOf tu = 1)
  {cs : List Value} {x : DataW H × List MemPlace} (h : DataW.trod enc P w base sp held fuel tR cs = some x) : ∃ s : Rec, cs = s.cells ∧ s.ok := by
 have hl := YL ha hA h
 match cs, hl with
 | [c0, c1, c2, c3, c4, c5, c6, c7, c8, c9, c10, c11, c12, c13, c14, c15, c16], _ =>
  obtain ⟨n0, y0, _, e0⟩ := JZ ha a0 hIc h
  obtain ⟨n1, y1, _, e1⟩ := JZ ha a1 hIc h
  obtain ⟨n2, y2, _, e2⟩ := JZ ha a2 hWc h
  obtain ⟨n3, y3, _, e3⟩ := JZ ha a3 hWc h
  obtain ⟨n4, y4, _, e4⟩ := JZ ha a4 hWc h
  obtain ⟨n5, y5, _, e5⟩ := JZ ha a5 hIc h
  obtain ⟨n6, y6, _, e6⟩ := JZ ha a6 hIc h
  obtain ⟨n7, y7, _, e7⟩ := JZ ha a7 hIc h
  obtain ⟨x0, f0, g0⟩ := Wi hI e0
  obtain ⟨x1, f1, g1⟩ := Wi hI e1
  obtain ⟨u0, u1, u2, u3, f2, k0, k1, k2, k3⟩ := qM hW hWc huc hu e2
  obtain ⟨v0, v1, v2, v3, f3, l0, l1, l2, l3⟩ := qM hW hWc huc hu e3
  obtain ⟨w0, w1, w2, w3, f4, m0, m1, m2, m3⟩ := qM hW hWc huc hu e4
  obtain ⟨x5, f5, g5⟩ := Wi hI e5
  obtain ⟨x6, f6, g6⟩ := Wi hI e6
  obtain ⟨x7, f7, g7⟩ := Wi hI e7
  obtain rfl : c0 = uV x0 := by simpa using f0
  obtain rfl : c1 = uV x1 := by simpa using f1
  obtain ⟨rfl, rfl, rfl, rfl⟩ : c2 = uV u0 ∧ c3 = uV u1 ∧ c4 = uV u2 ∧ c5 = uV u3 := by simpa using f2
  obtain ⟨rfl, rfl, rfl, rfl⟩ : c6 = uV v0 ∧ c7 = uV v1 ∧ c8 = uV v2 ∧ c9 = uV v3 := by simpa using f3
  obtain ⟨rfl, rfl, rfl, rfl⟩ : c10 = uV w0 ∧ c11 = uV w1 ∧ c12 = uV w2 ∧ c13 = uV w3 := by simpa using f4
  obtain rfl : c14 = uV x5 := by simpa using f5
  obtain rfl : c15 = uV x6 := by simpa using f6
  obtain rfl : c16 = uV x7 := by simpa using f7
  exact ⟨⟨x0, x1, ⟨u0, u1, u2, u3⟩, ⟨v0, v1, v2, v3⟩, ⟨w0, w1, w2, w3⟩, x5, x6, x7⟩, rfl, ⟨g0, g1, ⟨k0, k1, k2, k3⟩, ⟨l0, l1, l2, l3⟩, ⟨m0, m1, m2, m3⟩, g5, g6, g7⟩⟩
theorem Jdc {α β : Type} (f : α → β) : ∀ l : List α, l.flatMap (fun x => [f x]) = l.map f
 | [] => rfl
 | x :: l => by rw [List.flatMap_cons, Jdc f l]; rfl
theorem open_gen {tG tC tN tR tX tA tT tS tL tW tu tI : Nat} {fg fc fr fs fa : Array Field} (ht : P.underlying tT = some (.struct fs)) (hT : P.cellsOf tT = 2) (h0 : VE fs 0 = some (tS, 0)) (h1 : VE fs 1 = some (tS, 1)) (hS : P.underlying tS = some .string) (hSc : P.cellsOf tS = 1)
  (ha : P.underlying tA = some (.struct fa)) (hA : P.cellsOf tA = 8) (a0 : VE fa 0 = some (tS, 0)) (a1 : VE fa 1 = some (tI, 1)) (a2 : VE fa 2 = some (tW, 2)) (a3 : VE fa 3 = some (tS, 6)) (a4 : VE fa 4 = some (tL, 7))
  (hI : P.underlying tI = some (.int .u64)) (hIc : P.cellsOf tI = 1) (hW : P.underlying tW = some (.array 4 tu)) (hWc : P.cellsOf tW = 4) (hu : P.underlying tu = some (.int .u64)) (huc : P.cellsOf tu = 1) (hL : P.underlying tL = some (.slice tT)) (hLc : P.cellsOf tL = 1)
  (hX : P.underlying tX = some (.slice tA)) (hXc : P.cellsOf tX = 1)
  (hr : P.underlying tR = some (.struct fr)) (hRc : P.cellsOf tR = 17) (r0 : VE fr 0 = some (tI, 0)) (r1 : VE fr 1 = some (tI, 1)) (r2 : VE fr 2 = some (tW, 2)) (r3 : VE fr 3 = some (tW, 6)) (r4 : VE fr 4 = some (tW, 10))
  (r5 : VE fr 5 = some (tI, 14)) (r6 : VE fr 6 = some (tI, 15)) (r7 : VE fr 7 = some (tI, 16))
  (hc : P.underlying tC = some (.struct fc)) (hCc : P.cellsOf tC = 1) (c0 : VE fc 0 = some (tN, 0)) (hN : P.underlying tN = some (.slice tI)) (hNc : P.cellsOf tN = 1)
  (hg : P.underlying tG = some (.struct fg)) (hGc : P.cellsOf tG = 20) (g0 : VE fg 0 = some (tC, 0)) (g1 : VE fg 1 = some (tI, 1)) (g2 : VE fg 2 = some (tR, 2)) (g3 : VE fg 3 = some (tX, 19))
  {r : Reach} {b0 : Nat} {v : Value} {d : DataW H} {ps : List MemPlace} (hval : Value.okWide P w r b0 tG v) (hd : DataW.Trod enc P w base sp held tG v d ps) : ∃ g : GenL, v = g.val ∧ g.In (Jdq w) := by
 obtain ⟨fuel, h⟩ := hd
 have hl := YL hg hGc h
 generalize hcs : v.cells.toList = cs at h hl
 obtain ⟨n0, y0, _, e0⟩ := JZ hg g0 hCc h
 obtain ⟨n1, y1, _, e1⟩ := JZ hg g1 hIc h
 obtain ⟨n2, y2, _, e2⟩ := JZ hg g2 hRc h
 obtain ⟨n3, y3, _, e3⟩ := JZ hg g3 hXc h
 obtain ⟨m0, z0, _, k0⟩ := JZ hc c0 hNc e0
 obtain ⟨ts, tp, ets, tsg, tlen, tok⟩ := Yv (f := fun n => [uV n]) (ok := VF) (by decide) (fun _ => rfl) hN hIc (fun m hm cs x hx => Wi hI hx) k0
 obtain ⟨t, et, tu64⟩ := Wi hI e1
 obtain ⟨rc, erc, hrc⟩ := Jks hr hRc r0 r1 r2 r3 r4 r5 r6 r7 hI hIc hW hWc hu huc e2
 obtain ⟨l, p, ep, hsg, hlen, hok⟩ := Yv (f := AcL.cells) (ok := AcL.In (Jdq w)) (by decide) AcL.len hX hA (fun m hm cs x hx => Jrm ht hT h0 h1 hS hSc ha hA a0 a1 a2 a3 a4 hI hIc hW hWc hu huc hL hLc hx) e3
 rw [Jdc] at tsg
 refine ⟨⟨ts, tp, t, rc, l, p⟩, Ja9 hg hval (hcs.trans ?_), ⟨tlen, tsg, tok, tu64, hrc, ⟨hlen, hsg, hok⟩⟩⟩
 rw [GenL.cells_eq]
 have q0 : cs.take 1 = [KG ts.length tp] := by rw [← ets]; simp [List.take_take]
 have q3 : cs.drop 19 = [KG l.length p] := by
  rw [← ep, List.take_of_length_le]; rw [List.length_drop, hl]; decide
 have s1 : cs = cs.take 1 ++ ((cs.drop 1).take 1 ++ ((cs.drop 2).take 17 ++ cs.drop 19)) := by
  have a : ∀ (k n : Nat), cs.drop k = (cs.drop k).take n ++ cs.drop (k + n) := fun k n => by rw [← List.drop_drop, List.take_append_drop]
  rw [← a 2 17, ← a 1 1, List.take_append_drop]
 rw [s1, q0, et, erc, q3]
 rfl
end
theorem Jy9 {a b : Bool} (h : a = b) : Value.bool a = .bool b := congrArg _ h
theorem Jza {a b : BS} (h : a ≠ b) : (!decide (a = b)) = true := by simp [h]
theorem Jqm {s : BS} {n : Nat} (h : s.length = n) : Value.int .i64 (s.length : Int) = .int .i64 (n : Int) := by rw [h]
def g25 (r t : Nat) (l : List AcL) (p : Pl) : GenL := ⟨[5, 9], some (⟨r, 0, none⟩, 2), t, rec0, l, p⟩
def tB (r : Nat) : Nat × Obj := (r, .cells #[uV 5, uV 9] 25 (0, 0))
theorem xQ {R : Ji} {r t : Nat} {l : List AcL} {p : Pl} (h : tB r ∈ R) (ht : VF t) (hs : StL.In R ⟨l, p⟩) : (g25 r t l p).In R := by
 refine ⟨show (2 : Nat) ≤ Yw by decide, ?_, ?_, ht, Jrj, hs⟩
 ·exact (Kx (row := some (r, 2, [])) (sz := 1) (n := 2) (e := 25) (cs := [uV 5, uV 9]) ⟨rfl, rfl⟩ (by decide)).mono fun q hq => by rw [List.mem_singleton.1 hq]; exact h
 ·intro x hx
  rcases List.mem_cons.1 hx with rfl | hx
  ·exact jO (by decide)
  ·rw [List.mem_singleton.1 hx]; exact jO (by decide)
def xL (b : BS) : AcL := ⟨b, 0, w40, [], [], none⟩
theorem Jdd {R : Ji} {b : BS} (h : b.length ≤ Yw) : (xL b).In R := ⟨h, QG, w40_ok, Nat.zero_le _, Nat.zero_le _, rfl, by simp [xL]⟩
def l25 : List AcL := [xL m25, xL wv]
def k25 : List AcL := [xL m25, xL wv, xL wv]
theorem Jxf {R : Ji} : ∀ a ∈ l25, a.In R := fun a ha => by
 rcases List.mem_cons.1 ha with rfl | ha
 ·exact Jdd (by decide)
 ·rw [List.mem_singleton.1 ha]; exact Jdd (by decide)
theorem Jxg {R : Ji} : ∀ a ∈ k25, a.In R := fun a ha => by
 rcases List.mem_cons.1 ha with rfl | ha
 ·exact Jdd (by decide)
 rcases List.mem_cons.1 ha with rfl | ha
 ·exact Jdd (by decide)
 ·rw [List.mem_singleton.1 ha]; exact Jdd (by decide)
def aB (rv : Nat) : Nat × Obj := (rv, .cells (KM l25).toArray 48 (0, 0))
theorem Jzb (r rv : Nat) : StL.In [tB r, aB rv] ⟨l25, some (⟨rv, 0, none⟩, 2)⟩ :=
 ⟨show (2 : Nat) ≤ Yw by decide, (Kx (row := some (rv, 2, [])) (sz := 8) (n := 2) (e := 48) (cs := KM l25) ⟨rfl, rfl⟩ (by decide)).mono fun q hq => by rw [List.mem_singleton.1 hq]; exact List.mem_cons_of_mem _ (List.mem_singleton.2 (by simp [aB])), Jxf⟩
def cB (ra : Nat) (sp : List Value) : Nat × Obj := (ra, .cells (KM l25 ++ (xL wv).cells ++ sp).toArray 48 (0, 0))
theorem Jva {r ra cap : Nat} {sp : List Value} (h : rowOk 8 3 (KM l25 ++ (xL wv).cells) (some (ra, cap, sp))) : StL.In [tB r, cB ra sp] ⟨k25, some (⟨ra, 0, none⟩, cap)⟩ :=
 ⟨show (3 : Nat) ≤ Yw by decide, (Kx (n := 3) (e := 48) (cs := KM l25 ++ (xL wv).cells) h (by decide)).mono fun q hq => by rw [List.mem_singleton.1 hq]; exact List.mem_cons_of_mem _ (List.mem_singleton.2 rfl), Jxg⟩
set_option maxHeartbeats 2000000 in
theorem Jkt {R : Ji} : PureR Tryz.prog 9 #[] (.bool true) R := by
 have hH := J0y
 have hK := J0z
 have hne := J0u
 have hl1 : U24.length = 32 := by decide
 have hl2 : U25.length = 32 := by decide
 generalize U24 = hh at hH hne hl1
 generalize U25 = cc at hK hne hl2
 refine Ja Tryz.func9 rfl rfl fun w => ?_; refine J9 ?_; refine Jq 7 rfl ?_; refine JH (n := 2) (sz := 1) (vs := [_, _]) (zs := [_, _]) (r := [uV 5, uV 9]) rfl rfl rfl rfl rfl rfl rfl rfl rfl (by rw [Kf]; exact rfl) rfl fun r1 => ?_; refine LR rfl (Jr (r := [_]) rfl rfl) ?_; refine LR rfl (Jr (r := [_, _, _, _, _, _, _, _, _, _, _, _, _, _, _, _, _, _, _, _]) rfl rfl) ?_; refine LN rfl fun r2 => ?_; refine Jn (k := 0) (n := 20) (ys := ((g25 r1 6 [] none)).cells) rfl rfl rfl rfl rfl rfl rfl rfl rfl ?_
 have hg1 : GenL.In [tB r1] (g25 r1 6 [] none) := xQ (List.mem_singleton.2 rfl) (jO (by decide)) Jmc
 refine JF 4 rfl ?_; refine LR rfl (Jf (xs := (g25 r1 6 [] none).cells) (n := 20) rfl (kn 0 rfl) rfl rfl rfl) ?_; refine Kq rfl rfl rfl Jei (Ym (R := [tB r1]) hg1 (Nat.zero_le _)) (fun q hq => by rw [List.mem_singleton.1 hq]; exact .inl (List.mem_cons_of_mem _ List.mem_cons_self)) fun x => ?_; refine Km List.perm_append_comm ?_; change HL _ _ ((24, .tuple #[x.s.val, .int .i64 x.f, .int .i64 x.err]) :: _) ((r2, _) :: (r1, _) :: x.L) _ _ _ _
 obtain ⟨hx1, hx2⟩ := Prod.mk.inj (x.eq.trans Jxe)
 obtain ⟨hx2, hx3⟩ := Prod.mk.inj hx2
 rw [hx2, hx3]; refine LS 4 [] rfl rfl ?_; refine LN rfl fun r3 => ?_; refine Jn (k := 0) (n := 1) (ys := x.s.cells) rfl rfl rfl rfl rfl rfl rfl rfl rfl ?_; refine JF 6 rfl ?_; refine LR rfl (Jf (xs := (g25 r1 6 [] none).cells) (n := 20) rfl (kn 1 rfl) rfl rfl rfl) ?_; refine Je rfl rfl rfl (enters_of Tryz.func14 (by kernel_rfl) rfl) (Jqh (R := [tB r1]) hg1 (show Zt [] = true by decide)) (fun q hq => by rw [List.mem_singleton.1 hq]; exact .inl (List.mem_cons_of_mem _ (List.mem_cons_of_mem _ List.mem_cons_self))) ?_; refine Jw (congrArg Wt hH) ?_; refine JF 9 rfl ?_; refine LR rfl (Jf (xs := (g25 r1 6 [] none).cells) (n := 20) rfl (kn 1 rfl) rfl rfl rfl) ?_; refine Je rfl rfl rfl (enters_of Tryz.func16 (by kernel_rfl) rfl) (Jim (R := [tB r1]) hg1 (show Zt [] = true by decide)) (fun q hq => by rw [List.mem_singleton.1 hq]; exact .inl (List.mem_cons_of_mem _ (List.mem_cons_of_mem _ List.mem_cons_self))) ?_; refine Jw (congrArg Wt hK) ?_; refine JF 9 rfl ?_; refine W6 (n := 20) (b := 1) rfl rfl rfl rfl rfl rfl rfl rfl rfl (by decide) (by decide) fun rk => ?_; rw [show List.replicate 20 (Value.int .u8 0) = (wv).map bV from rfl]; refine LR rfl (Qt (b := wv) (row := some (rk, 20, [])) (e := 5) (show _ = some (JC (List.length wv) _) from rfl) ⟨rfl, rfl⟩ (fun p hp => .inl (by rw [List.mem_singleton.1 hp, List.append_nil]; exact List.mem_cons_self)) rfl rfl rfl) ?_; refine JF 6 rfl ?_; refine LR rfl (j4 (kl := some (.i64, 1)) (kh := none) (m := 1) (n := 20) rfl rfl rfl rfl rfl rfl (by decide) (by decide) (show _ = List.replicate 19 0 from rfl)) ?_; refine LR rfl (Q0 (a := [98]) (b := List.replicate 19 0) rfl rfl (by decide)) ?_; refine Jw (show _ = J6 m25 from rfl) ?_; refine LR rfl (Jr (r := [_, _, _, _, _, _, _, _]) rfl rfl) ?_; refine QI rfl (LR rfl (Jr (r := [_, _, _, _, _, _, _, _]) rfl rfl) ?_); refine JH (n := 2) (sz := 8) (vs := [_, _]) (zs := [_, _, _, _, _, _, _, _, _, _, _, _, _, _, _, _]) (r := KM l25) rfl rfl rfl rfl rfl rfl rfl rfl rfl (by rw [Kf]; exact rfl) rfl fun rv => ?_
 refine LS 1 [] rfl rfl ?_; refine KF (k := 3) (cs' := ((g25 r1 6 l25 (some (⟨rv, 0, none⟩, 2)))).cells.toArray) rfl rfl rfl rfl rfl rfl rfl rfl rfl rfl ?_
 have hg2 : GenL.In [tB r1, aB rv] (g25 r1 6 l25 (some (⟨rv, 0, none⟩, 2))) := xQ List.mem_cons_self (jO (by decide)) (Jzb r1 rv)
 refine JF 4 rfl ?_; refine LR rfl (Jf (xs := (g25 r1 6 l25 (some (⟨rv, 0, none⟩, 2))).cells) (n := 20) rfl (kn 3 rfl) rfl rfl rfl) ?_; refine Kq rfl rfl rfl Jei (Ym (R := [tB r1, aB rv]) hg2 (show (2 : Nat) ≤ 1000 by decide)) (fun q hq => (List.mem_cons.1 hq).elim (fun h => .inl (by rw [h]; exact (List.mem_cons_of_mem _ (List.mem_cons_of_mem _ (List.mem_cons_of_mem _ (List.mem_cons_of_mem _ List.mem_cons_self)))))) fun h => .inl (by rw [List.mem_singleton.1 h]; exact List.mem_cons_self)) fun y => ?_; refine Km (VB y.L [_, _, _, _, _] (x.L)) ?_; change HL _ _ ((50, .tuple #[y.s.val, .int .i64 y.f, .int .i64 y.err]) :: _) ((rv, _) :: (rk, _) :: (r3, _) :: (r2, _) :: (r1, _) :: (y.L ++ (x.L))) _ _ _ _
 obtain ⟨hy1, hy2⟩ := Prod.mk.inj (y.eq.trans J0v)
 obtain ⟨hy2, hy3⟩ := Prod.mk.inj hy2
 rw [hy2, hy3]; refine LS 4 [] rfl rfl ?_; refine LN rfl fun r10 => ?_; refine Jn (k := 0) (n := 1) (ys := y.s.cells) rfl rfl rfl rfl rfl rfl rfl rfl rfl ?_; refine XV 9 [4] rfl rfl ?_; refine LR rfl (Jr (r := [_, _, _, _, _, _, _, _]) rfl rfl) ?_; refine JH (n := 1) (sz := 8) (vs := [_]) (zs := [_, _, _, _, _, _, _, _]) (r := (xL wv).cells) rfl rfl rfl rfl rfl rfl rfl rfl rfl (by rw [Kf]; exact rfl) rfl fun rw1 => ?_; refine Kz (L0 := _ :: _ :: _ :: _ :: _ :: _ :: (y.L ++ x.L)) (xs := KM l25) (row := some (rv, 2, [])) (n := 2) (sz := 8) (b := 96) (news := (xL wv).cells) (List.perm_middle (l₁ := [_, _])) rfl rfl rfl rfl (kn 0 rfl) rfl rfl rfl rfl rfl (by decide) rfl rfl rfl (by decide) ⟨rfl, rfl⟩ (by decide) (by decide) fun ra cap sp hra => ?_
 refine LS 1 [] rfl rfl ?_; refine KF (k := 5) (cs' := ((g25 r1 6 k25 (some (⟨ra, 0, none⟩, cap)))).cells.toArray) rfl rfl rfl rfl rfl rfl rfl rfl rfl rfl ?_
 have hg3 : GenL.In [tB r1, cB ra sp] (g25 r1 6 k25 (some (⟨ra, 0, none⟩, cap))) := xQ List.mem_cons_self (jO (by decide)) (Jva hra)
 have hg4 : GenL.In [tB r1, cB ra sp] (g25 r1 4 k25 (some (⟨ra, 0, none⟩, cap))) := xQ List.mem_cons_self (jO (by decide)) (Jva hra)
 refine JF 4 rfl ?_; refine LR rfl (Jf (xs := (g25 r1 6 k25 (some (⟨ra, 0, none⟩, cap))).cells) (n := 20) rfl (kn 5 rfl) rfl rfl rfl) ?_; refine Kq rfl rfl rfl Jei (Ym (R := [tB r1, cB ra sp]) hg3 (show (3 : Nat) ≤ 1000 by decide)) (fun q hq => (List.mem_cons.1 hq).elim (fun h => .inl (by rw [h]; exact (List.mem_cons_of_mem _ (List.mem_cons_of_mem _ (List.mem_cons_of_mem _ (List.mem_cons_of_mem _ (List.mem_cons_of_mem _ (List.mem_cons_of_mem _ List.mem_cons_self)))))))) fun h => .inl (by rw [List.mem_singleton.1 h]; exact List.mem_cons_self)) fun z => ?_; refine Km (VB z.L [_, _, _, _, _, _, _] (y.L ++ x.L)) ?_; change HL _ _ ((63, .tuple #[z.s.val, .int .i64 z.f, .int .i64 z.err]) :: _) ((ra, _) :: (rw1, _) :: (r10, _) :: (rk, _) :: (r3, _) :: (r2, _) :: (r1, _) :: (z.L ++ (y.L ++ x.L))) _ _ _ _
 obtain ⟨hz1, hz2⟩ := Prod.mk.inj (z.eq.trans J0w)
 obtain ⟨hz2, hz3⟩ := Prod.mk.inj hz2
 rw [hz2, hz3]; refine LS 4 [] rfl rfl ?_; refine LN rfl fun r13 => ?_; refine Jn (k := 0) (n := 1) (ys := z.s.cells) rfl rfl rfl rfl rfl rfl rfl rfl rfl ?_; refine JF 7 rfl ?_; refine KF (k := 6) (cs' := ((g25 r1 4 k25 (some (⟨ra, 0, none⟩, cap)))).cells.toArray) rfl rfl rfl rfl rfl rfl rfl rfl rfl rfl ?_; refine JF 4 rfl ?_; refine LR rfl (Jf (xs := (g25 r1 4 k25 (some (⟨ra, 0, none⟩, cap))).cells) (n := 20) rfl (kn 6 rfl) rfl rfl rfl) ?_; refine Kq rfl rfl rfl Jei (Ym (R := [tB r1, cB ra sp]) hg4 (show (3 : Nat) ≤ 1000 by decide)) (fun q hq => (List.mem_cons.1 hq).elim (fun h => .inl (by rw [h]; exact (List.mem_cons_of_mem _ (List.mem_cons_of_mem _ (List.mem_cons_of_mem _ (List.mem_cons_of_mem _ (List.mem_cons_of_mem _ (List.mem_cons_of_mem _ (List.mem_cons_of_mem _ List.mem_cons_self))))))))) fun h => .inl (by rw [List.mem_singleton.1 h]; exact (List.mem_cons_of_mem _ List.mem_cons_self))) fun u => ?_; refine Km (VB u.L [_, _, _, _, _, _, _, _] (z.L ++ (y.L ++ x.L))) ?_; change HL _ _ ((70, .tuple #[u.s.val, .int .i64 u.f, .int .i64 u.err]) :: _) ((r13, _) :: (ra, _) :: (rw1, _) :: (r10, _) :: (rk, _) :: (r3, _) :: (r2, _) :: (r1, _) :: (u.L ++ (z.L ++ (y.L ++ x.L)))) _ _ _ _
 obtain ⟨hu1, hu2⟩ := Prod.mk.inj (u.eq.trans (J0x _))
 obtain ⟨hu2, hu3⟩ := Prod.mk.inj hu2
 rw [hu2, hu3]; refine LS 4 [] rfl rfl ?_; refine LN rfl fun r16 => ?_; refine Jn (k := 0) (n := 1) (ys := u.s.cells) rfl rfl rfl rfl rfl rfl rfl rfl rfl ?_; refine XV 8 [6] rfl rfl ?_; refine LR rfl (J5 rfl x.ok.seg rfl) ?_; refine Jw (Jpj (show _ = (1 : Int) by rw [← x.s.er_len, hx1]; rfl)) ?_; refine LS 11 [] rfl rfl ?_; refine LR rfl (vf rfl rfl rfl) ?_; refine Jw (show _ = Value.int .i64 32 from Jqm hl1) ?_; refine LS 8 [] rfl rfl ?_; refine LR rfl (vf rfl rfl rfl) ?_; refine Jw (show _ = Value.int .i64 32 from Jqm hl2) ?_; refine LS 5 [] rfl rfl ?_; refine LR rfl (Jfw (a := cc) (b := hh) rfl rfl) ?_; refine Jw (Jy9 (Jza hne.symm)) ?_; refine XV 8 [4] rfl rfl ?_; refine LR rfl (J5 rfl y.ok.seg rfl) ?_; refine Jw (Jpj (show _ = (3 : Int) by rw [← y.s.er_len, hy1]; rfl)) ?_; refine Jx 22 rfl ?_; refine pT rfl rfl rfl fun w1 hs1 => ?_; exact ⟨rfl, hs1.keep⟩
end Go.Proofs.YtfaagelglpgpkaaGreatDoor
