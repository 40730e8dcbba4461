import Derived.Test.YtfaagelglpgpkaaGreatDoorZtOrdere
import Derived.Shelf.SlGeneric
import Derived.Shelf.SlSortCmp.WholeK
import Derived.Ground.SlsfProg
import Derived.Test.YtfaagelglpgpkaaGreatDoorProg
set_option maxRecDepth 100000
namespace Go.Proofs.YtfaagelglpgpkaaGreatDoor
set_option linter.all false
open Go.SL Go.RowKit Go.Shelf
structure GenL : Type where
  ts : List Nat
  tp : Pl
  time : Nat
  rc : Rec
  accts : List AcL
  ap : Pl
def GenL.cells (g : GenL) : List Value := [Kz g.ts.length g.tp, uV g.time, uV g.rc.number, uV g.rc.time, uV g.rc.base.a, uV g.rc.base.b, uV g.rc.base.c, uV g.rc.base.d, uV g.rc.blob.a, uV g.rc.blob.b, uV g.rc.blob.c, uV g.rc.blob.d, uV g.rc.overhead.a, uV g.rc.overhead.b, uV g.rc.overhead.c, uV g.rc.overhead.d, uV g.rc.scalar, uV g.rc.extra, uV g.rc.operator, Kz g.accts.length g.ap]
def GenL.val (g : GenL) : Value := .agg g.cells.toArray
theorem GenL.cells_eq (g : GenL) : g.cells = [Kz g.ts.length g.tp, uV g.time] ++ g.rc.cells ++ [Kz g.accts.length g.ap] := rfl
def GenL.st (g : GenL) : StL := ⟨g.accts, g.ap⟩
def GenL.ac (g : GenL) : List AcE := g.accts.map AcL.er
structure GenL.In (R : Ji) (g : GenL) : Prop where
  tlen : g.ts.length ≤ Ys
  tseg : Seg R g.ts.length (unC g.ts) g.tp
  tu : ∀ x ∈ g.ts, VD x
  time : VD g.time
  rc : g.rc.ok
  st : g.st.In R
theorem GenL.In.mono {R R' : Ji} {g : GenL} (h : g.In R) (hs : ∀ q ∈ R, q ∈ R') : g.In R' := ⟨h.tlen, h.tseg.mono hs, h.tu, h.time, h.rc, h.st.mono hs⟩
def WZ (t : Nat) (root : BS) : BS := Wj ((wH t 8).1 ++ root)
theorem Juo (t : Nat) : (wH t 8).1.length ≤ 8 := by
 unfold wH
 split
 ·exact Nat.zero_le _
 ·show (ZR t 8).length ≤ 8
  simp [ZR]
theorem xQ {t : Nat} (ht : VD t) {root : BS} (hr : root.length ≤ 1000) : Pure Tryz.prog 35 [uV t, J6 root].toArray (J6 (WZ t root)) := by
 have h8 := Juo t
 refine Jl Tryz.func35 rfl rfl fun w => ?_; refine JB ?_; refine Jq 8 rfl ?_; refine Jo rfl rfl rfl Jsi (jl ht 8) ?_; refine JG 11 rfl ?_
 refine LR rfl (Q0 rfl rfl (by first | omega | (simp only [List.length_append]; omega))) ?_; refine Jo rfl rfl rfl Jeu (vP (by rw [List.length_append]; omega)) ?_; refine Jy 4 rfl ?_; refine pT rfl rfl rfl fun w1 hs1 => ?_; exact ⟨rfl, hs1.keep⟩
def Jp5 (g : GenL) : Bool := Yp g.ac && decide (g.ts.length ≤ 100)
theorem Jxu {R : Ji} {g : GenL} (hg : g.In R) : PureR Tryz.prog 10 [g.val].toArray (.bool (Jp5 g)) R := by
 have hts := hg.tseg
 have hF := Jud hg.st
 have hfe : Yp g.ac = Yp g.st.er := rfl
 refine Ja Tryz.func10 rfl rfl fun w => ?_; refine JB ?_; refine Jq 2 rfl ?_; refine Ko (cs := g.cells.toArray) rfl rfl rfl rfl fun r1 => ?_; refine XB 7 [0] rfl rfl ?_; refine LR rfl (Js (r := [_]) rfl rfl) ?_; refine Je rfl rfl rfl (enters_of Tryz.func29 (by kernel_rfl) rfl) hF oR ?_; refine QI rfl ?_
 refine J7 7 rfl (fun gb => ?_) (fun gb => ?_) <;> (try simp only [ZZ] at gb) <;> first | (refine LR rfl (JE rfl rfl rfl) ?_) | (refine LK rfl ?_)
 all_goals first | refine LR rfl (JE rfl rfl rfl) ?_ | refine LK rfl ?_
 all_goals refine LW 1 [0] rfl rfl ?_
 all_goals first | refine LR rfl (J0 rfl hts rfl) ?_ | refine LK rfl ?_
 all_goals (
  refine LW 3 [] rfl rfl (Jy 1 rfl (Zx 2 rfl ?_)); refine pT rfl rfl rfl fun w1 hs1 => ?_; refine ⟨?_, hs1.keep⟩; simp only [J8, Jp5, hfe]
  simp_all
  all_goals first | done | omega
  skip)
theorem Jup (a b : AcL) : Pure Tryz.prog 77 [vA a, vA b].toArray (.bool (decide (a.addr = b.addr))) := by
 refine Jl Tryz.func77 rfl rfl fun w => ?_; refine JB ?_; refine Jq 2 rfl ?_; refine LN rfl fun r1 => ?_; refine LN rfl fun r2 => ?_; refine XB 9 [1, 0] rfl rfl ?_; refine LR rfl (Xg rfl rfl) ?_; refine Jy 4 rfl ?_; refine pT rfl rfl rfl fun w1 hs1 => ?_; exact ⟨rfl, hs1.keep⟩
theorem Juq (W : Nat) : PureE (α := Nat × Nat) Tryz.prog 30 [Qf W 0].toArray (fun p => .slice (some ⟨p.2, 0, none⟩) 3 3) (fun p => [(p.2, .cells #[.func (.func 70) #[] #[Qf p.1 0], .func (.func 72) #[] #[Qf p.1 0], .func (.func 80) #[] #[Qf p.1 0]] 73 (0, 0)), (p.1, .cells #[Qf W 0] 68 (0, 0))]) := by
 refine JX Tryz.func30 rfl rfl fun w => ?_; refine JB ?_; refine Jq 2 rfl ?_; refine LN rfl fun r1 => ?_; refine JG 5 rfl ?_; refine LR rfl (JD rfl rfl) ?_; refine LR rfl (JD rfl rfl) ?_; refine LR rfl (JD rfl rfl) ?_; refine JK (vs := [_, _, _]) (zs := [_, _, _]) (r := [_, _, _]) rfl rfl rfl rfl rfl rfl rfl rfl rfl (by show (madeCells #[_] _).toList = _; rw [QR]; exact rfl) rfl fun r2 => ?_; refine Jy 4 rfl ?_; refine pT rfl rfl rfl fun w1 hs1 => ?_; exact ⟨(r1, r2), rfl, hs1⟩
def XZ : List BS → Bool
 | x :: y :: l => decide (x = y) || XZ (y :: l)
 | _ => false
theorem Jik : ∀ {l : List BS} {i : Nat} {x : BS}, l[i]? = some x → l[i + 1]? = some x → XZ l = true
 | [], i, x, h, _ => by simp at h
 | [a], i, x, _, h => by simp at h
 | a :: b :: l, 0, x, h1, h2 => by
  simp only [List.getElem?_cons_zero, List.getElem?_cons_succ, Nat.zero_add, Option.some.injEq] at h1 h2; subst h1 h2
  unfold XZ
  rw [decide_eq_true rfl]; rfl
 | a :: b :: l, i + 1, x, h1, h2 => by
  rw [List.getElem?_cons_succ] at h1 h2
  unfold XZ
  rw [Jik h1 h2, Bool.or_true]
theorem Jfk : ∀ {l : List BS}, (∀ i x, l[i]? = some x → l[i + 1]? = some x → False) → XZ l = false
 | [], _ => rfl
 | [a], _ => rfl
 | a :: b :: l, h => by
  unfold XZ
  rw [decide_eq_false fun e => h 0 a rfl (by rw [e]; rfl), Jfk fun i x h1 h2 => h (i + 1) x (by rw [List.getElem?_cons_succ]; exact h1) (by rw [List.getElem?_cons_succ]; exact h2)]; rfl
abbrev jv (xs : List AcL) : List BS := xs.map AcL.addr
theorem qW {xs : List AcL} {i : Nat} {x : AcL} (h : xs[i]? = some x) : (jv xs)[i]? = some x.addr := by rw [List.getElem?_map, h]; rfl
def CompR (xs : List AcL) : Type := { q : Option Addr × Nat × Nat // (q.2.1 < xs.length ↔ XZ (jv xs) = true) ∧ q.2.1 ≤ xs.length }
def CompR.val {xs : List AcL} (q : CompR xs) : Value := .slice q.1.1 q.1.2.1 q.1.2.2
theorem wt {xs : List AcL} (h : XZ (jv xs) = false) (a : Option Addr) (c : Nat) : (xs.length < xs.length ↔ XZ (jv xs) = true) ∧ xs.length ≤ xs.length := ⟨⟨fun h2 => absurd h2 (Nat.lt_irrefl _), fun h2 => by rw [h] at h2; cases h2⟩, Nat.le_refl _⟩
theorem Jp6 {xs : List AcL} (h : xs.length < 2) : XZ (jv xs) = false := Jfk fun i x _ h2 => by
 have := (List.getElem?_eq_some_iff.1 h2).1
 rw [List.length_map] at this; omega
theorem Jko {R : Ji} {xs : List AcL} {row : QK} (hl : xs.length ≤ 1000) (hrow : rowOk 8 xs.length (KH xs) row) {g : FuncId} (eg : Enters Tryz.prog g) (hg : ∀ x y : AcL, Pure Tryz.prog g [vA x, vA y].toArray (.bool (decide (x.addr = y.addr)))) :
  PureT (α := CompR xs) Tryz.prog 78 [J9 xs.length row, .func (.func g) #[] #[]].toArray (fun q => q.val) (JH 48 (KH xs) row) (fun _ => []) R := by
 cases row with
 | none =>
  have h0 : xs = [] := by
   have := hrow.1
   exact List.eq_nil_of_length_eq_zero (by simpa using this)
  subst h0; refine Ju Tryz.func78 rfl rfl fun w => ?_; refine JB ?_; refine Jq 9 rfl ?_; refine LR rfl (JQ rfl rfl) ?_; refine JM 3 rfl ?_; refine J1 rfl (fun h4 => ?_) (fun h4 => ?_)
  try simp only [ZZ] at h4
  refine Km 8 rfl ?_; refine pT rfl rfl rfl fun w1 hs1 => ?_; exact ⟨⟨(none, 0, 0), wt (xs := []) rfl none 0⟩, rfl, hs1⟩
  try exact Bool.noConfusion h4
 | some p =>
  obtain ⟨r, cap, sp⟩ := p
  obtain ⟨hr1, hr2⟩ := hrow
  have hcap : xs.length ≤ cap := by omega
  have hseg : ∀ zs : List AcL, zs.length = xs.length → Seg [(r, .cells (KH zs ++ sp).toArray 48 (0, 0))] zs.length (KH zs) (some (⟨r, 0, none⟩, cap)) := fun zs hz => Ku (sz := 8) (row := some (r, cap, sp)) ⟨Ke AcL.len _, by have := hr2; rw [hz]; exact hr2⟩ (by decide)
  refine Ju Tryz.func78 rfl rfl fun w => ?_; refine JB ?_; refine Jq 9 rfl ?_; refine LR rfl (JQ rfl rfl) ?_; refine JM 3 rfl ?_; refine J1 rfl (fun h4 => ?_) (fun h4 => ?_)
  try simp only [ZZ] at h4
  refine Km 8 rfl ?_; refine pT rfl rfl rfl fun w1 hs1 => ?_; exact ⟨⟨(some ⟨r, 0, none⟩, xs.length, cap), wt (Jp6 (by omega)) none 0⟩, rfl, hs1.weakL (List.nil_sublist _)⟩
  ·try simp only [ZZ] at h4
   refine JP 9 rfl ?_; refine Jz (σ := Nat) (fun k => (1 ≤ k ∧ k ≤ xs.length) ∧ ∀ i a, i + 1 < k → (jv xs)[i]? = some a → (jv xs)[i + 1]? = some a → False) (fun k => [(0, .slice (some ⟨r, 0, none⟩) xs.length cap), (1, .func (.func g) #[] #[]), (5, .int .i64 (k : Int))]) (fun _ => [(r, .cells (KH xs ++ sp).toArray 48 (0, 0))]) (fun _ _ _ => True) (fun k => xs.length - k) 1 ⟨⟨Nat.le_refl _, by omega⟩, fun i a hi => absurd hi (by omega)⟩ (lK rfl) (List.Sublist.refl _) (fun _ _ h => h) ?_; rintro k ⟨⟨hk0, hk1⟩, hinv⟩; refine Jq 5 rfl ?_; refine LR rfl (JQ rfl rfl) ?_; refine JM 3 rfl ?_; refine cD (fun h10 => ?_) fun h10 => ?_
   ·refine JP 5 rfl ?_
    have hsegz := hseg xs rfl
    obtain ⟨x, hx, hmx⟩ := Q4 (show k - 1 < xs.length by omega)
    obtain ⟨y, hy, hmy⟩ := Q4 (show k < xs.length by omega)
    refine JJ 11 (by kernel_rfl) (by kernel_rfl) ?_; refine Jb rfl rfl rfl (Jg rfl) ?_; refine Jb rfl rfl rfl (Jg rfl) ?_; refine Jb rfl rfl rfl (Jg rfl) ?_; refine Jb rfl rfl rfl (JF (j := k) (m := 8) (off' := 0 + (k) * 8) rfl rfl rfl rfl rfl (by omega) (by omega)) ?_; refine Jb rfl rfl rfl (JZ (p := some (⟨r, 0, none⟩, cap)) AcL.len (fun q hq => Or.inl hq) rfl hsegz hy rfl rfl) ?_; refine Jb rfl rfl rfl (Jg rfl) ?_; refine Jb rfl rfl rfl (Jg rfl) ?_; refine Jb rfl rfl rfl (Jv rfl rfl rfl) ?_; refine Vw (by omega) (by omega) ?_; refine Qa (show _ = Value.int .i64 ((k - 1 : Nat) : Int) from by congr 1; omega) ?_; refine Jb rfl rfl rfl (JF (j := (k - 1)) (m := 8) (off' := 0 + ((k - 1)) * 8) rfl rfl rfl rfl rfl (by omega) (by omega)) ?_; refine Jb rfl rfl rfl (JZ (p := some (⟨r, 0, none⟩, cap)) AcL.len (fun q hq => Or.inl hq) rfl hsegz hx rfl rfl) ?_; refine V7 rfl rfl rfl eg ((hg y x).toR) oR ?_; refine JW ?_; refine JM 2 rfl ?_; refine cD (fun h13 => ?_) fun h13 => ?_
    ·refine Jq 4 rfl ?_; refine LR rfl (JL (sz := 8) (m := k) (kl := some k) (kh := none) (km := none) (q := xs.length) (z := cap) (off' := k * 8) rfl rfl rfl ⟨_, rfl⟩ trivial trivial rfl rfl rfl (by omega) (by omega) (by omega) (fun _ => rfl) (by rw [if_neg (by omega)]; omega)) ?_; refine JM 5 rfl ?_
     have hadj : XZ (jv xs) = true := by
      have he : y.addr = x.addr := by simp_all
      have h1 := qW hx
      have h2 := qW hy
      rw [he] at h2
      obtain ⟨k0, rfl⟩ : ∃ k0, k = k0 + 1 := ⟨k - 1, by omega⟩
      exact Jik h1 h2
     clear hsegz hx hy; refine JP 5 rfl ?_; refine Jz (σ := Nat × Nat × List AcL) (fun s => s.2.2.length = xs.length ∧ (1 ≤ s.1 ∧ s.1 ≤ xs.length - k) ∧ s.2.1 ≤ k + s.1 - 1) (fun s => [(0, .slice (some ⟨r, 0, none⟩) xs.length cap), (1, .func (.func g) #[] #[]), (5, .int .i64 (s.2.1 : Int)), (6, .slice (some ⟨r, k * 8, none⟩) (xs.length - k) (cap - k)), (7, .int .i64 (s.1 : Int))]) (fun s => [(r, .cells (KH s.2.2 ++ sp).toArray 48 (0, 0))]) (fun _ _ _ => True) (fun s => xs.length - k - s.1) (1, k, xs) ⟨rfl, ⟨Nat.le_refl _, by simp only; omega⟩, by simp only; omega⟩ (lK rfl) (List.Sublist.refl _) (fun _ _ h => h) ?_; rintro ⟨k2, i, zs⟩ ⟨hz, ⟨hk2, hk3⟩, hi⟩; simp only at hz hk2 hk3 hi; change HC _ _ [(0, _), (1, _), (5, .int .i64 (i : Int)), (6, _), (7, .int .i64 (k2 : Int))] [(r, .cells (KH zs ++ sp).toArray 48 (0, 0))] _ _ _; refine Jq 5 rfl ?_; refine LR rfl (JQ rfl rfl) ?_; refine JM 3 rfl ?_; refine cD (fun h19 => ?_) fun h19 => ?_
     refine JP 5 rfl ?_
     have hsegz := hseg zs hz
     obtain ⟨x, hx, hmx⟩ := Q4 (show k + k2 - 1 < zs.length by omega)
     obtain ⟨y, hy, hmy⟩ := Q4 (show k + k2 < zs.length by omega)
     refine JJ 12 (by kernel_rfl) (by kernel_rfl) ?_; refine Jb rfl rfl rfl (Jg rfl) ?_; refine Jb rfl rfl rfl (Jg rfl) ?_; refine Jb rfl rfl rfl (Jg rfl) ?_; refine Jb rfl rfl rfl (JF (j := k2) (m := 8) (off' := 0 + (k + k2) * 8) rfl rfl rfl rfl rfl (by omega) (by omega)) ?_; refine Jb rfl rfl rfl (JZ (p := some (⟨r, 0, none⟩, cap)) AcL.len (fun q hq => Or.inl hq) rfl hsegz hy rfl rfl) ?_; refine Jb rfl rfl rfl (Jg rfl) ?_; refine Jb rfl rfl rfl (Jg rfl) ?_; refine Jb rfl rfl rfl (Jv rfl rfl rfl) ?_; refine Vw (by omega) (by omega) ?_; refine Qa (show _ = Value.int .i64 ((k2 - 1 : Nat) : Int) from by congr 1; omega) ?_; refine Jb rfl rfl rfl (JF (j := k2 - 1) (m := 8) (off' := 0 + (k + k2 - 1) * 8) rfl rfl rfl rfl rfl (by omega) (by omega)) ?_; refine Jb rfl rfl rfl (JZ (p := some (⟨r, 0, none⟩, cap)) AcL.len (fun q hq => Or.inl hq) rfl hsegz hx rfl rfl) ?_; refine V7 rfl rfl rfl eg ((hg y x).toR) oR ?_; refine Jb rfl rfl rfl (Jv rfl rfl rfl) ?_; refine JW ?_; refine JM 2 rfl ?_; refine cD (fun h22 => ?_) fun h22 => ?_
     refine Jq 6 rfl ?_; refine LR rfl (JF (j := k2) (m := 8) (off' := 0 + (k + k2) * 8) rfl rfl rfl rfl rfl (by omega) (by omega)) ?_; refine LR rfl (JZ (p := some (⟨r, 0, none⟩, cap)) AcL.len (fun q hq => Or.inl hq) rfl hsegz hy rfl rfl) ?_; refine LR rfl (JF (j := i) (m := 8) (off' := i * 8) rfl rfl rfl rfl rfl (by omega) (by omega)) ?_; refine Qz (k := 0) (n := 8) (vs := (AcL.cells y).toArray) (cs' := ((zs.set i y).flatMap AcL.cells ++ sp).toArray) rfl rfl rfl rfl rfl rfl (AcL.one y) (by simp only [List.size_toArray, List.length_append, KH, Ke AcL.len]; omega) (by apply Array.toList_inj.1; simp only [List.toList_toArray]; exact zO AcL.len (show i < zs.length by omega) y sp) rfl ?_; refine JG 5 rfl ?_; refine Jc (by omega) (by omega) ?_; refine JG 7 rfl ?_; refine Jc (by omega) (by omega) ?_; refine Jy 2 rfl ?_; refine Jw ?_; exact Jt (k2 + 1, i + 1, zs.set i y) ⟨by simp only [List.length_set]; exact hz, ⟨by simp only; omega, by simp only; omega⟩, by simp only; omega⟩ (by simp only; omega) (lK rfl) (List.Sublist.refl _) (fun _ _ h => h)
     refine Jq 6 rfl ?_; refine Jc (by omega) (by omega) ?_; refine Jy 2 rfl ?_; refine Jw ?_; exact Jt (k2 + 1, i, zs) ⟨hz, ⟨by simp only; omega, by simp only; omega⟩, by simp only; omega⟩ (by simp only; omega) (lK rfl) (List.Sublist.refl _) (fun _ _ h => h)
     ·refine Jq 9 rfl ?_; refine LR rfl (JL (sz := 8) (m := i) (kl := some i) (kh := none) (km := none) (q := xs.length) (z := cap) (off' := i * 8) rfl rfl rfl ⟨_, rfl⟩ trivial trivial rfl rfl rfl (by omega) (by omega) (by omega) (fun _ => rfl) (by rw [if_neg (by omega)]; omega)) ?_; refine yr (k := 0) (sz := 8) rfl rfl rfl rfl rfl rfl rfl (by decide) (by simp only [List.size_toArray, List.length_append, KH, Ke AcL.len]; omega) rfl rfl ?_; refine JG 6 rfl ?_
      refine LR rfl (JL (sz := 8) (q := i) (kl := none) (kh := some i) (km := none) (m := 0) (z := cap) (off' := 0) rfl rfl rfl trivial ⟨_, rfl⟩ trivial rfl rfl rfl (by omega) (by omega) (by omega) (fun h => by cases h) (by split <;> omega)) ?_; refine Jy 9 rfl ?_; refine pT rfl rfl rfl fun w1 hs1 => ?_; exact ⟨⟨(some ⟨r, 0, none⟩, i, cap), ⟨⟨fun _ => hadj, fun _ => by simp only; omega⟩, by simp only; omega⟩⟩, rfl, hs1.weakL (List.nil_sublist _)⟩
    refine Jq 6 rfl ?_; refine Jc (by omega) (by omega) ?_; refine Jy 2 rfl ?_; refine Jw ?_
    exact Jt (k + 1) ⟨⟨by omega, by omega⟩, fun i a hi h1 h2 => by
     rcases Nat.lt_or_ge (i + 1) k with hq | hq
     exact hinv i a hq h1 h2
     obtain rfl : i = k - 1 := by omega
     rw [show k - 1 + 1 = k by omega] at h2
     have e1 := Option.some.inj ((qW hx).symm.trans h1)
     have e2 := Option.some.inj ((qW hy).symm.trans h2)
     have e3 : y.addr = x.addr := e2.trans e1.symm
     simp_all⟩ (by omega) (lK rfl) (List.Sublist.refl _) (fun _ _ h => h)
   ·refine Km 12 rfl ?_; refine pT rfl rfl rfl fun w1 hs1 => ?_; exact ⟨⟨(some ⟨r, 0, none⟩, xs.length, cap), wt (Jfk fun i a h1 h2 => hinv i a (by have := (List.getElem?_eq_some_iff.1 h2).1; rw [List.length_map] at this; omega) h1 h2) none 0⟩, rfl, hs1.weakL (List.nil_sublist _)⟩
def acI (xs : List AcL) (i : Nat) : AcL := xs.getD i ac0L
theorem Jil {xs : List AcL} {i : Nat} (h : i < xs.length) : xs[i]? = some (acI xs i) ∧ acI xs i ∈ xs := by
 unfold acI
 rw [List.getD_eq_getElem?_getD, List.getElem?_eq_getElem h]; exact ⟨rfl, List.getElem_mem h⟩
def xR (r n : Nat) (p : Pl) : Nat × Obj := (r, .cells #[Kz n p] 30 (0, 0))
theorem Jp7 (n : Nat) (p : Pl) : PureE (α := Nat) Tryz.prog 74 [Kz n p].toArray (fun r => .func (.func 125) #[] #[.pointer (some ⟨r, 0, none⟩)]) (fun r => [xR r n p]) := by
 refine JX Tryz.func74 rfl rfl fun w => ?_; refine JB ?_; refine Jq 2 rfl ?_; refine LN rfl fun r1 => ?_; refine JG 5 rfl ?_; refine LR rfl (JD rfl rfl) ?_; refine Jy 4 rfl ?_; refine pT rfl rfl rfl fun w1 hs1 => ?_; exact ⟨_, rfl, hs1⟩
theorem Jp8 {R : Ji} {xs : List AcL} {p : Pl} (hl : xs.length ≤ 9223372036854775807) (hs : Seg R xs.length (KH xs) p) (rv : Nat) :
    ZL Tryz.prog 125 [.pointer (some ⟨rv, 0, none⟩)] (xR rv xs.length p :: R) 0 (nxN (fun i => [vA (acI xs i)]) xs.length) (wD xs.length) := by
  have hs := hs.mono (R' := xR rv xs.length p :: R) fun q hq => List.mem_cons_of_mem _ hq
  refine QT Tryz.func125 rfl rfl fun q xids w2 XI XF hY => ?_; refine JB ?_; refine Jq 2 rfl ?_; refine LR rfl (Jd rfl (Jx (k := 0) rfl) rfl rfl) ?_; refine LR rfl (J0 rfl hs rfl) ?_; refine JM 4 rfl ?_; refine Jz (σ := Nat) (fun i => i ≤ xs.length) (fun i => [(0, .func (.yield q) #[] #[]), (1, .pointer (some ⟨rv, 0, none⟩)), (5, Kz xs.length p), (6, .int .i64 (xs.length : Int)), (7, .int .i64 (i : Int))]) (fun _ => []) (fun i => XI i) (fun i => xs.length - i) 0 (Nat.zero_le _) (lK rfl) (List.nil_sublist _) (fun _ _ h => h) ?_; intro i hi; refine JP 6 rfl ?_; refine cD (fun g => ?_) fun g => ?_
  · refine JP 5 rfl ?_
    have hil : i < xs.length := by omega
    have hix := Jil hil
    refine Jq 1 rfl ?_
    refine LR rfl (Jr (j := i) rfl hs rfl rfl rfl (by first | rfl | omega) (by omega)) ?_; refine LR rfl (JZ AcL.len oR rfl hs hix.1 rfl rfl) ?_; refine LN rfl fun r1 => ?_; refine Jk (k := 0) (n := 8) (ys := AcL.cells (acI xs i)) rfl rfl rfl rfl rfl rfl rfl rfl rfl ?_; refine JG 5 rfl ?_; refine LR rfl (Jf (xs := AcL.cells (acI xs i)) (n := 8) rfl (kn 0 rfl) rfl rfl rfl) ?_; refine Vk (XT := XI (i + 1)) (XF := XF) rfl rfl rfl rfl (hY i [vA (acI xs i)] (i + 1) ⟨hil, rfl, rfl⟩) ?_ ?_
    all_goals (
     refine Jy 2 rfl (Zr 1 rfl ?_); refine J1 rfl (fun g => ?_) (fun g => ?_)
     · try exact Bool.noConfusion g
       all_goals try simp only [ZZ] at g
       all_goals (
        refine Km 5 rfl ?_; refine Jh rfl rfl .nil (fun w1 hs1 => ?_)
        obtain ⟨xs1, hx1⟩ := hs1.now
        exact ⟨⟨_, rfl⟩, hs1.keep, .inr ⟨_, hx1⟩⟩
        skip)
     · try exact Bool.noConfusion g
       all_goals try simp only [ZZ] at g
       all_goals (
        refine Jq 5 rfl ?_; refine Jc (by omega) (by omega) ?_; refine Jy 2 rfl ?_; refine Jw ?_; exact Jt (i + 1) (by omega) (by omega) (lK rfl) (List.nil_sublist _) (fun _ _ h => h)
        skip)
     skip)
  · refine Km 4 rfl ?_; refine Kj rfl rfl .nil (fun w1 hs1 => ?_)
    obtain ⟨xs1, hx1⟩ := hs1.now
    exact ⟨⟨_, rfl⟩, hs1.keep, .inl ⟨i, _, (by show i = xs.length; omega), hx1⟩⟩
theorem Jdh {xs : List AcL} {i : Nat} (h : i < xs.length) : KH (xs.take i) ++ (AcL.cells (acI xs i)) = KH (xs.take (i + 1)) := by
 rw [List.take_add_one, (Jil h).1]
 simp [KH, List.flatMap_append]
theorem Jp9 {R : Ji} {xs : List AcL} {g : FuncId} {caps : List Value} (hl : xs.length ≤ 1000) (eg : Enters Tryz.prog g) (hit : ZL Tryz.prog g caps R 0 (nxN (fun i => [vA (acI xs i)]) xs.length) (wD xs.length)) :
  PureT (α := { row : QK // rowOk 8 xs.length (KH xs) row }) Tryz.prog 194 [.slice none 0 0, .func (.func g) #[] caps.toArray].toArray (fun x => J9 xs.length x.1) [] (fun x => JH 48 (KH xs) x.1) R := by
 refine Ju Tryz.func194 rfl rfl fun w => ?_; refine JB ?_; refine Jq 2 rfl ?_; refine LN rfl fun r1 => ?_; refine JM 10 rfl ?_; refine VH (τ := Unit) (fun i (s : Nat × QK) => i = s.1 ∧ i ≤ xs.length ∧ rowOk 8 i (KH (xs.take i)) s.2) (fun s => (r1, .cells #[J9 s.1 s.2] 30 (0, 0)) :: JH 48 (KH (xs.take s.1)) s.2) (fun _ _ => False) (fun _ => []) [] (0, none) rfl rfl eg hit (by rintro _ _ _ ⟨_, rfl, _⟩; rfl) rfl oR rfl ⟨rfl, Nat.zero_le _, ⟨rfl, rfl⟩⟩ ?_ ?_ ?_
 rintro q Xr Xb w3 i _ _ ⟨_, row⟩ ⟨hii, rfl, rfl⟩ ⟨rfl, him, hrow⟩ Kr hKr; refine inR ?_
 simp only at hKr ⊢; refine Jq 1 rfl ?_; refine LN rfl fun r2 => ?_; refine Jk (k := 0) (n := 8) (ys := AcL.cells (acI xs i)) rfl rfl rfl rfl rfl rfl rfl rfl rfl ?_; refine Jy 1 rfl ?_; refine hKr _ _ ?_; refine JB ?_; clear hKr; refine Jq 2 rfl ?_; refine LR rfl (Jd rfl (kn 1 rfl) rfl rfl) ?_; refine LR rfl (Jf (xs := AcL.cells (acI xs i)) (n := 8) rfl (kn 0 rfl) rfl rfl rfl) ?_; refine JK (n := 1) (sz := 8) (vs := [_]) (zs := [_, _, _, _, _, _, _, _]) (r := AcL.cells (acI xs i)) rfl rfl rfl rfl rfl rfl rfl rfl rfl (by rw [Kh]; exact rfl) rfl fun r3 => ?_; refine Kq (L0 := [_, _, _]) (xs := KH (xs.take i)) (row := row) (n := i) (sz := 8) (b := 96) (news := AcL.cells (acI xs i)) (List.perm_append_comm (l₁ := [_, _, _])) rfl rfl rfl rfl (kn 0 rfl) rfl rfl rfl rfl rfl (by decide) rfl rfl rfl (by decide) hrow (by omega) (by omega) fun ra cap sp hra => ?_
 refine LT 3 rfl rfl ?_; refine Jy 2 rfl ?_; refine Qm [3, 0] (L' := [_, _]) (by decide) rfl ?_; refine Kt (i + 1, some (ra, cap, sp)) ⟨rfl, by omega, by rw [Jdh hii] at hra; exact hra⟩ ?_; simp only [JH, J9, Jdh hii]
 rintro D i ⟨_, row⟩ hfi ⟨rfl, him, hrow⟩
 simp only at hrow ⊢
 have hfi : i = xs.length := hfi
 subst hfi; rw [List.take_length] at hrow ⊢; refine Gqq 9 [1] rfl rfl ?_; refine KM (k := 0) rfl rfl ?_; refine pT rfl rfl rfl fun w1 hs1 => ?_; exact ⟨⟨row, hrow⟩, rfl, hs1.weakL (by simp only [List.set_cons_zero, List.append_nil]; exact List.sublist_append_right [_, _] _)⟩
 ·exact fun _ _ _ h => h.elim
theorem Jkp {R : Ji} {xs : List AcL} {g : FuncId} {caps : List Value} (hl : xs.length ≤ 1000) (eg : Enters Tryz.prog g) (hit : ZL Tryz.prog g caps R 0 (nxN (fun i => [vA (acI xs i)]) xs.length) (wD xs.length)) :
  PureT (α := { row : QK // rowOk 8 xs.length (KH xs) row }) Tryz.prog 123 [.func (.func g) #[] caps.toArray].toArray (fun x => J9 xs.length x.1) [] (fun x => JH 48 (KH xs) x.1) R := by
 refine Ju Tryz.func123 rfl rfl fun w => ?_; refine JB ?_; refine Jq 8 rfl ?_; refine Kl rfl rfl rfl (enters_of Tryz.func194 (by kernel_rfl) rfl) (Jp9 hl eg hit) oR fun x => ?_; refine Jy 4 rfl ?_; refine pT rfl rfl rfl fun w1 hs1 => ?_; exact ⟨x, rfl, hs1.weakL (List.sublist_append_left _ _)⟩
end Go.Proofs.YtfaagelglpgpkaaGreatDoor
namespace Go.Proofs
open Go.Shelf
def Tryz.laysSortA_ren : Go.Shelf.Ren := ⟨fun | 6 => 124 | 15 => 174 | 14 => 195 | 28 => 234 | 29 => 235 | 20 => 248 | 21 => 249 | 22 => 250 | 23 => 251 | 24 => 252 | 25 => 253 | 26 => 254 | 27 => 255 | 46 => 319 | 47 => 308 | 48 => 309 | 49 => 320 | 50 => 321 | 57 => 349 | n => n, fun | 22 => 30 | 24 => 48 | 25 => 125 | 3 => 3 | 39 => 188 | 0 => 0 | 53 => 261 | 55 => 25 | 4 => 4 | 46 => 254 | 45 => 253 | 50 => 258 | 5 => 5 | 9 => 9 | 66 => 293 | 70 => 297 | 76 => 327 | 77 => 328 | n => n, fun | n => n⟩
theorem Tryz.laysSortA : Go.Proofs.SlLaysF0.n6 Tryz.prog Tryz.laysSortA_ren := {
 mixed := by kernel_rfl
 f6 := ⟨Tryz.f124.name, by decide, Tryz.func124.trans (congrArg some (by kernel_rfl))⟩
 f14 := ⟨Tryz.f195.name, by decide, Tryz.func195.trans (congrArg some (by kernel_rfl))⟩
 f15 := Tryz.func174.trans (congrArg some (by kernel_rfl))
 f20 := ⟨Tryz.f248.name, by decide, Tryz.func248.trans (congrArg some (by kernel_rfl))⟩
 f21 := ⟨Tryz.f249.name, by decide, Tryz.func249.trans (congrArg some (by kernel_rfl))⟩
 f22 := ⟨Tryz.f250.name, by decide, Tryz.func250.trans (congrArg some (by kernel_rfl))⟩
 f23 := ⟨Tryz.f251.name, by decide, Tryz.func251.trans (congrArg some (by kernel_rfl))⟩
 f24 := ⟨Tryz.f252.name, by decide, Tryz.func252.trans (congrArg some (by kernel_rfl))⟩
 f25 := ⟨Tryz.f253.name, by decide, Tryz.func253.trans (congrArg some (by kernel_rfl))⟩
 f26 := ⟨Tryz.f254.name, by decide, Tryz.func254.trans (congrArg some (by kernel_rfl))⟩
 f27 := ⟨Tryz.f255.name, by decide, Tryz.func255.trans (congrArg some (by kernel_rfl))⟩
 f28 := Tryz.func234.trans (congrArg some (by kernel_rfl))
 f29 := Tryz.func235.trans (congrArg some (by kernel_rfl))
 f46 := ⟨Tryz.f319.name, by decide, Tryz.func319.trans (congrArg some (by kernel_rfl))⟩
 f47 := Tryz.func308.trans (congrArg some (by kernel_rfl))
 f48 := Tryz.func309.trans (congrArg some (by kernel_rfl))
 f49 := ⟨Tryz.f320.name, by decide, Tryz.func320.trans (congrArg some (by kernel_rfl))⟩
 f50 := ⟨Tryz.f321.name, by decide, Tryz.func321.trans (congrArg some (by kernel_rfl))⟩
 f57 := ⟨Tryz.f349.name, by decide, Tryz.func349.trans (congrArg some (by kernel_rfl))⟩
 t0 := Tryz.underlying0
 a0 := Tryz.isAgg0
 z0 := Tryz.sizeOf0
 v0 := Tryz.zeroValue0
 t3 := Tryz.underlying3
 a3 := Tryz.isAgg3
 z3 := Tryz.sizeOf3
 v3 := Tryz.zeroValue3
 t4 := Tryz.underlying4
 a4 := Tryz.isAgg4
 z4 := Tryz.sizeOf4
 v4 := Tryz.zeroValue4
 t5 := Tryz.underlying5
 a5 := Tryz.isAgg5
 z5 := Tryz.sizeOf5
 v5 := Tryz.zeroValue5
 t9 := Tryz.underlying9
 a9 := Tryz.isAgg9
 z9 := Tryz.sizeOf9
 v9 := Tryz.zeroValue9
 t22 := Tryz.underlying30
 a22 := Tryz.isAgg30
 z22 := Tryz.sizeOf30
 v22 := Tryz.zeroValue30
 t25 := Tryz.underlying125
 a25 := Tryz.isAgg125
 z25 := Tryz.sizeOf125
 v25 := Tryz.zeroValue125
 t39 := Tryz.underlying188
 a39 := Tryz.isAgg188
 z39 := Tryz.sizeOf188
 v39 := Tryz.zeroValue188
 t45 := Tryz.underlying253
 a45 := Tryz.isAgg253
 z45 := Tryz.sizeOf253
 v45 := Tryz.zeroValue253
 t46 := Tryz.underlying254
 a46 := Tryz.isAgg254
 z46 := Tryz.sizeOf254
 v46 := Tryz.zeroValue254
 t50 := Tryz.underlying258
 a50 := Tryz.isAgg258
 z50 := Tryz.sizeOf258
 v50 := Tryz.zeroValue258
 t53 := Tryz.underlying261
 a53 := Tryz.isAgg261
 z53 := Tryz.sizeOf261
 v53 := Tryz.zeroValue261
 t55 := Tryz.underlying25
 a55 := Tryz.isAgg25
 z55 := Tryz.sizeOf25
 v55 := Tryz.zeroValue25
 t66 := Tryz.underlying293
 a66 := Tryz.isAgg293
 z66 := Tryz.sizeOf293
 v66 := Tryz.zeroValue293
 t70 := Tryz.underlying297
 a70 := Tryz.isAgg297
 z70 := Tryz.sizeOf297
 v70 := Tryz.zeroValue297
 t76 := Tryz.underlying327
 a76 := Tryz.isAgg327
 z76 := Tryz.sizeOf327
 v76 := Tryz.zeroValue327
 t77 := Tryz.underlying328
 a77 := Tryz.isAgg328
 z77 := Tryz.sizeOf328
 v77 := Tryz.zeroValue328 }
end Go.Proofs
namespace Go.Proofs.YtfaagelglpgpkaaGreatDoor
set_option linter.all false
open Go.SL Go.RowKit Go.Shelf
open Go.Proofs
theorem Jqa (a : ByteArray) (W : World) : Calls Tryz.prog 126 #[.string a] W fun e w' => e = .returned (.bool false) ∧ w' = W := by
 go_enter Tryz.func126, Tryz.ntmps126
 go_wp2
 go_ret
 exact ⟨by simp, rfl⟩
theorem Jur (a b : BS) (t : TypeId) (w : World) : (binOp .gtr t (.string (bs a)) (.string (bs b))).run Tryz.prog w = .ok (.bool (Op.bytesLess b a)) w := by
 simp only [binOp, eqGuard, Op.stringOp, Sem.run_bind, VI]
 rw [show Op.bytesLess b a = !(Op.bytesLess a b || a == b) from by
  rcases WP a b with rfl | h | h
  ·rw [V8]; simp
  ·rw [h, W3 h]; rfl
  ·rw [h, W3 h, show (a == b) = false from beq_eq_false_iff_ne.2 (qb h).symm]; rfl]
 rfl
theorem Jfm (a b : BS) (W : World) : Calls Tryz.prog 76 #[.string (bs a), .string (bs b)] W fun e w' => e = .returned (.int .i64 (XK a b)) ∧ w' = W := by
 have h := Jqa
 have hg := Jur
 unfold XK
 go_enter Tryz.func76, Tryz.ntmps76
 go_wp2_with (first | (go_at_call 126; refine (h _ _).mono ?_; rintro e w' ⟨rfl, rfl⟩) | rw [hg])
 all_goals go_ret
 all_goals refine ⟨?_, rfl⟩
 all_goals simp_all [VI]
theorem Jus (x y : AcL) (W : World) : Calls Tryz.prog 75 #[.agg (AcL.cells x).toArray, .agg (AcL.cells y).toArray] W fun e w' => e = .returned (.int .i64 (XK x.addr y.addr)) ∧ ∃ q os', w' = Go.Sort.grow (W.drewN q) os' := by
 have hcon := fun W' => Jfm x.addr y.addr W'
 generalize XK x.addr y.addr = r at hcon ⊢
 obtain ⟨xa, xn, ⟨xb, xc, xd, xe⟩, xo, xs, xp⟩ := x
 obtain ⟨ya, yn, ⟨yb, yc, yd, ye⟩, yo, ys, yp⟩ := y
 simp only [AcL.cells] at hcon ⊢
 go_enter Tryz.func75, Tryz.ntmps75
 go_wp2_with (go_at_call 76; refine (hcon _).mono ?_; rintro e w' ⟨rfl, rfl⟩)
 go_ret
 exact ⟨rfl, 0, _, by rw [Go.Sort.alloc_eq_grow, Go.Sort.alloc_eq_grow, Go.Sort.grow_grow]; rfl⟩
theorem Jdi {w w' : World} {blk n : Nat} {os : Array Obj} {xs ys : List Value} {sp : List Value} {e : TypeId} (hl : ys.length = xs.length) (hw : w' = Go.Sort.grow (Go.Sort.putRow id (Go.Sort.ahead w n) blk 0 ys.toArray) os)
  (hb : w.heap[blk]? = some (.cells (xs ++ sp).toArray e (0, 0))) : Keep [blk] w w' ∧ w'.heap[blk]? = some (.cells (ys ++ sp).toArray e (0, 0)) := by
 have hlt := J5 hb
 have hh : ∀ k, k < w.heap.size → w'.heap[k]? = (w.heap.modify blk (Go.Sort.onCells (Go.Sort.putCells id 0 ys.toArray)))[k]? := fun k hk => by
  subst hw
  show (_ ++ _ : Array Obj)[k]? = _
  rw [Array.getElem?_append_left]
  ·rfl
  ·show k < (Array.modify _ _ _).size
   rw [Array.size_modify]; exact hk
 refine ⟨⟨by subst hw; rfl, by subst hw; rfl, by subst hw; rfl, ?_, fun k hk hn => ?_⟩, ?_⟩
 ·subst hw
  show _ ≤ (_ ++ _ : Array Obj).size
  rw [Array.size_append]
  show _ ≤ (Array.modify _ _ _).size + _
  rw [Array.size_modify]; exact Nat.le_add_right _ _
 ·rw [hh k hk, Array.getElem?_modify, if_neg]
  intro e; exact hn (by simp [e])
 ·rw [hh blk hlt, Array.getElem?_modify, if_pos rfl, hb]
  simp only [Option.map_some, Go.Sort.onCells, Option.some.injEq, Obj.cells.injEq, and_true]
  apply Array.toList_inj.1
  apply List.ext_getElem?
  intro j; simp only [Go.Sort.putCells, Nat.zero_le, true_and, Nat.zero_add, List.size_toArray, Nat.sub_zero, Array.toList_mapIdx, List.getElem?_mapIdx]
  by_cases hj : j < ys.length
  ·rw [List.getElem?_append_left (by omega), List.getElem?_append_left hj]
   simp [hj, (by omega : j < xs.length)]
  ·rw [List.getElem?_append_right (by omega), List.getElem?_append_right (by omega)]
   simp only [hl, if_neg (by omega : ¬ j < xs.length)]
   cases sp[j - xs.length]? <;> simp
theorem Jfn {w : World} {blk : Nat} {xs : List Value} {sp : List Value} {e : TypeId} (hb : w.heap[blk]? = some (.cells (xs ++ sp).toArray e (0, 0))) : Go.Sort.Holds id w blk 0 xs.toArray := fun j hj => by
 have hj' : j < xs.length := by simpa using hj
 rw [Nat.zero_add, Vb hb, XC hb (show frB (0, 0) j = false from by simp [frB, Nat.blt, Nat.ble])]; refine ⟨?_, rfl⟩
 simp [hj', List.getElem?_append_left]
instance : Inhabited AcL := ⟨ac0L⟩
theorem Jdj (xs : List AcL) : Go.Sort.flatK AcL.cells 8 xs.toArray = (KH xs).toArray := by
 refine Go.Sort.ext_get! (by rw [Go.Sort.size_flatK]; simp [KH, Ke AcL.len]) fun t ht => ?_; rw [Go.Sort.size_flatK, List.size_toArray] at ht
 have hq : t / 8 < xs.length := by omega
 have hx : xs[t / 8]? = some xs[t / 8] := List.getElem?_eq_getElem hq
 have hr : t % 8 < (AcL.cells xs[t / 8]).length := by rw [AcL.len]; omega
 have h := Jbl (f := AcL.cells) AcL.len hx (List.getElem?_eq_getElem hr)
 rw [show t / 8 * 8 + t % 8 = t by omega] at h; rw [Go.Sort.get_flatK _ _ _ _ (by rw [List.size_toArray]; exact ht)]
 have h2 : (KH xs).toArray[t]? = some (AcL.cells xs[t / 8])[t % 8] := by simpa [KH] using h
 have e1 : ∀ (a : Array Value) (v : Value), a[t]? = some v → a[t]! = v := fun a v h => by rw [Array.getElem!_eq_getD, Array.getD_eq_getD_getElem?, h]; rfl
 rw [e1 _ _ h2]
 simp [hq, hr]
theorem Jqb : Go.Sort.SWO (Go.Proofs.ltOf fun x y : AcL => XK x.addr y.addr) := by
 have h : ∀ x y : AcL, Go.Proofs.ltOf (fun x y : AcL => XK x.addr y.addr) x y = Op.bytesLess x.addr y.addr := fun x y => qO _ _
 refine ⟨fun x => by rw [h]; exact V8 _, fun x y z h1 h2 => by rw [h] at h1 h2 ⊢; exact Q1 h1 h2, fun x y z h1 h2 => ?_⟩; rw [h] at h1 h2 ⊢
 rcases WP x.addr z.addr with e | e | e
 ·rw [e]; exact V8 _
 ·rcases WP x.addr y.addr with f | f | f
  ·rw [f] at e; rw [e] at h2; cases h2
  ·rw [f] at h1; cases h1
  ·have := Q1 f e; rw [this] at h2; cases h2
 ·exact W3 e
def SortR (xs : List AcL) : Type := { ys : List AcL // ys.Perm xs ∧ ∀ (i j : Nat) (x y : AcL), i < j → ys[i]? = some x → ys[j]? = some y → Op.bytesLess y.addr x.addr = false }
theorem Jxv : Pure Tryz.prog 248 [.slice none 0 0, .int .i64 0, .int .i64 0, fV 75].toArray (.tuple #[]) := by
 refine Jl Tryz.func248 rfl rfl fun w => ?_; refine JB ?_; refine Jq 4 rfl ?_; refine Jc (by omega) (by omega) ?_; refine JM 4 rfl ?_; refine Jz (σ := Unit) (fun _ => True) (fun _ => [(2, .int .i64 0), (8, .int .i64 1)]) (fun _ => []) (fun _ _ _ => True) (fun _ => 0) () trivial (lK rfl) (List.nil_sublist _) (fun _ _ h => h) ?_; rintro ⟨⟩ -; refine JP 8 rfl ?_; refine J1 rfl (fun h4 => ?_) (fun h4 => ?_)
 exact absurd h4 (by decide)
 ·try simp only [ZZ] at h4
  refine Km 4 rfl ?_; refine Kj rfl rfl .nil (fun w1 hs1 => ?_); exact ⟨rfl, hs1.keep⟩
theorem Jxw : Pure Tryz.prog 195 [.slice none 0 0, .int .i64 0, .int .i64 0, .int .i64 0, fV 75].toArray (.tuple #[]) := by
 refine Jl Tryz.func195 rfl rfl fun w => ?_; refine JB ?_; refine JP 11 rfl ?_; refine Jz (σ := Unit) (fun _ => True) (fun _ => [(0, .slice none 0 0), (1, .int .i64 0), (2, .int .i64 0), (4, fV 75)]) (fun _ => []) (fun _ _ _ => True) (fun _ => 0) () trivial (lK rfl) (List.nil_sublist _) (fun _ _ h => h) ?_; rintro ⟨⟩ -; refine Jq 6 rfl ?_; refine Jc (by omega) (by omega) ?_; refine JM 10 rfl ?_; refine J1 rfl (fun h6 => ?_) (fun h6 => ?_)
 try simp only [ZZ] at h6
 refine Jq 6 rfl ?_; refine Jo rfl rfl rfl (enters_of Tryz.func248 (by kernel_rfl) rfl) Jxv ?_; refine Jy 7 rfl ?_; refine Jh rfl rfl .nil (fun w1 hs1 => ?_); exact ⟨rfl, hs1.keep⟩
 ·exact absurd h6 (by decide)
theorem P_sortA_nil : Pure Tryz.prog 124 [.slice none 0 0, fV 75].toArray (.tuple #[]) := by
 refine Jl Tryz.func124 rfl rfl fun w => ?_; refine JB ?_; refine Jq 3 rfl ?_; refine LR rfl (JQ rfl rfl) ?_; refine JG 8 rfl ?_; refine VW (by omega) (by omega) ?_; refine Jo rfl rfl rfl (enters_of Tryz.func174 (by kernel_rfl) rfl) wp ?_; refine QI rfl (Jo rfl rfl rfl (enters_of Tryz.func195 (by kernel_rfl) rfl) Jxw (Jy 1 rfl ?_)); refine Kj rfl rfl .nil (fun w1 hs1 => ?_); exact ⟨rfl, hs1.keep⟩
theorem Jut {R : Ji} {xs : List AcL} {row : QK} (hl : xs.length ≤ 1000) (hrow : rowOk 8 xs.length (KH xs) row) :
  PureT (α := SortR xs) Tryz.prog 124 [J9 xs.length row, fV 75].toArray (fun _ => .tuple #[]) (JH 48 (KH xs) row) (fun ys => JH 48 (KH ys.1) row) R := by
 cases row with
 | none =>
  have h0 : xs = [] := by
   have := hrow.1
   exact List.eq_nil_of_length_eq_zero (by simpa using this)
  subst h0; exact P_sortA_nil.toR.toT.map (fun _ => ⟨[], List.Perm.refl _, fun i j x y _ h => by simp at h⟩) (fun _ => rfl) (fun _ => List.Sublist.refl _)
 | some p =>
  obtain ⟨r, cap, sp⟩ := p
  obtain ⟨hr1, hr2⟩ := hrow
  refine ⟨fun w hT hR hd hne => ?_⟩
  have hb : w.heap[r]? = some (.cells (KH xs ++ sp).toArray 48 (0, 0)) := hT _ List.mem_cons_self
  have hH : Go.Sort.HoldsK AcL.cells 8 w r 0 xs.toArray := by
   unfold Go.Sort.HoldsK
   rw [Jdj]; exact Jfn hb
  have eg : ∀ args w, (callFunc 75 args).run Tryz.prog w = .ok (.enter 75 args) w := enters_of Tryz.func75 (by kernel_rfl) rfl
  have hcon := AnyQ.slices_SortFunc Tryz.laysSortA 8 Tryz.isAgg48 Tryz.sizeOf48 AcL.cells AcL.len (fun x v hv => by simp [AcL.cells] at hv; rcases hv with rfl | rfl | rfl | rfl | rfl | rfl | rfl | rfl <;> rfl) (fun x y => XK x.addr y.addr) Jqb 75 #[] r 0 cap xs.toArray w eg (fun _ _ _ _ x y => Jus x y _) hH (J5 hb) (by rw [List.size_toArray]; omega)
  change Calls Tryz.prog 124 #[.slice (some ⟨r, 0, none⟩) xs.length cap, fV 75] w _ at hcon; refine hcon.mono ?_; rintro e w' ⟨rfl, d', n, os, ⟨hp1, _, hp3⟩, hso, hw⟩
  have hsz : d'.toList.length = xs.length := by rw [Array.length_toList, hp1, List.size_toArray]
  have hfl : Go.Sort.flatK AcL.cells 8 d' = (KH d'.toList).toArray := Jdj d'.toList
  have hw2 : w' = Go.Sort.grow (Go.Sort.putRow id (Go.Sort.ahead w n) r 0 (KH d'.toList).toArray) os := by rw [hw, ← hfl]; rfl
  obtain ⟨h1, h2⟩ := Jdi (ys := KH d'.toList) (by simp only [KH, Ke AcL.len, hsz]) hw2 hb
  have hperm : d'.toList.Perm xs := by
   rw [List.size_toArray] at hp3
   have e1 : (d'.extract 0 xs.length).toList = d'.toList := by rw [Array.toList_extract]; simp [← hsz]; exact List.take_of_length_le (by simp)
   have e2 : (xs.toArray.extract 0 xs.length).toList = xs := by rw [Array.toList_extract]; simp
   rw [e1, e2] at hp3; exact hp3
  have hs : ∀ (i j : Nat) (x y : AcL), i < j → d'.toList[i]? = some x → d'.toList[j]? = some y → Op.bytesLess y.addr x.addr = false := fun i j x y hij hx hy => by
   have hj := (List.getElem?_eq_some_iff.1 hy).1
   have h := hso i j (Nat.zero_le _) hij (by rw [List.size_toArray]; omega)
   have g : ∀ (k : Nat) (z : AcL), d'.toList[k]? = some z → d'[k]! = z := fun k z hz => by
    have h3 : d'[k]? = some z := by simpa using hz
    rw [Array.getElem!_eq_getD, Array.getD_eq_getD_getElem?, h3]; rfl
   rw [g j y hy, g i x hx] at h
   have h4 : Op.bytesLess y.addr x.addr = decide (XK y.addr x.addr < 0) := (qO _ _).symm
   rw [h4]; exact h
  exact ⟨⟨d'.toList, hperm, hs⟩, rfl, h1, fun p hp => by
   rw [List.mem_singleton.1 hp]; exact ⟨.inl (by simp [JH]), h2⟩, List.pairwise_singleton _ _⟩
theorem Jkq {R : Ji} {xs : List AcL} {g : FuncId} {caps : List Value} (hl : xs.length ≤ 1000) (eg : Enters Tryz.prog g) (hit : ZL Tryz.prog g caps R 0 (nxN (fun i => [vA (acI xs i)]) xs.length) (wD xs.length)) :
  PureT (α := { y : SortR xs × QK // rowOk 8 xs.length (KH y.1.1) y.2 }) Tryz.prog 73 [.func (.func g) #[] caps.toArray, fV 75].toArray (fun y => J9 xs.length y.1.2) [] (fun y => JH 48 (KH y.1.1.1) y.1.2) R := by
 refine Ju Tryz.func73 rfl rfl fun w => ?_; refine JB ?_; refine Jq 8 rfl ?_; refine Kl rfl rfl rfl (enters_of Tryz.func123 (by kernel_rfl) rfl) (Jkp hl eg hit) oR fun x => ?_
 obtain ⟨row, hrow⟩ := x
 refine JG 7 rfl ?_; refine Qk (T := JH 48 (KH xs) row) (L0 := []) (Rl := []) (List.Perm.refl _) rfl rfl rfl (enters_of Tryz.func124 (by kernel_rfl) rfl) (Jut hl hrow) oN fun ys => ?_; refine Jy 9 rfl ?_; refine pT rfl rfl rfl fun w1 hs1 => ?_; exact ⟨⟨(ys, row), hrow.same (by rw [KH, KH, Ke AcL.len, Ke AcL.len, ys.2.1.length_eq])⟩, rfl, hs1.weakL (List.sublist_append_left _ _)⟩
def wkC (g : GenL) (n : Nat) (p : Pl) (f : Int) : List Value := [Kz g.ts.length g.tp, uV g.time, uV g.rc.number, uV g.rc.time, uV g.rc.base.a, uV g.rc.base.b, uV g.rc.base.c, uV g.rc.base.d, uV g.rc.blob.a, uV g.rc.blob.b, uV g.rc.blob.c, uV g.rc.blob.d, uV g.rc.overhead.a, uV g.rc.overhead.b, uV g.rc.overhead.c, uV g.rc.overhead.d, uV g.rc.scalar, uV g.rc.extra, uV g.rc.operator, Kz g.accts.length g.ap, Kz n p, .int .i64 f]
def wP (W : Nat) (g : GenL) (n : Nat) (p : Pl) (f : Int) : Nat × Obj := (W, .cells (wkC g n p f).toArray 70 (0, 0))
def rpB (rp W : Nat) : Nat × Obj := (rp, .cells #[Qf W 0] 68 (0, 0))
theorem Juu {R : Ji} {g : GenL} (hg : g.In R) (rp W n : Nat) (p : Pl) (f : Int) : PureT (α := Unit) Tryz.prog 70 [Qf rp 0].toArray (fun _ => .int .i64 (QN g.ts g.time).2) [wP W g n p f] (fun _ => [wP W g n p (QN g.ts g.time).1]) (rpB rp W :: R) := by
 have hA := (Jp4 hg.tlen hg.tseg g.time).mono (R' := rpB rp W :: R) fun q hq => List.mem_cons_of_mem _ hq
 refine Ju Tryz.func70 rfl rfl fun w => ?_; refine JB ?_; refine JP 6 rfl ?_
 refine JN [] [(0, .pure), (1, .pure), (2, .pure), (3, .pure), (4, .pure), (6, .pure), (7, .pure), (8, .pure), (9, .pure), (12, .pure), (13, .pure), (14, .pure), (15, .pure), (16, .pure), (17, .turn), (18, .pure)] 19 [0, 1, 2, 3, 4, 5, 6, 7, 8, 9, 10, 11, 12, 13, 14, 15, 16, 17, 18] (by kernel_rfl) (by kernel_rfl) (by first | exact (fun _ h => absurd h List.not_mem_nil) | simp [SubS] | (intro p hp; simp [hp])) ?_; refine Jm (k := 0) rfl rfl rfl rfl rfl (fun _ hS => (Jd rfl (Jx (k := 0) rfl) rfl rfl)) ?_; refine Jm (k := 1) rfl rfl rfl rfl rfl (fun _ hS => (Jd rfl (Jx (k := 0) rfl) rfl rfl)) ?_; refine Jm (k := 2) rfl rfl rfl rfl rfl (fun _ hS => (Jv rfl rfl rfl)) ?_
 refine Jm (k := 3) rfl rfl rfl rfl rfl (fun _ hS => (JE rfl rfl rfl)) ?_
 refine Jm (k := 4) rfl rfl rfl rfl rfl (fun _ hS => (JE rfl rfl rfl)) ?_; refine KD (k := 5) rfl rfl rfl rfl rfl (Jp (vs := [_]) rfl (kn 0 rfl) rfl rfl rfl rfl) ?_; refine Jm (k := 6) rfl rfl rfl rfl rfl (fun _ hS => (Jd rfl (Jx (k := 0) rfl) rfl rfl)) ?_; refine Jm (k := 7) rfl rfl rfl rfl rfl (fun _ hS => (Jv rfl rfl rfl)) ?_
 refine Jm (k := 8) rfl rfl rfl rfl rfl (fun _ hS => (JE rfl rfl rfl)) ?_
 refine Jm (k := 9) rfl rfl rfl rfl rfl (fun _ hS => (JE rfl rfl rfl)) ?_; refine KD (k := 10) rfl rfl rfl rfl rfl (Jd rfl (kn 0 rfl) rfl rfl) ?_; refine KT (k := 11) rfl rfl rfl rfl rfl (enters_of Tryz.func71 (by kernel_rfl) rfl) (hA) (fun q hq => .inr hq) ?_; refine Jm (k := 12) rfl rfl rfl rfl rfl (fun _ hS => (Jg rfl)) ?_; refine Jm (k := 13) rfl rfl rfl rfl rfl (fun _ hS => (Kg rfl rfl)) ?_; refine Jm (k := 14) rfl rfl rfl rfl rfl (fun _ hS => (Kg rfl rfl)) ?_; refine Jm (k := 15) rfl rfl rfl rfl rfl (fun _ hS => (Jv rfl rfl rfl)) ?_
 refine Jm (k := 16) rfl rfl rfl rfl rfl (fun _ hS => (JE rfl rfl rfl)) ?_
 refine XG (k := 17) (q := 0) rfl rfl rfl rfl rfl rfl rfl rfl rfl (by first | (simp only [List.setIfInBounds_toArray, List.set_cons_zero, List.set_cons_succ]; exact rfl) | exact rfl) (by first | (simp only [List.set_cons_zero, List.set_cons_succ]; exact rfl) | exact rfl) (by first | exact (fun _ h => absurd h List.not_mem_nil) | simp [SubS] | (intro p hp; simp [hp])) ?_; refine Jm (k := 18) rfl rfl rfl rfl rfl (fun _ hS => (JA rfl)) ?_; refine Kv ?_; refine Jy 9 rfl ?_; refine pT rfl rfl rfl fun w1 hs1 => ?_; exact ⟨(), rfl, hs1⟩
theorem Juv {R : Ji} {g : GenL} (hg : g.In R) {s : StL} (hs : s.In R) (rp W : Nat) (f : Int) : PureT (α := StRes R (QH f s.er g.rc)) Tryz.prog 80 [Qf rp 0].toArray (fun x => .int .i64 x.err) [wP W g s.accts.length s.p f] (fun x => wP W g x.s.accts.length x.s.p f :: x.L) (rpB rp W :: R) := by
 have hw0 := Jua f hs hg.rc
 refine xI Tryz.func80 rfl rfl fun w hR => ?_; refine JB ?_
 obtain ⟨x0⟩ := hw0.ne (fun p hp => hR p (List.mem_cons_of_mem _ hp))
 refine JP 6 rfl ?_
 refine JN [] [(0, .pure), (1, .pure), (2, .pure), (3, .pure), (5, .pure), (6, .pure), (7, .pure), (9, .pure), (10, .pure), (11, .pure), (12, .pure), (14, .grow (KY x0 (fun x => x.val) (fun x => x.L))), (15, .pure), (16, .pure), (17, .pure), (18, .pure), (19, .pure), (20, .turn), (21, .pure)] 22 [0, 1, 2, 3, 4, 5, 6, 7, 8, 9, 10, 11, 12, 13, 14, 15, 16, 17, 18, 19, 20, 21] (by kernel_rfl) (by kernel_rfl) (by first | exact (fun _ h => absurd h List.not_mem_nil) | simp [SubS] | (intro p hp; simp [hp])) ?_; refine Jm (k := 0) rfl rfl rfl rfl rfl (fun _ hS => (Jd rfl (Jx (k := 0) rfl) rfl rfl)) ?_; refine Jm (k := 1) rfl rfl rfl rfl rfl (fun _ hS => (Jd rfl (Jx (k := 0) rfl) rfl rfl)) ?_; refine Jm (k := 2) rfl rfl rfl rfl rfl (fun _ hS => (Jv rfl rfl rfl)) ?_
 refine Jm (k := 3) rfl rfl rfl rfl rfl (fun _ hS => (JE rfl rfl rfl)) ?_; refine KD (k := 4) rfl rfl rfl rfl rfl (Jd rfl (kn 0 rfl) rfl rfl) ?_; refine Jm (k := 5) rfl rfl rfl rfl rfl (fun _ hS => (Jd rfl (Jx (k := 0) rfl) rfl rfl)) ?_; refine Jm (k := 6) rfl rfl rfl rfl rfl (fun _ hS => (Jv rfl rfl rfl)) ?_
 refine Jm (k := 7) rfl rfl rfl rfl rfl (fun _ hS => (JE rfl rfl rfl)) ?_; refine KD (k := 8) rfl rfl rfl rfl rfl (Jp (vs := [_]) rfl (kn 0 rfl) rfl rfl rfl rfl) ?_; refine Jm (k := 9) rfl rfl rfl rfl rfl (fun _ hS => (Jd rfl (Jx (k := 0) rfl) rfl rfl)) ?_; refine Jm (k := 10) rfl rfl rfl rfl rfl (fun _ hS => (Jv rfl rfl rfl)) ?_
 refine Jm (k := 11) rfl rfl rfl rfl rfl (fun _ hS => (JE rfl rfl rfl)) ?_
 refine Jm (k := 12) rfl rfl rfl rfl rfl (fun _ hS => (JE rfl rfl rfl)) ?_; refine KD (k := 13) rfl rfl rfl rfl rfl (Jp (vs := [_, _, _, _, _, _, _, _, _, _, _, _, _, _, _, _, _]) rfl (kn 0 rfl) rfl rfl rfl rfl) ?_; refine KR (k := 14) rfl rfl rfl rfl rfl (enters_of Tryz.func81 (by kernel_rfl) rfl) hw0 (fun q hq => .inr (List.mem_cons_of_mem _ hq)) fun x => ?_; refine Jm (k := 15) rfl rfl rfl rfl rfl (fun _ hS => (Jg rfl)) ?_; refine Jm (k := 16) rfl rfl rfl rfl rfl (fun _ hS => (Kg rfl rfl)) ?_; refine Jm (k := 17) rfl rfl rfl rfl rfl (fun _ hS => (Kg rfl rfl)) ?_; refine Jm (k := 18) rfl rfl rfl rfl rfl (fun _ hS => (Jv rfl rfl rfl)) ?_
 refine Jm (k := 19) rfl rfl rfl rfl rfl (fun _ hS => (JE rfl rfl rfl)) ?_; refine yR (k := 20) (q := x.L.length) (n := 1) (off := 20) (vs := x.s.cells.toArray) (cs := (wkC g s.accts.length s.p f).toArray) (e := 70) (E' := x.L ++ [wP W g x.s.accts.length x.s.p f]) (cs' := (wkC g x.s.accts.length x.s.p f).toArray) rfl rfl rfl rfl List.getElem?_concat_length rfl rfl rfl rfl (by exact Nat.le_of_ble_eq_true rfl) rfl (by simp [wP]) (fun _ h => absurd h List.not_mem_nil) ?_; refine Jm (k := 21) rfl rfl rfl rfl rfl (fun _ hS => (JA rfl)) ?_; refine Kv ?_; refine Jy 9 rfl ?_; refine pT rfl rfl rfl fun w1 hs1 => ?_; exact ⟨x, rfl, hs1.perm (List.perm_append_comm)⟩
section
variable {c : Cx} {l : Kk} {E : Ji} {X : XP} {d : List Deferred} {ops : Array Oper} {rest : List Nat} {k i : Nat} {tb : Zy} {S : Ji} {T : Ji → Act → Prop}
theorem yW {α : Type} {T0 L0 Rl : Ji} {f : Operand} {args : Array Operand} {at_ : Array TypeId} {g : FuncId} {vs : List Value} {V : α → Value} {LL E' : α → Ji} {ty : TypeId} {ps : String} {af : Array Edge} {gd : Option (Nat × Bool)}
  (hp : E.Perm (T0 ++ L0)) (hE : ∀ x, (LL x ++ L0).Perm (E' x)) (hk : W9 ops.toList k = some ⟨some i, .call ⟨.value f, args, at_⟩, ty, ps, af, gd⟩) (hg : JV l ops ⟨some i, .call ⟨.value f, args, at_⟩, ty, ps, af, gd⟩ = some true) (hi : Nat.ble (i + 1) c.n = true) (hA : tb k = .turn) (hca : Kc l f args = some (g, vs)) (eg : Enters c.P g)
  (hpt : PureT c.P g vs.toArray V T0 LL Rl) (hR : ∀ p ∈ Rl, known c L0 p.1 p.2) (hS : ∀ x, SubS S (E' x)) (h : ∀ x, HB c d ((i, V x) :: l) (E' x) X S ops tb rest T) : HB c d l E X S ops tb (k :: rest) T := fun a hf => by
 refine ⟨_, Qv hk, ?_⟩; rw [hA]; refine .inl ⟨α, V, E', ⟨JC hf hg, fun w hs => ?_⟩, fun x => ⟨hS x, h x _ (hf.put (Nat.le_of_ble_eq_true hi))⟩⟩
 have hs := hs.perm hp
 obtain ⟨hd1, _, hd3⟩ := List.pairwise_append.1 hs.distinct
 refine VY hf hca eg ((hpt.run w (fun p hp => (hs.own p (List.mem_append_left _ hp)).2.2) (fun p hp => ?_) hd1 (fun p hp q hq => ?_)).mono fun _ _ ⟨x, he, hk, h1, h2⟩ => ⟨V x, he, x, rfl, (hs.turnT hk h1 h2).perm (hE x)⟩)
 ·exact (hR p hp).elim (fun h => (hs.own _ (List.mem_append_right _ h)).2.2) hs.readR
 ·rcases hR p hp with h | h
  ·exact fun e => hd3 q hq _ h e.symm
  ·rintro e
   obtain ⟨h1, _, h3⟩ := hs.ext _ h
   have h3 := J5 h3
   rcases (hs.own q (List.mem_append_left _ hq)).1 with h4 | h4
   ·exact h1 (e ▸ h4)
   ·simp only at h3 e; omega
theorem Jqc {o : Oper} {v : Value} (hk : W9 ops.toList k = some o) (hg : JV l ops o = some true) (hd : o.dst = some i) (hi : Nat.ble (i + 1) c.n = true) (hA : tb k = .turn) (hr : J4 c d l E X o v) (hS : SubS S E) (h : HB c d ((i, v) :: l) E X S ops tb rest T) : HB c d l E X S ops tb (k :: rest) T := fun a hf => by
 refine ⟨o, Qv hk, ?_⟩; rw [hA]; refine .inl ⟨Unit, fun _ => v, fun _ => E, ⟨JC hf hg, fun w hs => Xh (hr a w hf hs) ⟨(), rfl, hs⟩⟩, fun _ => ⟨hS, ?_⟩⟩; rw [hd]; exact h _ (hf.put (Nat.le_of_ble_eq_true hi))
end
theorem Jqd (xs : List AcL) : Nonempty { row : QK // rowOk 8 xs.length (xs.flatMap AcL.cells) row } := ⟨⟨some (0, xs.length, []), ⟨Ke AcL.len xs, by simp⟩⟩⟩
structure Step2R (g : GenL) : Type where
  ys : SortR g.accts
  row : QK
  ok : rowOk 8 ys.1.length (KH ys.1) row
def Step2R.st {g : GenL} (x : Step2R g) : StL := ⟨x.ys.1, QC x.row⟩
def Step2R.L {g : GenL} (x : Step2R g) : Ji := JH 48 (KH x.ys.1) x.row
def Jfo (ys : List AcL) : Int := if XZ (jv ys) = true then 13 else KS (ys.map AcL.er)
theorem Jdk {R : Ji} {g : GenL} (hg : g.In R) (x : Step2R g) : x.st.In (x.L ++ R) :=
 ⟨by show x.ys.1.length ≤ Ys; rw [x.ys.2.1.length_eq]; exact hg.st.len, (Ku x.ok (by decide)).mono fun q hq => List.mem_append_left _ hq, fun a ha => (hg.st.accts a (x.ys.2.1.mem_iff.1 ha)).mono fun q hq => List.mem_append_right _ hq⟩
theorem Juw {R : Ji} {g : GenL} (hg : g.In R) (hf : g.accts.length ≤ 1000) (rp W n : Nat) (p : Pl) (f : Int) : PureT (α := Step2R g) Tryz.prog 72 [Qf rp 0].toArray (fun x => .int .i64 (Jfo x.ys.1)) [wP W g n p f] (fun x => wP W g x.ys.1.length (QC x.row) f :: x.L) (rpB rp W :: R) := by
 have hseg : Seg (rpB rp W :: R) g.accts.length (KH g.accts) g.ap := hg.st.seg.mono fun q hq => List.mem_cons_of_mem _ hq
 have hg2 : g.In (rpB rp W :: R) := hg.mono fun q hq => List.mem_cons_of_mem _ hq
 have hb : g.accts.length ≤ 9223372036854775807 := by omega
 refine Ju Tryz.func72 rfl rfl fun w => ?_; refine JB ?_; refine JP 6 rfl ?_
 refine JN [] [(0, .pure), (1, .pure), (2, .pure), (3, .pure), (4, .pure), (5, .turn), (6, .grow (KY (0 : Nat) (fun r => Value.func (.func 125) #[] #[.pointer (some ⟨r, 0, none⟩)]) (fun r => [xR r g.accts.length g.ap]))), (7, .turn), (8, .pure), (9, .pure), (10, .pure), (11, .turn)] 12 [0, 1, 2, 3, 4, 5, 6, 7, 8, 9, 10, 11] (by kernel_rfl) (by kernel_rfl) (by first | exact (fun _ h => absurd h List.not_mem_nil) | simp [SubS] | (intro p hp; simp [hp])) ?_; refine Jm (k := 0) rfl rfl rfl rfl rfl (fun _ hS => (Jd rfl (Jx (k := 0) rfl) rfl rfl)) ?_; refine Jm (k := 1) rfl rfl rfl rfl rfl (fun _ hS => (Jd rfl (Jx (k := 0) rfl) rfl rfl)) ?_; refine Jm (k := 2) rfl rfl rfl rfl rfl (fun _ hS => (Jv rfl rfl rfl)) ?_
 refine Jm (k := 3) rfl rfl rfl rfl rfl (fun _ hS => (JE rfl rfl rfl)) ?_
 refine Jm (k := 4) rfl rfl rfl rfl rfl (fun _ hS => (JE rfl rfl rfl)) ?_; refine Jqc (k := 5) rfl rfl rfl rfl rfl (Jd rfl (kn 0 rfl) rfl rfl) (fun _ h => absurd h List.not_mem_nil) ?_; refine WA (k := 6) rfl rfl rfl rfl rfl (enters_of Tryz.func74 (by kernel_rfl) rfl) (Jp7 _ _) fun rv => ?_
 refine yW (k := 7) (α := { y : SortR g.accts × QK // rowOk 8 g.accts.length (KH y.1.1) y.2 }) (V := fun y => J9 g.accts.length y.1.2) (LL := fun y => JH 48 (KH y.1.1.1) y.1.2) (T0 := []) (L0 := [xR rv g.accts.length g.ap, wP W g n p f]) (Rl := xR rv g.accts.length g.ap :: rpB rp W :: R) (E' := fun x => wP W g n p f :: xR rv g.accts.length g.ap :: JH 48 (KH x.1.1.1) x.1.2) (List.Perm.refl _) (fun x => List.perm_append_comm.trans (List.Perm.swap _ _ _)) rfl rfl rfl rfl rfl (enters_of Tryz.func73 (by kernel_rfl) rfl) (Jkq hf (enters_of Tryz.func125 (by kernel_rfl) rfl) (Jp8 hb hseg rv)) (fun q hq => by rcases List.mem_cons.1 hq with rfl | h; exact .inl (List.mem_cons_self ..); exact .inr h) (fun _ _ h => absurd h List.not_mem_nil) fun x => ?_
 obtain ⟨⟨ys, row⟩, hrow⟩ := x
 simp only at hrow ⊢
 have hyl := ys.2.1.length_eq
 rw [← hyl] at hrow; refine Wa (v' := Kz ys.1.length (QC row)) (by rw [← hyl]; exact (Wm _ _ (fun h => by subst h; exact hrow.1)).symm) ?_; refine Jm (k := 8) rfl rfl rfl rfl rfl (fun _ hS => (Jv rfl rfl rfl)) ?_
 refine Jm (k := 9) rfl rfl rfl rfl rfl (fun _ hS => (JE rfl rfl rfl)) ?_
 refine Jm (k := 10) rfl rfl rfl rfl rfl (fun _ hS => (JE rfl rfl rfl)) ?_; refine XG (k := 11) (q := 0) (off := 20) (cs' := (wkC g ys.1.length (QC row) f).toArray) rfl rfl rfl rfl rfl rfl rfl rfl rfl rfl rfl (fun _ h => absurd h List.not_mem_nil) ?_; refine Kv ?_; refine JM 9 rfl ?_
 obtain ⟨x0⟩ := Jqd ys.1
 have hyl2 : ys.1.length ≤ 1000 := by omega
 have hsy : Seg (JH 48 (KH ys.1) row) ys.1.length (ys.1.flatMap AcL.cells) (QC row) := Ku hrow (by decide)
 refine JN (wP W g ys.1.length (QC row) f :: JH 48 (KH ys.1) row) [(0, .pure), (1, .pure), (2, .pure), (3, .pure), (4, .pure), (5, .grow (KY x0 (fun x => J9 ys.1.length x.1) (fun x => JH 48 (ys.1.flatMap AcL.cells) x.1))), (6, .pure), (7, .turn), (8, .pure), (9, .pure), (10, .pure), (11, .pure), (12, .pure), (13, .pure), (14, .pure), (15, .pure)] 16 [0, 1, 2, 3, 4, 6, 9, 10, 11, 12, 13, 14, 5, 7, 8, 15] (by kernel_rfl) (by kernel_rfl) (fun q hq => by rcases List.mem_cons.1 hq with rfl | h; exact List.mem_cons_self ..; exact List.mem_cons_of_mem _ (List.mem_cons_of_mem _ h)) ?_; refine Jm (k := 0) rfl rfl rfl rfl rfl (fun _ hS => (Jd rfl (Jx (k := 0) rfl) rfl rfl)) ?_; refine Jm (k := 1) rfl rfl rfl rfl rfl (fun _ hS => (Jv rfl rfl rfl)) ?_
 refine Jm (k := 2) rfl rfl rfl rfl rfl (fun _ hS => (JE rfl rfl rfl)) ?_
 refine Jm (k := 3) rfl rfl rfl rfl rfl (fun _ hS => (JE rfl rfl rfl)) ?_; refine Jm (k := 4) rfl rfl rfl rfl rfl (fun _ hS => (Jd rfl (.inl (hS _ (Jn (n := 0) rfl))) rfl rfl)) ?_; refine Jm (k := 6) rfl rfl rfl rfl rfl (fun _ hS => (Jg rfl)) ?_; refine Jm (k := 9) rfl rfl rfl rfl rfl (fun _ hS => (Jd rfl (Jx (k := 0) rfl) rfl rfl)) ?_; refine Jm (k := 10) rfl rfl rfl rfl rfl (fun _ hS => (Jv rfl rfl rfl)) ?_
 refine Jm (k := 11) rfl rfl rfl rfl rfl (fun _ hS => (JE rfl rfl rfl)) ?_
 refine Jm (k := 12) rfl rfl rfl rfl rfl (fun _ hS => (JE rfl rfl rfl)) ?_; refine Jm (k := 13) rfl rfl rfl rfl rfl (fun _ hS => (Jd rfl (.inl (hS _ (Jn (n := 0) rfl))) rfl rfl)) ?_; refine Jm (k := 14) rfl rfl rfl rfl rfl (fun _ hS => (JQ rfl rfl)) ?_; refine KR (k := 5) rfl rfl rfl rfl rfl (enters_of Tryz.func79 (by kernel_rfl) rfl) (Jc6 hyl2 hsy) (fun q hq => .inl (List.mem_cons_of_mem _ hq)) fun x2 => ?_
 obtain ⟨row2, hrow2⟩ := x2
 refine yW (k := 7) (α := CompR ys.1) (V := fun q => q.val) (LL := fun _ => []) (T0 := JH 48 (KH ys.1) row2) (Rl := []) (L0 := wP W g ys.1.length (QC row) f :: xR rv g.accts.length g.ap :: JH 48 (KH ys.1) row) (E' := fun _ => wP W g ys.1.length (QC row) f :: xR rv g.accts.length g.ap :: JH 48 (KH ys.1) row) (List.Perm.refl _) (fun x => List.Perm.refl _) rfl rfl rfl rfl rfl (enters_of Tryz.func78 (by kernel_rfl) rfl) (Jko hyl2 hrow2 (enters_of Tryz.func77 (by kernel_rfl) rfl) Jup) oN (fun _ => (fun q hq => by rcases List.mem_cons.1 hq with rfl | h; exact List.mem_cons_self ..; exact List.mem_cons_of_mem _ (List.mem_cons_of_mem _ h))) fun qq => ?_; refine Jm (k := 8) rfl rfl rfl rfl rfl (fun _ hS => (JQ rfl rfl)) ?_; refine Jm (k := 15) rfl rfl rfl rfl rfl (fun _ hS => (Jv rfl rfl rfl)) ?_; refine Kv ?_; refine JM 2 rfl ?_; refine cD (fun h6 => ?_) fun h6 => ?_
 refine Km 7 rfl ?_; refine pT rfl rfl rfl fun w1 hs1 => ?_
 (have ha : XZ (jv ys.1) = true := qq.2.1.1 (by omega)
  exact ⟨⟨ys, row, hrow⟩, by rw [Jfo, if_pos ha]; rfl, hs1.weakL (.cons₂ _ (.cons _ (List.Sublist.refl _)))⟩)
 ·refine JP 3 rfl ?_
  have hst := Jdk hg2 ⟨ys, row, hrow⟩
  refine Jq 1 rfl ?_; refine LR rfl (Jd rfl (Jx (k := 0) rfl) rfl rfl) ?_; refine XB 3 [0] rfl rfl ?_; refine Je rfl rfl rfl Jsh (Zd hst) (fun q hq => (List.mem_append.1 hq).elim (fun h => .inl (List.mem_cons_of_mem _ (List.mem_cons_of_mem _ h))) .inr) ?_; refine Jy 4 rfl ?_; refine pT rfl rfl rfl fun w1 hs1 => ?_
  (have ha : ¬ XZ (jv ys.1) = true := fun ha => by
    have := qq.2.1.2 ha
    omega
   exact ⟨⟨ys, row, hrow⟩, by rw [Jfo, if_neg ha]; rfl, hs1.weakL (.cons₂ _ (.cons _ (List.Sublist.refl _)))⟩)
def leA (x y : AcE) : Bool := !Op.bytesLess y.addr x.addr
def QE (l : List AcE) : List AcE := l.mergeSort leA
theorem Zg (x y z : AcE) (h1 : leA x y = true) (h2 : leA y z = true) : leA x z = true := by
 simp only [leA, Bool.not_eq_true'] at h1 h2 ⊢
 rcases WP x.addr z.addr with e | e | e
 ·rw [e]; exact V8 _
 ·exact W3 e
 ·rcases WP x.addr y.addr with f | f | f
  ·rw [f] at e; rw [e] at h2; cases h2
  ·have := Q1 e f; rw [this] at h2; cases h2
  ·rw [f] at h1; cases h1
theorem Zh (x y : AcE) : (leA x y || leA y x) = true := by
 simp only [leA]
 rcases WP x.addr y.addr with e | e | e
 ·rw [e, V8]; rfl
 ·rw [W3 e]; rfl
 ·rw [W3 e]; simp
theorem jw {x y : AcE} (h1 : leA x y = true) (h2 : leA y x = true) : x.addr = y.addr := by
 simp only [leA, Bool.not_eq_true'] at h1 h2
 rcases WP x.addr y.addr with e | e | e
 ·exact e
 ·rw [e] at h2; cases h2
 ·rw [e] at h1; cases h1
theorem SortR.pair {xs : List AcL} (ys : SortR xs) : (ys.1.map AcL.er).Pairwise fun x y => leA x y = true := by
 rw [List.pairwise_map]
 rw [List.pairwise_iff_getElem]
 intro i j hi hj hij
 simp only [leA, Bool.not_eq_true']
 exact ys.2.2 i j _ _ hij (List.getElem?_eq_getElem hi) (List.getElem?_eq_getElem hj)
theorem xT {l : List AcE} (hn : (l.map AcE.addr).Nodup) {x y : AcE} (hx : x ∈ l) (hy : y ∈ l) (h : x.addr = y.addr) : x = y := by
 induction l with
 | nil => cases hx
 | cons a l ih =>
  rw [List.map_cons, List.nodup_cons] at hn
  rcases List.mem_cons.1 hx with rfl | hx2
  ·rcases List.mem_cons.1 hy with rfl | hy2
   ·rfl
   ·exact absurd (h ▸ List.mem_map_of_mem hy2) hn.1
  ·rcases List.mem_cons.1 hy with rfl | hy2
   ·exact absurd (h ▸ List.mem_map_of_mem hx2) hn.1
   ·exact ih hn.2 hx2 hy2
theorem SortR.uniq {xs : List AcL} (ys : SortR xs) (hn : ((xs.map AcL.er).map AcE.addr).Nodup) : ys.1.map AcL.er = QE (xs.map AcL.er) := by
 have hp : (ys.1.map AcL.er).Perm (xs.map AcL.er) := ys.2.1.map _
 have hp2 : (QE (xs.map AcL.er)).Perm (xs.map AcL.er) := List.mergeSort_perm _ _
 have hs2 : (QE (xs.map AcL.er)).Pairwise fun x y => leA x y = true := List.pairwise_mergeSort Zg Zh _
 exact List.Perm.eq_of_pairwise (fun x y hx hy h1 h2 => xT hn (hp.mem_iff.1 hx) (hp2.mem_iff.1 hy) (jw h1 h2)) ys.pair hs2 (hp.trans hp2.symm)
theorem yX : ∀ {l : List AcE}, l.Pairwise (fun x y => leA x y = true) → (XZ (l.map AcE.addr) = true ↔ ¬ (l.map AcE.addr).Nodup)
 | [], _ => by simp [XZ]
 | [x], _ => by simp [XZ]
 | x :: y :: l, h => by
  have ih := yX (List.pairwise_cons.1 h).2
  have e : XZ ((x :: y :: l).map AcE.addr) = (decide (x.addr = y.addr) || XZ ((y :: l).map AcE.addr)) := rfl
  rw [e, Bool.or_eq_true, decide_eq_true_eq, ih]
  have e2 : ((x :: y :: l).map AcE.addr).Nodup ↔ x.addr ∉ (y :: l).map AcE.addr ∧ ((y :: l).map AcE.addr).Nodup := List.nodup_cons
  rw [e2]
  constructor
  ·rintro (h1 | h1) ⟨h2, h3⟩
   ·exact h2 (by rw [h1]; exact List.mem_map_of_mem (List.mem_cons_self ..))
   ·exact h1 h3
  ·intro h1
   by_cases h2 : ((y :: l).map AcE.addr).Nodup
   ·left
    by_cases h3 : x.addr ∈ (y :: l).map AcE.addr
    ·obtain ⟨z, hz, hzx⟩ := List.mem_map.1 h3
     have hxy := (List.pairwise_cons.1 h).1 y (List.mem_cons_self ..)
     rcases List.mem_cons.1 hz with rfl | hz
     ·exact hzx.symm
     ·have hyz := (List.pairwise_cons.1 (List.pairwise_cons.1 h).2).1 z hz
      refine jw hxy ?_
      simp only [leA] at hyz ⊢
      rw [← hzx]; exact hyz
    ·exact absurd ⟨h3, h2⟩ h1
   ·exact .inr h2
def Q3 (l : List AcE) : Int := if (l.map AcE.addr).Nodup then KS (QE l) else 13
theorem xU {xs : List AcL} (ys : SortR xs) : Jfo ys.1 = Q3 (xs.map AcL.er) := by
 have ha : jv ys.1 = (ys.1.map AcL.er).map AcE.addr := by simp [jv, AcL.er]
 have hp : ((ys.1.map AcL.er).map AcE.addr).Perm ((xs.map AcL.er).map AcE.addr) := (ys.2.1.map _).map _
 have h := yX ys.pair
 rw [← ha] at h
 unfold Jfo Q3
 by_cases hn : ((xs.map AcL.er).map AcE.addr).Nodup
 ·have : ¬ XZ (jv ys.1) = true := fun h2 => h.1 h2 (ha ▸ hp.nodup_iff.2 hn)
  rw [if_neg this, if_pos hn, ys.uniq hn]
 ·rw [if_neg hn, if_pos (h.2 fun h2 => hn (hp.nodup_iff.1 (ha ▸ h2)))]
def QO (ts : List Nat) (t : Nat) (rc : Rec) (l : List AcE) : List AcE × Int × Int :=
 if (QN ts t).2 ≠ 0 then ([], 0, (QN ts t).2) else if Q3 l ≠ 0 then ([], 0, Q3 l) else
  if (QH (QN ts t).1 (QE l) rc).2 ≠ 0 then ([], 0, (QH (QN ts t).1 (QE l) rc).2) else ((QH (QN ts t).1 (QE l) rc).1, (QN ts t).1, 0)
abbrev leL (a b : AcL) : Prop := Op.bytesLess b.addr a.addr = false
theorem wu {l m : List AcE} (h : l.Perm m) (hn : (l.map AcE.addr).Nodup) : QE l = QE m := by
 have h1 : (QE l).Perm l := List.mergeSort_perm _ _
 have h2 : (QE m).Perm m := List.mergeSort_perm _ _
 exact List.Perm.eq_of_pairwise (fun x y hx hy a b => xT hn (h1.mem_iff.1 hx) (h.mem_iff.2 (h2.mem_iff.1 hy)) (jw a b)) (List.pairwise_mergeSort Zg Zh _) (List.pairwise_mergeSort Zg Zh _) (h1.trans (h.trans h2.symm))
theorem Jkr {l m : List AcE} (h : l.Perm m) (ts : List Nat) (t : Nat) (rc : Rec) : QO ts t rc l = QO ts t rc m := by
 have hq : (l.map AcE.addr).Nodup ↔ (m.map AcE.addr).Nodup := (h.map _).nodup_iff
 unfold QO
 by_cases hn : (l.map AcE.addr).Nodup
 ·have e : Q3 l = Q3 m := by unfold Q3; rw [if_pos hn, if_pos (hq.1 hn), wu h hn]
  rw [e, wu h hn]
 ·have e1 : Q3 l = 13 := by unfold Q3; rw [if_neg hn]
  have e2 : Q3 m = 13 := by unfold Q3; rw [if_neg fun h2 => hn (hq.2 h2)]
  rw [e1, e2, if_pos (show (13 : Int) ≠ 0 by decide), if_pos (show (13 : Int) ≠ 0 by decide)]
structure GenOk (ts : List Nat) (t : Nat) (rc : Rec) (l s : List AcE) (f : Int) : Prop where
  act : QN ts t = (f, 0)
  nd : (l.map AcE.addr).Nodup
  chk : KS (QE l) = 0
  wr : QH f (QE l) rc = (s, 0)
theorem Jxx {ts : List Nat} {t : Nat} {rc : Rec} {l s : List AcE} {f : Int} (h : QO ts t rc l = (s, f, 0)) : GenOk ts t rc l s f := by
 unfold QO at h
 split at h
 ·rename_i h1; exact absurd (Prod.mk.inj (Prod.mk.inj h).2).2 h1
 rename_i h1
 split at h
 ·rename_i h2; exact absurd (Prod.mk.inj (Prod.mk.inj h).2).2 h2
 rename_i h2
 split at h
 ·rename_i h3; exact absurd (Prod.mk.inj (Prod.mk.inj h).2).2 h3
 rename_i h3
 have h1 := Decidable.not_not.1 h1
 have h2 := Decidable.not_not.1 h2
 have h3 := Decidable.not_not.1 h3
 obtain ⟨e1, e2⟩ := Prod.mk.inj h
 have e2 := (Prod.mk.inj e2).1
 unfold Q3 at h2
 split at h2
 ·rename_i hn
  exact ⟨by rw [← e2, ← h1], hn, h2, by rw [← e1, ← e2, ← h3]⟩
 ·cases h2
structure Ov (f : Int) (s t : List AcE) : Prop where
  kept : Kept s t
  fee : ¬ (Qe f 1).2 = true → KP t A1 = KP s A1
theorem wv {f g : Int} (hg : g ≤ f) (h : (Qe g 1).2 = true) : (Qe f 1).2 = true := by
 unfold Qe at h ⊢
 rw [if_pos rfl] at h ⊢
 split at h
 ·rw [if_pos (by omega)]
 ·cases h
theorem Ov.of {f g : Int} {s t : List AcE} {r : Rec} (hg : g ≤ f) (W : Wrote g s t r) : Ov f s t := ⟨W.kept, fun hf => by
 have h := W.fee
 rw [if_neg fun h2 => hf (wv hg h2)] at h
 exact h⟩
theorem Ov.trans {f g : Int} {s t u : List AcE} (hg : g ≤ f) (h : Ov g s t) (k : Ov f t u) : Ov f s u := ⟨h.kept.trans k.kept, fun hf => (k.fee hf).trans (h.fee fun h2 => hf (wv hg h2))⟩
theorem Ov.mono {f g : Int} {s t : List AcE} (hg : g ≤ f) (h : Ov g s t) : Ov f s t := ⟨h.kept, fun hf => h.fee fun h2 => hf (wv hg h2)⟩
theorem xV {s : List AcE} (h : Ks AcE.addr s) : (s.map AcE.addr).Nodup := by
 unfold List.Nodup
 rw [List.pairwise_map]
 exact h.imp fun h => qb h
theorem Jvn : ∀ s : BS, wL (s.map Z0) = s.length
 | [] => by rw [List.map_nil, wL]; rfl
 | b :: s => by rw [List.map_cons, wL, Jvn s, List.length_cons]; show Yu (.mk b.toNat 0 0 0 [] none [] none 0) + s.length = _; rw [Yu, wL]; simp; omega
theorem Jin (s : BS) : Yu (wM s) = 1 + s.length := by unfold wM KN; rw [Yu, Jvn]; simp
theorem Jqe : ∀ l : List (BS × BS), (∀ x ∈ l, x.1.length = 32 ∧ x.2.length = 32) → wL (l.map wh) = 67 * l.length
 | [], _ => by rw [List.map_nil, wL]; rfl
 | x :: l, h => by
  obtain ⟨h1, h2⟩ := h x List.mem_cons_self
  rw [List.map_cons, wL, Jqe l fun y hy => h y (List.mem_cons_of_mem _ hy), List.length_cons]
  unfold wh KN
  rw [Yu, wL, wL, wL, Jin, Jin, h1, h2]; simp; omega
def wA (a : AcE) : Nat := 26 + a.code.length + 67 * a.slots.length
theorem Jzp {a : AcE} (h : Wu a = 0) : Yu (acV a) = wA a := by
 obtain ⟨h1, h2, _⟩ := QL h
 unfold acV KN wA
 rw [Yu, wL, wL, wL, wL, wL, wL, Jin, Jin, Yu, Yu, Yu, wL, Jqe _ fun x hx => ⟨(h2 x hx).1, (h2 x hx).2.1⟩, h1]; simp; omega
def wS (l : List AcE) : Nat := (l.map wA).sum
theorem Jvo : ∀ l : List AcE, (∀ a ∈ l, Wu a = 0) → wL (l.map acV) = wS l
 | [], _ => by rw [List.map_nil, wL]; simp [wS]
 | a :: l, h => by
  have ih := Jvo l fun b hb => h b (List.mem_cons_of_mem _ hb)
  rw [List.map_cons, wL, Jzp (h a List.mem_cons_self), ih]
  unfold wS
  rw [List.map_cons, List.sum_cons]
theorem Jqf {l : List AcE} (h : KS l = 0) : Yu (YI l) = 1 + wS l := by
 unfold YI KN
 rw [Yu, Jvo l (X5.1 h).2.1]; simp
def slN (l : List AcE) : Nat := (l.map fun a => a.slots.length).sum
theorem Jqh {a : AcE} (h : Xf a = true) (h2 : a.code.length ≤ 512) : a.code.length ≤ 60 := by
 unfold Xf at h
 simp only [Bool.and_eq_true, Bool.not_eq_true', Bool.or_eq_false_iff, Bool.and_eq_false_iff, decide_eq_false_iff_not] at h
 omega
theorem Jqi : ∀ l : List AcE, (∀ a ∈ l, Wu a = 0 ∧ Xf a = true) → wS l ≤ 86 * l.length + 67 * slN l
 | [], _ => by simp [wS]
 | a :: l, h => by
  obtain ⟨h1, h2⟩ := h a List.mem_cons_self
  have ih := Jqi l fun b hb => h b (List.mem_cons_of_mem _ hb)
  have hc := Jqh h2 (QL h1).2.2.2.1
  unfold wS slN wA at ih ⊢
  rw [List.map_cons, List.sum_cons, List.map_cons, List.sum_cons, List.length_cons]
  omega
theorem Jio : ∀ (l : List AcE) (i : Nat) (n : Int), i + l.length ≤ 41 → (XX i n l).1 = true → (∀ a ∈ l, Xf a = true) ∧ (XX i n l).2 = n + (slN l : Int)
 | [], i, n, _, _ => ⟨fun a ha => (nomatch ha), by unfold XX slN; simp⟩
 | a :: l, i, n, hl, h => by
  rw [List.length_cons] at hl
  unfold XX at h ⊢
  rw [if_neg (by omega)] at h ⊢
  by_cases hf : Xf a = false
  ·rw [if_pos hf] at h; cases h
  ·rw [if_neg hf] at h ⊢
   obtain ⟨h1, h2⟩ := Jio l (i + 1) (n + (a.slots.length : Int)) (by omega) h
   refine ⟨fun b hb => ?_, ?_⟩
   ·rcases List.mem_cons.1 hb with rfl | hb
    ·simpa using hf
    ·exact h1 b hb
   ·rw [h2]; unfold slN; rw [List.map_cons, List.sum_cons]; omega
theorem xW {l : List AcE} (h : Yp l = true) : l.length ≤ 40 ∧ (∀ a ∈ l, Xf a = true) ∧ slN l ≤ 40 := by
 unfold Yp at h
 simp only [Bool.and_eq_true, decide_eq_true_eq] at h
 obtain ⟨h1, h2, h3⟩ := h
 obtain ⟨g1, g2⟩ := Jio l 0 0 (by omega) h1
 exact ⟨h2, g1, by omega⟩
theorem Jip {l m : List AcE} (h : l.Perm m) : wS l = wS m := (h.map wA).sum_nat
theorem Jvp : ∀ {l m : List AcE}, l.Nodup → (∀ x ∈ l, x ∈ m) → wS l ≤ wS m
 | [], _, _, _ => by simp [wS]
 | x :: l, m, hn, h => by
  obtain ⟨h1, h2⟩ := List.nodup_cons.1 hn
  have ih := Jvp h2 (m := m.erase x) fun y hy => (List.mem_erase_of_ne (fun e => h1 (by rw [← e]; exact hy))).2 (h y (List.mem_cons_of_mem _ hy))
  have hp := Jip (List.perm_cons_erase (h x List.mem_cons_self))
  rw [hp]
  unfold wS at ih ⊢
  rw [List.map_cons, List.sum_cons, List.map_cons, List.sum_cons]
  omega
theorem Jqj {a : AcE} (h : Wu a = 0) : wA a ≤ 1610 := by
 obtain ⟨_, _, _, h4, h5⟩ := QL h
 unfold wA; omega
theorem Jqk (s : List AcE) (hs : KS s = 0) (k : BS) : wA (Vh s k) ≤ 1610 := by
 unfold Vh
 cases h : KP s k with
 | none => simp [wA, ac0]
 | some a => exact Jqj (je hs h).2
theorem Jql {f : Int} {s t : List AcE} {r : Rec} (W : Wrote f s t r) : wS t ≤ wS s + 3220 := by
 have hs := (X5.1 W.new).2.2
 have hn : t.Nodup := by
  have := xV hs
  unfold List.Nodup at this ⊢
  rw [List.pairwise_map] at this
  exact this.imp fun h e => h (by rw [e])
 have h := Jvp (m := Vh t A0 :: Vh t A1 :: s) hn fun a ha => by
  have e2 : KP t a.addr = some a := jF hs ha
  by_cases h0 : a.addr = A0
  ·have : Vh t A0 = a := by unfold Vh; rw [← h0, e2]; rfl
   rw [this]; exact List.mem_cons_self
  by_cases h1 : a.addr = A1
  ·have : Vh t A1 = a := by unfold Vh; rw [← h1, e2]; rfl
   rw [this]; exact List.mem_cons_of_mem _ List.mem_cons_self
  rw [W.others a.addr h0 h1] at e2
  exact List.mem_cons_of_mem _ (List.mem_cons_of_mem _ (jE e2).2)
 have g0 := Jqk t W.new A0
 have g1 := Jqk t W.new A1
 unfold wS at h ⊢
 rw [List.map_cons, List.sum_cons, List.map_cons, List.sum_cons] at h
 omega
theorem Jqm {ts : List Nat} {t : Nat} {rc : Rec} {l s : List AcE} {f : Int} (h : GenOk ts t rc l s f) (hf : Yp l = true) : KS s = 0 ∧ Yu (YI s) ≤ 20000 := by
 have W := Ju9 h.wr
 obtain ⟨f1, f2, f3⟩ := xW hf
 obtain ⟨c1, c2, _⟩ := X5.1 h.chk
 have hp := List.mergeSort_perm l leA
 have hlk : ∀ a ∈ l, Wu a = 0 ∧ Xf a = true := fun a ha => ⟨c2 a (hp.mem_iff.2 ha), f2 a ha⟩
 have h1 := Jqi l hlk
 have h2 := Jql W
 rw [show wS (QE l) = wS l from Jip hp] at h2
 have h3 := (X5.1 W.new).1
 exact ⟨W.new, by rw [Jqf W.new]; omega⟩
def Ws (s : List AcE) : List AcE := [(KP s A0).getD ac0]
theorem Jqn {f : Int} {s t : List AcE} {r : Rec} (W : Wrote f s t r) : KS (Ws t) = 0 ∧ Yu (YI (Ws t)) ≤ 20000 := by
 obtain ⟨b, b1, b2, _⟩ := W.acct
 have e : Ws t = [b] := by unfold Ws; rw [b1]; rfl
 have hc : KS [b] = 0 := by rw [chk_one]; exact b2
 rw [e]
 refine ⟨hc, ?_⟩
 have := Jqj b2
 rw [Jqf hc]
 unfold wS
 simp only [List.map_cons, List.map_nil, List.sum_cons, List.sum_nil]
 omega
def wQ (f : Int) : Int := Jif (vl f 5)
def ww (ts : List Nat) (t : Nat) (rc : Rec) (l : List AcE) : BS × Int :=
 if (QO ts t rc l).2.2 ≠ 0 then ([], (QO ts t rc l).2.2) else (WZ t (Qr (QO ts t rc l).1).1, 0)
def xX (f : Int) (rc : Rec) : Nat := if wQ f = 1 then rc.number else 0
def X9 (ts : List Nat) (t : Nat) (rc : Rec) (l : List AcE) : BS × Int :=
 if (QO ts t rc l).2.2 ≠ 0 then ([], (QO ts t rc l).2.2) else
  WY (wQ (QO ts t rc l).2.1) [(Qr (QO ts t rc l).1).1, (Qr (Ws (QO ts t rc l).1)).1, WZ t (Qr (QO ts t rc l).1).1] (xX (QO ts t rc l).2.1 rc)
theorem Jxy (f : Int) : wQ f = 0 ∨ wQ f = 1 := by
 unfold wQ Jif
 by_cases h : (vl f 5) = []
 ·rw [h]; exact .inl rfl
 ·have hl : (vl f 5).length - 1 < (vl f 5).length := by have := List.length_pos_iff.2 h; omega
  have hm : (vl f 5).getD ((vl f 5).length - 1) 0 ∈ vl f 5 := by
   rw [List.getD_eq_getElem?_getD, List.getElem?_eq_getElem hl, Option.getD_some]; exact List.getElem_mem hl
  have hm2 := (List.mem_filter.1 hm).1
  simpa [qw] using hm2
theorem yY {l : List AcE} (h : KS l = 0) (hn : ∀ a ∈ l, VD a.nonce) : (Qr l).1.length = 32 ∧ (Qr l).2 = 0 := by
 rw [Jdb h (xG h hn)]
 exact ⟨WC _ _ 0 Jh1 (xG h hn), rfl⟩
def Xa (t : Nat) (l : List AcL) : List AcL := (l.take (t % l.length)).reverse ++ (l.drop (t % l.length)).reverse
theorem jT (t : Nat) (l : List AcL) : (Xa t l).Perm l := by
 unfold Xa
 refine ((List.reverse_perm _).append (List.reverse_perm _)).trans ?_
 rw [List.take_append_drop]
theorem Jqo {t i : Nat} {l : List AcL} (h : i < l.length) : (Xa t l)[i]? = l[(l.length - 1 - i + t) % l.length]? := by
 have hr : t % l.length < l.length := Nat.mod_lt _ (by omega)
 have e : (l.length - 1 - i + t) % l.length = (l.length - 1 - i + t % l.length) % l.length := by rw [Nat.add_mod_mod]
 rw [e]
 unfold Xa
 generalize t % l.length = r at hr
 have hl : (l.take r).reverse.length = r := by rw [List.length_reverse, List.length_take]; omega
 by_cases hi : i < r
 ·rw [List.getElem?_append_left (by omega), List.getElem?_reverse (by rw [List.length_take]; omega), List.length_take, List.getElem?_take, show min r l.length - 1 - i = r - 1 - i by omega, if_pos (by omega)]
  have e2 : l.length - 1 - i + r = (r - 1 - i) + l.length := by omega
  rw [e2, Nat.add_mod_right, Nat.mod_eq_of_lt (by omega)]
 ·rw [List.getElem?_append_right (by omega), hl, List.getElem?_reverse (by rw [List.length_drop]; omega), List.length_drop, List.getElem?_drop, Nat.mod_eq_of_lt (by omega)]
  congr 1
  omega
theorem Jiq : ∀ (l : List AcE) (i : Nat) (n : Int), i + l.length ≤ 41 → (∀ a ∈ l, Xf a = true) → (XX i n l).1 = true ∧ (XX i n l).2 = n + (slN l : Int)
 | [], i, n, _, _ => by unfold XX slN; simp
 | a :: l, i, n, hl, h => by
  rw [List.length_cons] at hl
  unfold XX
  rw [if_neg (by omega), if_neg (by rw [h a List.mem_cons_self]; simp)]
  obtain ⟨h1, h2⟩ := Jiq l (i + 1) (n + (a.slots.length : Int)) (by omega) fun b hb => h b (List.mem_cons_of_mem _ hb)
  refine ⟨h1, ?_⟩
  rw [h2]; unfold slN; rw [List.map_cons, List.sum_cons]; omega
theorem Jqp {l m : List AcE} (hp : l.Perm m) (h : Yp l = true) (_hl : True) : Yp m = true := by
 obtain ⟨h1, h2, h3⟩ := xW h
 have hlen := hp.length_eq
 have hs : slN m = slN l := ((hp.map fun a : AcE => a.slots.length).sum_nat).symm
 obtain ⟨g1, g2⟩ := Jiq m 0 0 (by omega) fun a ha => h2 a (hp.mem_iff.2 ha)
 unfold Yp
 rw [g1, g2, hs]
 simp only [Bool.true_and, Bool.and_eq_true, decide_eq_true_eq]
 omega
def U1 : BS := [173, 50, 40, 182, 118, 247, 211, 205, 66, 132, 165, 68, 63, 23, 241, 150, 43, 54, 228, 145, 179, 10, 64, 178, 64, 88, 73, 229, 151, 186, 95, 181]
def U2 : BS := [180, 193, 25, 81, 149, 124, 111, 143, 100, 44, 74, 246, 28, 214, 178, 70, 64, 254, 198, 220, 127, 198, 7, 238, 130, 6, 169, 158, 146, 65, 13, 48]
def U3 : BS := [33, 221, 185, 163, 86, 129, 92, 63, 172, 16, 38, 182, 222, 197, 223, 49, 36, 175, 186, 219, 72, 92, 155, 165, 163, 227, 57, 138, 4, 183, 186, 133]
def U4 : BS := [229, 135, 105, 179, 42, 27, 234, 241, 234, 39, 55, 90, 68, 9, 90, 13, 31, 182, 100, 206, 45, 211, 88, 231, 252, 191, 183, 140, 38, 161, 147, 68]
def U5 : BS := [14, 176, 30, 191, 201, 237, 39, 80, 12, 212, 223, 201, 121, 39, 45, 31, 9, 19, 204, 159, 102, 84, 13, 126, 128, 5, 129, 17, 9, 225, 207, 45]
def Jux : BS := [111, 110, 101, 0, 0, 0, 0, 0, 0, 0, 0, 0, 0, 0, 0, 0, 0, 0, 0, 0, 0, 0, 0, 0, 0, 0, 0, 0, 0, 0, 0, 0]
def UAd : BS := [66, 0, 0, 0, 0, 0, 0, 0, 0, 0, 0, 0, 0, 0, 0, 0, 0, 0, 0, 1, 0, 0, 0, 0, 0, 0, 0, 0, 0, 0, 0, 0]
def U6 : BS := [35, 243, 31, 87, 200, 20, 215, 123, 214, 192, 83, 67, 196, 40, 91, 130, 219, 75, 152, 38, 171, 132, 39, 130, 169, 132, 223, 125, 157, 106, 47, 69]
def U7 : BS := [131, 241, 113, 45, 226, 69, 37, 146, 43, 71, 20, 186, 3, 103, 171, 114, 46, 40, 106, 0, 255, 158, 222, 54, 24, 194, 237, 212, 173, 254, 220, 131]
def U8 : BS := [242, 186, 62, 27, 111, 140, 127, 23, 29, 217, 54, 77, 62, 57, 244, 120, 135, 65, 67, 42, 144, 41, 240, 241, 210, 153, 39, 8, 186, 55, 34, 213]
def U9 : BS := [33, 180, 236, 129, 209, 3, 231, 208, 120, 175, 195, 1, 158, 91, 71, 27, 49, 166, 79, 106, 42, 35, 105, 27, 30, 222, 120, 211, 167, 168, 139, 135]
def U10 : BS := [125, 225, 35, 91, 207, 235, 186, 242, 16, 196, 211, 228, 105, 77, 66, 123, 190, 229, 22, 9, 253, 235, 200, 196, 240, 97, 205, 75, 152, 210, 249, 126]
def U11 : BS := [50, 178, 115, 232, 148, 162, 253, 184, 200, 103, 108, 40, 44, 53, 250, 226, 67, 39, 85, 153, 173, 52, 25, 113, 190, 215, 6, 171, 166, 218, 61, 3]
def U12 : BS := [113, 204, 200, 86, 198, 253, 158, 85, 5, 131, 130, 73, 154, 154, 255, 0, 169, 41, 85, 96, 145, 202, 185, 51, 234, 104, 27, 232, 152, 96, 71, 248]
def U13 : BS := [132, 90, 164, 89, 164, 191, 80, 223, 178, 73, 159, 94, 140, 113, 233, 133, 102, 110, 174, 45, 34, 63, 195, 68, 238, 232, 104, 179, 81, 128, 234, 139]
def U14 : BS := [235, 114, 203, 217, 247, 64, 52, 193, 8, 30, 239, 190, 180, 198, 98, 176, 42, 249, 8, 173, 66, 240, 249, 56, 193, 75, 35, 171, 233, 208, 193, 195]
def U15 : BS := [164, 30, 190, 90, 41, 216, 190, 217, 85, 253, 216, 224, 7, 23, 171, 243, 88, 41, 83, 46, 207, 20, 69, 81, 243, 174, 71, 105, 10, 76, 147, 226]
def U16 : BS := [105, 102, 245, 27, 161, 222, 241, 181, 192, 86, 124, 98, 245, 190, 192, 54, 192, 63, 144, 3, 170, 4, 51, 225, 238, 10, 187, 77, 166, 236, 80, 115]
def U17 : BS := [10, 27, 235, 237, 66, 167, 30, 71, 6, 137, 246, 233, 78, 173, 243, 225, 156, 94, 59, 228, 197, 207, 199, 254, 209, 32, 79, 241, 25, 121, 182, 70]
def U18 : BS := [45, 63, 26, 239, 217, 230, 108, 101, 248, 231, 99, 101, 145, 158, 81, 76, 1, 45, 239, 215, 186, 35, 73, 247, 12, 176, 246, 235, 168, 152, 41, 208]
def U19 : BS := [83, 222, 232, 149, 76, 179, 109, 14, 136, 74, 190, 125, 178, 41, 59, 97, 160, 72, 246, 61, 180, 126, 236, 139, 6, 133, 137, 19, 179, 63, 187, 122]
def U20 : BS := [17, 238, 144, 76, 186, 158, 216, 91, 9, 196, 227, 243, 243, 253, 17, 83, 74, 68, 104, 161, 76, 150, 16, 48, 11, 32, 58, 250, 73, 27, 28, 188]
def U21 : BS := [220, 132, 225, 78, 18, 16, 82, 55, 250, 166, 171, 196, 184, 137, 66, 234, 243, 70, 30, 243, 118, 93, 157, 90, 173, 62, 193, 0, 44, 42, 179, 104]
def U22 : BS := [168, 203, 117, 212, 196, 131, 35, 196, 128, 0, 198, 72, 59, 250, 217, 105, 45, 64, 183, 82, 19, 160, 167, 124, 155, 84, 205, 96, 106, 220, 133, 188]
def U23 : BS := [226, 171, 200, 37, 18, 134, 109, 196, 173, 119, 38, 26, 229, 87, 194, 26, 95, 114, 197, 167, 124, 172, 103, 224, 254, 45, 15, 145, 239, 132, 203, 46]
def ULe : BS := [6, 0, 0, 0, 0, 0, 0, 0]
def U24 : BS := [42, 123, 160, 192, 217, 163, 200, 255, 136, 106, 193, 125, 8, 79, 43, 190, 169, 215, 147, 160, 73, 244, 233, 147, 58, 4, 119, 152, 128, 29, 116, 250]
def UHd : BS := [0, 0, 0, 0, 0, 0, 0, 0, 0, 0, 0, 0, 0, 0, 0, 0, 0, 0, 0, 0, 0, 0, 0, 0, 0, 0, 0, 0, 0, 0, 0, 0]
def U25 : BS := [156, 238, 190, 167, 74, 13, 235, 10, 52, 177, 34, 104, 132, 238, 41, 29, 152, 1, 252, 49, 101, 106, 191, 80, 101, 242, 97, 240, 51, 57, 169, 37]
theorem uq1 : Wj (z32 ++ z32) = U1 := by decide +kernel
theorem uq2 : Wj (U1 ++ U1) = U2 := by decide +kernel
theorem uq3 : Wj (U2 ++ U2) = U3 := by decide +kernel
theorem uq4 : Wj (U3 ++ U3) = U4 := by decide +kernel
theorem uq5 : Wj (U4 ++ U4) = U5 := by decide +kernel
theorem uq6 : Wj (Jux ++ z32) = U6 := by decide +kernel
theorem uq7 : Wj (U6 ++ U1) = U7 := by decide +kernel
theorem uq8 : Wj (U7 ++ U2) = U8 := by decide +kernel
theorem uq9 : Wj (U8 ++ U3) = U9 := by decide +kernel
theorem J01 : Yj U9 3 = U10 := by decide +kernel
theorem J02 : Yj U4 0 = U11 := by decide +kernel
theorem J03 : Wj (UAd ++ z32) = U12 := by decide +kernel
theorem J04 : Wj (z32 ++ U10) = U13 := by decide +kernel
theorem J05 : Wj (U11 ++ z32) = U14 := by decide +kernel
theorem J06 : Wj (U12 ++ U13) = U15 := by decide +kernel
theorem J07 : Wj (U14 ++ U1) = U16 := by decide +kernel
theorem J08 : Wj (U15 ++ U16) = U17 := by decide +kernel
theorem J09 : Wj (U17 ++ z32) = U18 := by decide +kernel
theorem J1a : Wj (U18 ++ U1) = U19 := by decide +kernel
theorem J1b : Wj (U19 ++ U2) = U20 := by decide +kernel
theorem J1c : Wj (U20 ++ U3) = U21 := by decide +kernel
theorem J1d : Wj (U21 ++ U4) = U22 := by decide +kernel
theorem J1e : Yj U22 1 = U23 := by decide +kernel
theorem J1f : Wj (ULe ++ U23) = U24 := by decide +kernel
theorem J1g : Wj (UHd ++ [U23, U23, U24].flatten) = U25 := by decide +kernel
theorem jx (k : Nat) (a z : BS) : Vo (k + 1) [a] z = Vo k [Wj (a ++ z)] (Wj (z ++ z)) := rfl
theorem Jir (k : Nat) (z : BS) : Vo (k + 1) [] z = Vo k [] (Wj (z ++ z)) := rfl
theorem Jzq (k : Nat) (a b z : BS) : Vo (k + 1) [a, b] z = Vo k [Wj (a ++ b)] (Wj (z ++ z)) := by rw [Vo]; simp [KZ, SL.pairUp]
theorem Jzr (k : Nat) (a b c z : BS) : Vo (k + 1) [a, b, c] z = Vo k [Wj (a ++ b), Wj (c ++ z)] (Wj (z ++ z)) := by rw [Vo]; simp [KZ, SL.pairUp]
theorem Jzs (k : Nat) (a b c d e z : BS) : Vo (k + 1) [a, b, c, d, e] z = Vo k [Wj (a ++ b), Wj (c ++ d), Wj (e ++ z)] (Wj (z ++ z)) := by rw [Vo]; simp [KZ, SL.pairUp]
theorem Jqq (a z : BS) : Vo 0 [a] z = a := rfl
theorem Jzt (z : BS) : Vo 0 [] z = z := rfl
theorem yZ {l : List Vl} {x : Ty} {n : Int} (hx : WW x = false) : KI (KN l 0) (.mk 4 n none [x]) = Yj (QX (JU l 4 0 [x] 0) n.toNat) l.length := by
 unfold KN
 rw [WX, if_neg (by decide), if_pos rfl]
 unfold W6
 rw [if_neg (by decide), if_neg (by rw [show [x].getD 0 default = x from rfl, hx]; decide)]
theorem Jqr {l : List Vl} {ins : List Ty} : KI (KN l 0) (.mk 7 0 none ins) = QX (JU l 7 0 ins 0) ins.length := by
 unfold KN
 rw [WX, if_neg (by decide), if_neg (by decide), if_neg (by decide), if_neg (by decide), if_neg (by decide)]
 unfold W6
 rw [if_pos rfl]
def b25 : AcE := ⟨A0, 0, w40, cOne, []⟩
theorem Jkt : KI (wM cOne) (Xe 4 512) = U10 := by
 have e1 : W6 4 512 [byT] (cOne.map Z0) (JU (cOne.map Z0) 4 0 [byT] 0) = QX [Jux] 16 := by
  unfold W6
  rw [if_neg (by decide), if_pos (by decide +kernel), show Ym (W5 (cOne.map Z0) ([byT].getD 0 default)) = [Jux] by decide +kernel, show ((512 : Int).toNat * (KL ([byT].getD 0 default)).toNat + 31) / 32 = 16 by decide +kernel]
 have e2 : QX [Jux] 16 = U9 := by
  rw [← jg (by decide), show lg 16 = 4 by decide +kernel, jx, uq6, uq1, jx, uq7, uq2, jx, uq8, uq3, jx, uq9, uq4, Jqq]
 unfold wM KN Xe
 rw [WX, if_neg (by decide), if_pos rfl]
 show Yj (W6 4 512 [byT] (cOne.map Z0) (JU (cOne.map Z0) 4 0 [byT] 0)) 3 = _
 rw [e1, e2, J01]
theorem Jqs : KI (wM A0) (Xe 3 20) = UAd := by decide +kernel
theorem Jfq : KI (KN [] 0) (.mk 4 16 none [xv]) = U11 := by
 rw [yZ (by decide +kernel)]
 show Yj (QX [] 16) 0 = _
 rw [← jg (by decide), show lg 16 = 4 by decide +kernel, Jir, uq1, Jir, uq2, Jir, uq3, Jir, uq4, Jzt, J02]
theorem Juy : KI (acV b25) acT = U17 := by
 unfold acV acT
 rw [Jqr]
 show QX [KI (wM A0) (Xe 3 20), KI (.mk 0 0 0 0 [] none [] none 0) (.mk 1 8 none []), KI (.mk 0 0 0 0 [] none [] none 0) (.mk 1 32 none []), KI (wM cOne) (Xe 4 512), KI (KN [] 0) (.mk 4 16 none [xv])] 5 = _
 rw [Jqs, Jkt, Jfq, show KI (.mk 0 0 0 0 [] none [] none 0) (.mk 1 8 none []) = z32 by decide +kernel, show KI (.mk 0 0 0 0 [] none [] none 0) (.mk 1 32 none []) = z32 by decide +kernel, ← jg (by decide), show lg 5 = 3 by decide +kernel, Jzs, J03, J04, J05, uq1, Jzr, J06, J07, uq2, Jzq, J08, Jqq]
theorem Jqt : KI (YI [b25]) jN = U23 := by
 unfold YI jN
 rw [yZ (by decide +kernel)]
 show Yj (QX [KI (acV b25) acT] 32) 1 = _
 rw [Juy, ← jg (by decide), show lg 32 = 5 by decide +kernel, jx, J09, uq1, jx, J1a, uq2, jx, J1b, uq3, jx, J1c, uq4, jx, J1d, uq5, Jqq, J1e]
theorem Jzu : KS [b25] = 0 := by decide +kernel
theorem Jzv : Qr [b25] = (U23, 0) := by rw [Jdb Jzu (by decide +kernel), Jqt]
theorem Jzw : WZ 6 U23 = U24 := by
 unfold WZ
 rw [show (wH 6 8).1 = ULe by decide +kernel, J1f]
theorem J1h : wQ 0 = 0 := by decide +kernel
theorem J1i : WY 0 [U23, U23, U24] 0 = (U25, 0) := by
 have e : Wh 0 [U23, U23, U24] 0 = (UHd ++ [U23, U23, U24].flatten, 0) := by decide +kernel
 unfold WY
 rw [e, if_pos rfl, J1g]
theorem J1j : U24 ≠ U25 := by decide +kernel
theorem Jdl {l m : List AcE} (h : m.Perm l) (hp : m.Pairwise fun x y => leA x y = true) (hn : (l.map AcE.addr).Nodup) : QE l = m := by
 have h1 : (QE l).Perm l := List.mergeSort_perm _ _
 exact List.Perm.eq_of_pairwise (fun x y hx hy a b => xT hn (h1.mem_iff.1 hx) (h.mem_iff.1 hy) (jw a b)) (List.pairwise_mergeSort Zg Zh _) hp (h1.trans h.symm)
def wC (b : BS) : AcE := ⟨b, 0, w40, [], []⟩
def wx : BS := List.replicate 20 0
def m25 : BS := 98 :: List.replicate 19 0
theorem Jxz : QO [5, 9] 6 rec0 [] = ([b25], 0, 0) := by
 have e : QE [] = [] := Jdl (List.Perm.refl _) List.Pairwise.nil List.nodup_nil
 have e1 : Q3 [] = 0 := by unfold Q3; rw [e]; decide +kernel
 unfold QO
 rw [e1, e, show QN [5, 9] 6 = (0, 0) by decide +kernel, show QH 0 [] rec0 = ([b25], 0) by decide +kernel]
 rfl
theorem J1k : QO [5, 9] 6 rec0 [wC m25, wC wx] = ([wC wx, b25, wC m25], 0, 0) := by
 have hn : ([wC m25, wC wx].map AcE.addr).Nodup := by decide +kernel
 have e : QE [wC m25, wC wx] = [wC wx, wC m25] := Jdl (List.Perm.swap _ _ _) (by decide +kernel) hn
 have e1 : Q3 [wC m25, wC wx] = 0 := by unfold Q3; rw [if_pos hn, e]; decide +kernel
 unfold QO
 rw [e1, e, show QN [5, 9] 6 = (0, 0) by decide +kernel, show QH 0 [wC wx, wC m25] rec0 = ([wC wx, b25, wC m25], 0) by decide +kernel]
 rfl
theorem J1l : QO [5, 9] 6 rec0 [wC m25, wC wx, wC wx] = ([], 0, 13) := by
 have e1 : Q3 [wC m25, wC wx, wC wx] = 13 := by unfold Q3; rw [if_neg (by decide +kernel)]
 unfold QO
 rw [e1, show QN [5, 9] 6 = (0, 0) by decide +kernel]
 rfl
theorem J1m (l : List AcE) : QO [5, 9] 4 rec0 l = ([], 0, 10) := by
 unfold QO
 rw [show QN [5, 9] 4 = (0, 10) by decide +kernel]
 rfl
theorem J1n : ww [5, 9] 6 rec0 [] = (U24, 0) := by
 unfold ww
 rw [Jxz]
 show (if (0 : Int) ≠ 0 then _ else (WZ 6 (Qr [b25]).1, 0)) = _
 rw [if_neg (by simp), Jzv, Jzw]
theorem J1o : X9 [5, 9] 6 rec0 [] = (U25, 0) := by
 have e : Ws [b25] = [b25] := by decide +kernel
 unfold X9
 rw [Jxz]
 show (if (0 : Int) ≠ 0 then _ else WY (wQ 0) [(Qr [b25]).1, (Qr (Ws [b25])).1, WZ 6 (Qr [b25]).1] (xX 0 rec0)) = _
 rw [if_neg (by simp), e, Jzv, J1h, Jzw, show xX 0 rec0 = 0 by decide +kernel]
 exact J1i
structure BldR (R : Ji) (e : List AcE × Int × Int) : Type where
  s : StL
  f : Int
  err : Int
  L : Ji
  ok : s.In (L ++ R)
  eq : (s.er, f, err) = e
def BldR.val {R : Ji} {e : List AcE × Int × Int} (x : BldR R e) : Value := .tuple #[x.s.val, .int .i64 x.f, .int .i64 x.err]
structure BSt : Type where
  i : Nat
  n : Nat
  p : Pl
  f : Int
  L : Ji
def BSt.ok (R : Ji) (g : GenL) (b : BSt) : Prop :=
 (b.i = 0 ∧ b.n = 0 ∧ b.p = none ∧ b.f = 0 ∧ b.L = []) ∨
 (b.i = 1 ∧ b.n = 0 ∧ b.p = none ∧ b.f = (QN g.ts g.time).1 ∧ (QN g.ts g.time).2 = 0 ∧ b.L = []) ∨
 (b.i = 2 ∧ b.f = (QN g.ts g.time).1 ∧ (QN g.ts g.time).2 = 0 ∧ ∃ x : Step2R g, Jfo x.ys.1 = 0 ∧ b.n = x.ys.1.length ∧ b.p = QC x.row ∧ b.L = x.L) ∨
 (b.i = 3 ∧ b.f = (QN g.ts g.time).1 ∧ (QN g.ts g.time).2 = 0 ∧ Q3 (g.accts.map AcL.er) = 0 ∧ ∃ s : StL, s.In (b.L ++ R) ∧ b.n = s.accts.length ∧ b.p = s.p ∧ (s.er, (0 : Int)) = QH b.f (QE (g.accts.map AcL.er)) g.rc)
theorem Jx0 {ts : List Nat} {t : Nat} {rc : Rec} {l : List AcE} (h : (QN ts t).2 = 0) (h2 : Q3 l ≠ 0) : QO ts t rc l = ([], 0, Q3 l) := by unfold QO; rw [if_neg (by simpa using h), if_pos h2]
theorem Jqu {ts : List Nat} {t : Nat} {rc : Rec} {l : List AcE} (h : (QN ts t).2 = 0) (h2 : Q3 l = 0) : QO ts t rc l = if (QH (QN ts t).1 (QE l) rc).2 ≠ 0 then ([], 0, (QH (QN ts t).1 (QE l) rc).2) else ((QH (QN ts t).1 (QE l) rc).1, (QN ts t).1, 0) := by
 unfold QO; rw [if_neg (by simpa using h), if_neg (by simpa using h2)]
structure BStep (R : Ji) (g : GenL) (b : BSt) : Type where
  n : Nat
  p : Pl
  f : Int
  err : Int
  L : Ji
  ok : err = 0 → BSt.ok R g ⟨b.i + 1, n, p, f, L ++ b.L⟩
  bad : err ≠ 0 → QO g.ts g.time g.rc g.ac = ([], 0, err)
def fnN (i : Nat) : FuncId := if i = 0 then 70 else if i = 1 then 72 else 80
theorem Jfr (i : Nat) : Enters Tryz.prog (fnN i) := by
 unfold fnN
 split
 ·exact enters_of Tryz.func70 (by kernel_rfl) rfl
 ·split
  ·exact enters_of Tryz.func72 (by kernel_rfl) rfl
  ·exact enters_of Tryz.func80 (by kernel_rfl) rfl
theorem Jqv {l : List AcE} (h : Q3 l = 0) : (l.map AcE.addr).Nodup := by
 unfold Q3 at h
 split at h
 ·assumption
 ·cases h
theorem Juz {R : Ji} {g : GenL} (hg : g.In R) (hf : g.accts.length ≤ 1000) {b : BSt} (hb : b.ok R g) (hi : b.i < 3) (rp W : Nat) :
  PureT (α := BStep R g b) Tryz.prog (fnN b.i) [Qf rp 0].toArray (fun y => .int .i64 y.err) [wP W g b.n b.p b.f] (fun y => wP W g y.n y.p y.f :: y.L) (rpB rp W :: (b.L ++ R)) := by
 obtain ⟨i, n, p, f, L⟩ := b
 rcases hb with ⟨h1, h2, h3, h4, h5⟩ | ⟨h1, h2, h3, h4, h5, h6⟩ | ⟨h1, h2, h3, x, h4, h5, h6, h7⟩ | ⟨h1, _⟩
 ·simp only at h1 h2 h3 h4 h5
  subst h1 h2 h3 h4 h5; exact (Juu hg rp W 0 none 0).map (fun _ => ⟨0, none, (QN g.ts g.time).1, (QN g.ts g.time).2, [], fun h => .inr (.inl ⟨rfl, rfl, rfl, rfl, h, rfl⟩), fun h => by unfold QO; rw [if_pos h]⟩) (fun _ => rfl) fun _ => List.Sublist.refl _
 ·simp only at h1 h2 h3 h4 h6
  subst h1 h2 h3 h4 h6
  exact (Juw hg hf rp W 0 none _).map (fun x => ⟨x.ys.1.length, QC x.row, (QN g.ts g.time).1, Jfo x.ys.1, x.L, fun h => .inr (.inr (.inl ⟨rfl, rfl, h5, x, h, rfl, rfl, List.append_nil _⟩)), fun h => by
   have h2 : Q3 g.ac ≠ 0 := by rw [xU] at h; exact h
   rw [xU]; exact Jx0 h5 h2⟩) (fun _ => rfl) fun _ => List.Sublist.refl _
 ·simp only at h1 h2 h5 h6 h7
  subst h1 h2 h5 h6 h7
  have he : Q3 g.ac = 0 := by rw [← h4, xU]; rfl
  have hs : x.st.er = QE g.ac := x.ys.uniq (Jqv he)
  have hq : QH (QN g.ts g.time).1 x.st.er g.rc = QH (QN g.ts g.time).1 (QE g.ac) g.rc := by rw [hs]
  exact (Juv (hg.mono fun q hq => List.mem_append_right _ hq) (Jdk hg x) rp W _).map (fun y => ⟨y.s.accts.length, y.s.p, (QN g.ts g.time).1, y.err, y.L, fun h => .inr (.inr (.inr ⟨rfl, rfl, h3, he, y.s, by
    show y.s.In (y.L ++ x.L ++ R)
    rw [List.append_assoc]; exact y.ok, rfl, rfl, by
    have e := y.eq.trans hq
    rw [h] at e; exact e⟩)), fun h => by
   have e := y.eq.trans hq
   rw [Jqu h3 he, ← e, if_pos h]⟩) (fun _ => rfl) fun _ => List.Sublist.refl _
 ·simp only at h1 hi; omega
def Jqw (rq rp : Nat) : Nat × Obj := (rq, .cells #[.func (.func 70) #[] #[Qf rp 0], .func (.func 72) #[] #[Qf rp 0], .func (.func 80) #[] #[Qf rp 0]] 73 (0, 0))
theorem Xu {R : Ji} {g : GenL} (hg : g.In R) (hf : g.accts.length ≤ 1000) : PureT (α := BldR R (QO g.ts g.time g.rc g.ac)) Tryz.prog 11 [g.val].toArray (fun x => x.val) [] (fun x => x.L) R := by
 refine Ju Tryz.func11 rfl rfl fun w => ?_; refine JB ?_; refine Jq 2 rfl ?_; refine Ko (cs := g.cells.toArray) rfl rfl rfl rfl fun r1 => ?_; refine LN rfl fun r2 => ?_; refine JG 6 rfl ?_; refine LR rfl (Jf (xs := g.cells) (n := 20) rfl (kn 1 rfl) rfl rfl rfl) ?_; refine LR rfl (Js (r := [_, _, _, _, _, _, _, _, _, _, _, _, _, _, _, _, _, _, _, _, _, _]) rfl rfl) ?_; refine Ko (cs := (wkC g 0 none 0).toArray) rfl rfl rfl rfl fun W => ?_; refine JG 7 rfl ?_; refine JR rfl rfl rfl (enters_of Tryz.func30 (by kernel_rfl) rfl) (Juq W) fun pp => ?_
 obtain ⟨rp, rq⟩ := pp
 change HL _ _ _ (Jqw rq rp :: rpB rp W :: wP W g 0 none 0 :: (r2, _) :: (r1, _) :: []) _ _ _ _; refine LR rfl (JQ rfl rfl) ?_; refine JM 4 rfl ?_; refine Jz (σ := BSt) (fun b => b.ok R g ∧ b.i ≤ 3) (fun b => [(2, Qf r2 0), (3, .int .i64 0), (4, .int .i64 0), (5, Qf W 0), (13, .slice (some ⟨rq, 0, none⟩) 3 3), (14, .int .i64 3), (15, .int .i64 (b.i : Int))]) (fun b => Jqw rq rp :: rpB rp W :: wP W g b.n b.p b.f :: (r2, .cells #[Kz 0 none] 36 (0, 0)) :: (r1, .cells g.cells.toArray 32 (0, 0)) :: b.L) (fun _ _ _ => True) (fun b => 3 - b.i) ⟨0, 0, none, 0, []⟩ ⟨.inl ⟨rfl, rfl, rfl, rfl, rfl⟩, Nat.zero_le _⟩ (lK rfl) (List.Sublist.refl _) (fun _ _ h => h) ?_; rintro b ⟨hok, hi1⟩; refine JP 6 rfl ?_; refine cD (fun h7 => ?_) fun h7 => ?_
 ·refine JP 5 rfl ?_
  have hb3 : b.i < 3 := by omega
  have hi3 : b.i = 0 ∨ b.i = 1 ∨ b.i = 2 := by omega
  refine Jq 1 rfl ?_; refine LR rfl (JF (j := b.i) (m := 1) (off' := b.i) rfl rfl rfl rfl rfl hb3 (by omega)) ?_
  refine LR rfl (Jd (v := .func (.func (fnN b.i)) #[] #[Qf rp 0]) rfl (kn 0 rfl) rfl (by rcases hi3 with h | h | h <;> rw [h] <;> rfl)) ?_; refine JG 6 rfl ?_; refine Qk (T := [wP W g b.n b.p b.f]) (L0 := Jqw rq rp :: rpB rp W :: (r2, _) :: (r1, _) :: b.L) (Rl := rpB rp W :: (b.L ++ R)) (List.perm_middle (l₁ := [_, _])) rfl rfl rfl (Jfr b.i) (Juz hg hf hok hb3 rp W) (fun q hq => (List.mem_cons.1 hq).elim (fun h => .inl (by rw [h]; exact List.mem_cons_of_mem _ List.mem_cons_self)) fun hq => (List.mem_append.1 hq).elim (fun h => .inl (List.mem_cons_of_mem _ (List.mem_cons_of_mem _ (List.mem_cons_of_mem _ (List.mem_cons_of_mem _ h))))) .inr) fun y => ?_; refine Kn (((QW y.L [_, _, _, _] b.L).cons _).trans (List.perm_middle (l₁ := [_, _])).symm) ?_; change HL _ _ _ (Jqw rq rp :: rpB rp W :: wP W g y.n y.p y.f :: (r2, _) :: (r1, _) :: (y.L ++ b.L)) _ _ _ _; refine JM 9 rfl ?_; refine cD (fun h12 => ?_) fun h12 => ?_
  refine Jq 2 rfl ?_; refine LR rfl (Js (r := [_]) rfl rfl) ?_; refine QI rfl ?_
  refine LT 3 rfl rfl ?_; refine Jy 10 rfl ?_; refine Jh rfl rfl (.cons (J2 (vs := [_]) rfl (kn 3 rfl) rfl rfl) (.cons (Jj rfl) (.cons (Jj rfl) .nil))) (fun w1 hs1 => ?_)
  (have hbad := y.bad (by omega)
   exact ⟨⟨st0L, 0, y.err, [], Jmg, hbad.symm⟩, rfl, hs1.weakL (List.nil_sublist _)⟩)
  refine Jq 5 rfl ?_; refine Jc (by omega) (by omega) ?_; refine Jy 2 rfl ?_; refine Jw ?_; exact Jt ⟨b.i + 1, y.n, y.p, y.f, y.L ++ b.L⟩ ⟨y.ok (by omega), by show b.i + 1 ≤ 3; omega⟩ (by show 3 - (b.i + 1) < 3 - b.i; omega) (lK rfl) (List.Sublist.refl _) (fun _ _ h => h)
 ·refine JP 6 rfl ?_; refine JN [wP W g b.n b.p b.f] [(0, .pure), (1, .pure), (2, .pure), (3, .pure), (4, .pure), (5, .pure), (6, .pure), (7, .pure), (8, .turn), (9, .pure), (10, .pure)] 11 [0, 1, 2, 3, 4, 5, 6, 7, 8, 9, 10] (by kernel_rfl) (by kernel_rfl) (fun q hq => by rw [List.mem_singleton.1 hq]; exact List.mem_cons_of_mem _ (List.mem_cons_of_mem _ List.mem_cons_self)) ?_; refine Jm (k := 0) rfl rfl rfl rfl rfl (fun _ hS => (Jg rfl)) ?_; refine Jm (k := 1) rfl rfl rfl rfl rfl (fun _ hS => (Jv rfl rfl rfl)) ?_
  refine Jm (k := 2) rfl rfl rfl rfl rfl (fun _ hS => (JE rfl rfl rfl)) ?_; refine Jm (k := 3) rfl rfl rfl rfl rfl (fun _ hS => (Jp (vs := [_]) rfl (.inl (hS _ (Jn (n := 0) rfl))) rfl rfl rfl rfl)) ?_; refine Jm (k := 4) rfl rfl rfl rfl rfl (fun _ hS => (Jg rfl)) ?_; refine Jm (k := 5) rfl rfl rfl rfl rfl (fun _ hS => (Jv rfl rfl rfl)) ?_
  refine Jm (k := 6) rfl rfl rfl rfl rfl (fun _ hS => (JE rfl rfl rfl)) ?_; refine Jm (k := 7) rfl rfl rfl rfl rfl (fun _ hS => (Jd rfl (.inl (hS _ (Jn (n := 0) rfl))) rfl rfl)) ?_; refine yR (k := 8) (q := 3) (n := 1) (off := 0) (vs := #[Kz b.n b.p]) (E' := Jqw rq rp :: rpB rp W :: wP W g b.n b.p b.f :: (r2, _) :: (r1, _) :: b.L) (cs' := #[Kz b.n b.p]) rfl rfl rfl rfl rfl rfl rfl rfl rfl (by exact Nat.le_of_ble_eq_true rfl) rfl rfl (fun q hq => by rw [List.mem_singleton.1 hq]; exact List.mem_cons_of_mem _ (List.mem_cons_of_mem _ List.mem_cons_self)) ?_; refine Jm (k := 9) rfl rfl rfl rfl rfl (fun _ hS => (JA rfl)) ?_; refine Jm (k := 10) rfl rfl rfl rfl rfl (fun _ hS => (JA rfl)) ?_; refine Kv ?_; refine Jy 3 rfl ?_; refine Jh rfl rfl (.cons (J2 (vs := [_]) rfl (kn 3 rfl) rfl rfl) (.cons (Jj rfl) (.cons (Jj rfl) .nil))) (fun w1 hs1 => ?_)
  (rcases hok with ⟨h1, _⟩ | ⟨h1, _⟩ | ⟨h1, _⟩ | ⟨h1, h2, h3, h4, s, h5, h6, h7, h8⟩
   omega
   omega
   omega
   ·refine ⟨⟨s, b.f, 0, b.L, h5, ?_⟩, ?_, hs1.weakL (List.sublist_append_right [_, _, _, _, _] _)⟩
    have h9 : (s.er, (0 : Int)) = QH b.f (QE g.ac) g.rc := h8
    have h10 : Q3 g.ac = 0 := h4
    rw [Jqu h3 h10, ← h2, ← h9, if_neg (by simp)]
    ·rw [h6, h7]; rfl)
theorem wy {R : Ji} {s : StL} (hs : s.In R) : ∀ a ∈ s.er, VD a.nonce := fun a ha => by
 obtain ⟨b, hb, rfl⟩ := List.mem_map.1 ha
 exact (hs.accts b hb).nonce
theorem Jqx {R : Ji} {ts : List Nat} {t : Nat} {rc : Rec} {l : List AcE} (x : BldR R (QO ts t rc l)) (h : x.err = 0) : GenOk ts t rc l x.s.er x.f := Jxx (x.eq.symm.trans (by rw [h]))
theorem wz {g : GenL} (hf : Yp g.ac = true) : g.accts.length ≤ 40 := by
 have := (xW hf).1
 unfold GenL.ac at this
 rwa [List.length_map] at this
theorem xY {l : List AcE} (h : KS l = 0) (hn : ∀ a ∈ l, VD a.nonce) : ∃ s : BS, Qr l = (s, 0) ∧ s.length = 32 := ⟨(Qr l).1, Prod.ext rfl (yY h hn).2, (yY h hn).1⟩
theorem ze {ts : List Nat} {t : Nat} {rc : Rec} {l s : List AcE} {f e : Int} (h : (s, f, e) = QO ts t rc l) (he : e ≠ 0) : ww ts t rc l = ([], e) ∧ X9 ts t rc l = ([], e) := by
 constructor
 ·unfold ww; rw [← h, if_pos he]
 ·unfold X9; rw [← h, if_pos he]
theorem Jqy {ts : List Nat} {t : Nat} {rc : Rec} {l s : List AcE} {f e : Int} (h : (s, f, e) = QO ts t rc l) (he : e = 0) {rt : BS} (hr : Qr s = (rt, 0)) : ww ts t rc l = (WZ t rt, 0) := by
 unfold ww; rw [← h, if_neg (by simpa using he)]
 show (WZ t (Qr s).1, (0 : Int)) = _
 rw [hr]
theorem Jkv {ts : List Nat} {t : Nat} {rc : Rec} {l s : List AcE} {f e : Int} (h : (s, f, e) = QO ts t rc l) (he : e = 0) {rt st : BS} (hr : Qr s = (rt, 0)) (hs : Qr (Ws s) = (st, 0)) : X9 ts t rc l = WY (wQ f) [rt, st, WZ t rt] (xX f rc) := by
 unfold X9; rw [← h, if_neg (by simpa using he)]
 show WY (wQ f) [(Qr s).1, (Qr (Ws s)).1, WZ t (Qr s).1] (xX f rc) = _
 rw [hr, hs]
theorem wB (s : StL) (rv : Nat) : StL.er ⟨[Q6 s A0], some (⟨rv, 0, none⟩, 1)⟩ = Ws s.er := by
 show [(Q6 s A0).er] = Ws s.er
 unfold Ws
 rw [Jgq]
theorem Jx1 {R : Ji} {g : GenL} (hg : g.In R) (hf : Yp g.ac = true) : PureR Tryz.prog 14 [g.val].toArray (Yt (ww g.ts g.time g.rc g.ac)) R := by
 have hl := wz hf
 refine Ja Tryz.func14 rfl rfl fun w => ?_; refine JB ?_; refine Jq 2 rfl ?_; refine Ko (cs := g.cells.toArray) rfl rfl rfl rfl fun r1 => ?_; refine JG 6 rfl ?_; refine LR rfl (Jf (xs := g.cells) (n := 20) rfl (kn 0 rfl) rfl rfl rfl) ?_; refine Kl rfl rfl rfl Jb1 (Xu hg (by omega)) oR fun x => ?_; refine Kn List.perm_append_comm ?_; change HL _ _ ((10, .tuple #[x.s.val, .int .i64 x.f, .int .i64 x.err]) :: _) ((r1, _) :: x.L) _ _ _ _; refine LS 4 [] rfl rfl ?_; refine LN rfl fun r4 => ?_; refine Jk (k := 0) (n := 1) (ys := x.s.cells) rfl rfl rfl rfl rfl rfl rfl rfl rfl ?_; refine JM 11 rfl ?_; refine cD (fun h5 => ?_) fun h5 => ?_
 refine JP 1 rfl ?_
 have hbad := ze x.eq (by omega)
 refine Km 8 rfl ?_; refine Jh rfl rfl (.cons (Jj rfl) (.cons (Jj rfl) .nil)) (fun w1 hs1 => ?_)
 (refine ⟨?_, hs1.keep⟩
  rw [hbad.1]; rfl)
 ·refine JP 3 rfl ?_
  have he : x.err = 0 := by omega
  obtain ⟨hck, hw⟩ := Jqm (Jqx x he) hf
  obtain ⟨rt, hrt, hrl⟩ := xY hck (wy x.ok)
  have hG := Jqy x.eq he hrt
  refine Jq 1 rfl ?_; refine LR rfl (Jf (xs := x.s.cells) (n := 1) rfl (kn 0 rfl) rfl rfl rfl) ?_; refine Je rfl rfl rfl Jwg (wl (R := x.L ++ R) x.ok (fun _ => hw)) (fun q hq => (List.mem_append.1 hq).elim (fun h => Or.inl (List.mem_cons_of_mem _ (List.mem_cons_of_mem _ h))) (fun hq => Or.inr hq)) ?_; refine J3 (congrArg Yt hrt) ?_; refine XB 12 [1] rfl rfl ?_; refine Jo rfl rfl rfl Jwh (xQ (root := rt) hg.time (by omega)) ?_; refine Jy 6 rfl ?_; refine Jh rfl rfl (.cons (Jj rfl) (.cons (Jj rfl) .nil)) (fun w1 hs1 => ?_)
  (refine ⟨?_, hs1.keep⟩
   rw [hG]; rfl)
theorem xZ {R : Ji} {g : GenL} (hg : g.In R) (hf : Yp g.ac = true) : PureR Tryz.prog 16 [g.val].toArray (Yt (X9 g.ts g.time g.rc g.ac)) R := by
 have hl := wz hf
 have hn0 : g.rc.number < 18446744073709551616 := hg.rc.1
 refine Ja Tryz.func16 rfl rfl fun w => ?_; refine JB ?_; refine Jq 2 rfl ?_; refine Ko (cs := g.cells.toArray) rfl rfl rfl rfl fun r1 => ?_; refine JG 6 rfl ?_; refine LR rfl (Jf (xs := g.cells) (n := 20) rfl (kn 0 rfl) rfl rfl rfl) ?_; refine Kl rfl rfl rfl Jb1 (Xu hg (by omega)) oR fun x => ?_; refine Kn List.perm_append_comm ?_; change HL _ _ ((18, .tuple #[x.s.val, .int .i64 x.f, .int .i64 x.err]) :: _) ((r1, _) :: x.L) _ _ _ _; refine LS 4 [] rfl rfl ?_; refine LN rfl fun r4 => ?_; refine Jk (k := 0) (n := 1) (ys := x.s.cells) rfl rfl rfl rfl rfl rfl rfl rfl rfl ?_; refine JM 11 rfl ?_; refine cD (fun h5 => ?_) fun h5 => ?_
 refine JP 1 rfl ?_
 have hbad := ze x.eq (by omega)
 refine Km 8 rfl ?_; refine Jh rfl rfl (.cons (Jj rfl) (.cons (Jj rfl) .nil)) (fun w1 hs1 => ?_)
 (refine ⟨?_, hs1.keep⟩
  rw [hbad.2]; rfl)
 ·refine JP 3 rfl ?_
  have he : x.err = 0 := by omega
  have hok := Jqx x he
  obtain ⟨hck, hw⟩ := Jqm hok hf
  obtain ⟨hck2, hw2⟩ := Jqn (Ju9 hok.wr)
  obtain ⟨rt, hrt, hrl⟩ := xY hck (wy x.ok)
  obtain ⟨st, hst, hsl⟩ := xY hck2 (by rw [← wB x.s 0]; exact wy (Jpr (zP x.ok A0) 0))
  have hC := Jkv x.eq he hrt hst
  obtain ⟨v, hv⟩ : ∃ v, v = wQ x.f := ⟨_, rfl⟩
  have hv01 := Jxy x.f
  rw [← hv] at hC hv01; refine Jq 1 rfl ?_; refine LR rfl (Jf (xs := x.s.cells) (n := 1) rfl (kn 0 rfl) rfl rfl rfl) ?_; refine Je rfl rfl rfl Jwg (wl (R := x.L ++ R) x.ok (fun _ => hw)) (fun q hq => (List.mem_append.1 hq).elim (fun h => Or.inl (List.mem_cons_of_mem _ (List.mem_cons_of_mem _ h))) (fun hq => Or.inr hq)) ?_; refine J3 (congrArg Yt hrt) ?_; refine JM 8 rfl ?_
  refine JN [] [(3, .pure), (4, .pure), (5, .pure), (6, .grow (Wb Jaz (.cells #[.string ⟨#[]⟩, .int .u64 0, .int .u64 0, .int .u64 0, .int .u64 0, .int .u64 0, .string ⟨#[]⟩, .slice none 0 0] 48 (0, 0)))), (7, .turn), (8, .pure)] 9 [0, 1, 2, 3, 4, 5, 6, 7, 8] (by kernel_rfl) (by kernel_rfl) (by first | exact (fun _ h => absurd h List.not_mem_nil) | simp [SubS] | (intro p hp; simp [hp])) ?_; refine KD (k := 0) rfl rfl rfl rfl rfl (Jf (xs := x.s.cells) (n := 1) rfl (kn 0 rfl) rfl rfl rfl) ?_; refine KT (k := 1) rfl rfl rfl rfl rfl Jwf (P_Addr0.toR) (fun q hq => .inr hq) ?_; refine KT (k := 2) rfl rfl rfl rfl rfl (enters_of Tryz.func18 (by kernel_rfl) rfl) (Jo0 (R := x.L ++ R) x.ok A0) (fun q hq => (List.mem_append.1 hq).elim (fun h => Or.inl (List.mem_cons_of_mem _ (List.mem_cons_of_mem _ h))) (fun hq => Or.inr hq)) ?_; refine Jm (k := 3) rfl rfl rfl rfl rfl (fun _ hS => (Jg rfl)) ?_; refine Jm (k := 4) rfl rfl rfl rfl rfl (fun _ hS => (Kg rfl rfl)) ?_; refine Jm (k := 5) rfl rfl rfl rfl rfl (fun _ hS => (Kg rfl rfl)) ?_; refine Y1 (k := 6) (cs := #[_, _, _, _, _, _, _, _]) rfl rfl rfl rfl rfl rfl fun r9 => ?_; refine Xk (k := 7) (q := 0) (n := 8) (ys := (Q6 x.s A0).cells) rfl rfl rfl rfl rfl rfl rfl rfl rfl rfl rfl (fun _ h => absurd h List.not_mem_nil) ?_; refine Jm (k := 8) rfl rfl rfl rfl rfl (fun _ hS => (JA rfl)) ?_; refine Kv ?_; refine JG 4 rfl ?_; refine LR rfl (Jf (xs := (Q6 x.s A0).cells) (n := 8) rfl (kn 0 rfl) rfl rfl rfl) ?_; refine JK (n := 1) (sz := 8) (vs := [_]) (zs := [_, _, _, _, _, _, _, _]) (r := (Q6 x.s A0).cells) rfl rfl rfl rfl rfl rfl rfl rfl rfl (by rw [Kh]; exact rfl) rfl fun rv => ?_; refine LR rfl (Js (r := [_]) rfl rfl) ?_; refine Je (v := Yt (Qr (StL.er ⟨[Q6 x.s A0], some (⟨rv, 0, none⟩, 1)⟩))) rfl rfl rfl Jwg (wl (Jpr (zP x.ok A0) rv) (fun _ => by rw [wB]; exact hw2)) (fun q hq => (List.mem_cons.1 hq).elim (fun h => .inl (by rw [h]; exact List.mem_cons_self)) fun hq => (List.mem_append.1 hq).elim (fun h => Or.inl (List.mem_cons_of_mem _ (List.mem_cons_of_mem _ (List.mem_cons_of_mem _ (List.mem_cons_of_mem _ h))))) (fun hq => Or.inr hq)) ?_; refine J3 (congrArg Yt ((congrArg Qr (wB x.s rv)).trans hst)) ?_; refine JG 10 rfl ?_; refine Jo rfl rfl rfl (enters_of Tryz.func21 (by kernel_rfl) rfl) (Jzm x.f 5) ?_; refine J3 (show _ = Value.tuple #[.int .i64 v, .int .i64 (Jpy (vl x.f 5))] from by rw [hv]; rfl) ?_; refine Goc 22 [3] rfl rfl ?_; refine cD (fun h14 => ?_) fun h14 => ?_
  refine XA 12 [3] rfl rfl ?_; refine Jo rfl rfl rfl Jwh (xQ (root := rt) hg.time (by omega)) ?_; refine LR rfl (Js (r := [_, _, _]) rfl rfl) ?_; refine QI rfl ?_
  first | (refine Jo rfl rfl rfl Jsg (Yq (p := [rt, st, WZ g.time rt]) rfl (n := 0) (by decide) v) ?_) | (refine Jo rfl rfl rfl Jsg (Yq (p := [rt, st, WZ g.time rt]) rfl (n := g.rc.number) hn0 v) ?_)
  refine Jy 7 rfl ?_; refine Jh rfl rfl (.cons (Jj rfl) (.cons (Jj rfl) .nil)) (fun w1 hs1 => ?_)
  (refine ⟨?_, hs1.keep⟩
   rw [hC, show xX x.f g.rc = 0 from by unfold xX; rw [← hv, if_neg (by omega)]]; rfl)
  ·refine XA 10 [3] rfl rfl ?_; refine Jo rfl rfl rfl Jwh (xQ (root := rt) hg.time (by omega)) ?_; refine LR rfl (Js (r := [_, _, _]) rfl rfl) ?_; refine QI rfl ?_
   first | (refine Jo rfl rfl rfl Jsg (Yq (p := [rt, st, WZ g.time rt]) rfl (n := 0) (by decide) v) ?_) | (refine Jo rfl rfl rfl Jsg (Yq (p := [rt, st, WZ g.time rt]) rfl (n := g.rc.number) hn0 v) ?_)
   refine Jy 7 rfl ?_; refine Jh rfl rfl (.cons (Jj rfl) (.cons (Jj rfl) .nil)) (fun w1 hs1 => ?_)
   (refine ⟨?_, hs1.keep⟩
    rw [hC, show xX x.f g.rc = g.rc.number from by unfold xX; rw [← hv, if_pos (by omega)]]; rfl)
def VC (fs : Array Field) (i : Nat) : Option (TypeId × Nat) := (fs[i]?).map (fun f => (f.type, f.offset))
section
variable {H : Type} {enc : TypeId × Value → H} {P : Program} {w : World} {base : Nat} {sp : Nat → Bool} {held : Bool}
theorem Jkw {tR tW tu tI fuel : Nat} {fa : Array Field} (ha : P.underlying tR = some (.struct fa)) (hA : P.cellsOf tR = 17) (a0 : VC fa 0 = some (tI, 0)) (a1 : VC fa 1 = some (tI, 1)) (a2 : VC fa 2 = some (tW, 2)) (a3 : VC fa 3 = some (tW, 6)) (a4 : VC fa 4 = some (tW, 10))
  (a5 : VC fa 5 = some (tI, 14)) (a6 : VC fa 6 = some (tI, 15)) (a7 : VC fa 7 = some (tI, 16))
  (hI : P.underlying tI = some (.int .u64)) (hIc : P.cellsOf tI = 1) (hW : P.underlying tW = some (.array 4 tu)) (hWc : P.cellsOf tW = 4) (hu : P.underlying tu = some (.int .u64)) (huc : P.cellsOf tu = 1)
  {cs : List Value} {x : DataW H × List MemPlace} (h : DataW.trod enc P w base sp held fuel tR cs = some x) : ∃ s : Rec, cs = s.cells ∧ s.ok := by
 have hl := YR ha hA h
 match cs, hl with
 | [c0, c1, c2, c3, c4, c5, c6, c7, c8, c9, c10, c11, c12, c13, c14, c15, c16], _ =>
  obtain ⟨n0, y0, _, e0⟩ := JY ha a0 hIc h
  obtain ⟨n1, y1, _, e1⟩ := JY ha a1 hIc h
  obtain ⟨n2, y2, _, e2⟩ := JY ha a2 hWc h
  obtain ⟨n3, y3, _, e3⟩ := JY ha a3 hWc h
  obtain ⟨n4, y4, _, e4⟩ := JY ha a4 hWc h
  obtain ⟨n5, y5, _, e5⟩ := JY ha a5 hIc h
  obtain ⟨n6, y6, _, e6⟩ := JY ha a6 hIc h
  obtain ⟨n7, y7, _, e7⟩ := JY ha a7 hIc h
  obtain ⟨x0, f0, g0⟩ := We hI e0
  obtain ⟨x1, f1, g1⟩ := We hI e1
  obtain ⟨u0, u1, u2, u3, f2, k0, k1, k2, k3⟩ := qN hW hWc huc hu e2
  obtain ⟨v0, v1, v2, v3, f3, l0, l1, l2, l3⟩ := qN hW hWc huc hu e3
  obtain ⟨w0, w1, w2, w3, f4, m0, m1, m2, m3⟩ := qN hW hWc huc hu e4
  obtain ⟨x5, f5, g5⟩ := We hI e5
  obtain ⟨x6, f6, g6⟩ := We hI e6
  obtain ⟨x7, f7, g7⟩ := We hI e7
  obtain rfl : c0 = uV x0 := by simpa using f0
  obtain rfl : c1 = uV x1 := by simpa using f1
  obtain ⟨rfl, rfl, rfl, rfl⟩ : c2 = uV u0 ∧ c3 = uV u1 ∧ c4 = uV u2 ∧ c5 = uV u3 := by simpa using f2
  obtain ⟨rfl, rfl, rfl, rfl⟩ : c6 = uV v0 ∧ c7 = uV v1 ∧ c8 = uV v2 ∧ c9 = uV v3 := by simpa using f3
  obtain ⟨rfl, rfl, rfl, rfl⟩ : c10 = uV w0 ∧ c11 = uV w1 ∧ c12 = uV w2 ∧ c13 = uV w3 := by simpa using f4
  obtain rfl : c14 = uV x5 := by simpa using f5
  obtain rfl : c15 = uV x6 := by simpa using f6
  obtain rfl : c16 = uV x7 := by simpa using f7
  exact ⟨⟨x0, x1, ⟨u0, u1, u2, u3⟩, ⟨v0, v1, v2, v3⟩, ⟨w0, w1, w2, w3⟩, x5, x6, x7⟩, rfl, ⟨g0, g1, ⟨k0, k1, k2, k3⟩, ⟨l0, l1, l2, l3⟩, ⟨m0, m1, m2, m3⟩, g5, g6, g7⟩⟩
theorem Jdm {α β : Type} (f : α → β) : ∀ l : List α, l.flatMap (fun x => [f x]) = l.map f
 | [] => rfl
 | x :: l => by rw [List.flatMap_cons, Jdm f l]; rfl
theorem open_gen {tG tC tN tR tX tA tT tS tL tW tu tI : Nat} {fg fc fr fs fa : Array Field} (ht : P.underlying tT = some (.struct fs)) (hT : P.cellsOf tT = 2) (h0 : VC fs 0 = some (tS, 0)) (h1 : VC fs 1 = some (tS, 1)) (hS : P.underlying tS = some .string) (hSc : P.cellsOf tS = 1)
  (ha : P.underlying tA = some (.struct fa)) (hA : P.cellsOf tA = 8) (a0 : VC fa 0 = some (tS, 0)) (a1 : VC fa 1 = some (tI, 1)) (a2 : VC fa 2 = some (tW, 2)) (a3 : VC fa 3 = some (tS, 6)) (a4 : VC fa 4 = some (tL, 7))
  (hI : P.underlying tI = some (.int .u64)) (hIc : P.cellsOf tI = 1) (hW : P.underlying tW = some (.array 4 tu)) (hWc : P.cellsOf tW = 4) (hu : P.underlying tu = some (.int .u64)) (huc : P.cellsOf tu = 1) (hL : P.underlying tL = some (.slice tT)) (hLc : P.cellsOf tL = 1)
  (hX : P.underlying tX = some (.slice tA)) (hXc : P.cellsOf tX = 1)
  (hr : P.underlying tR = some (.struct fr)) (hRc : P.cellsOf tR = 17) (r0 : VC fr 0 = some (tI, 0)) (r1 : VC fr 1 = some (tI, 1)) (r2 : VC fr 2 = some (tW, 2)) (r3 : VC fr 3 = some (tW, 6)) (r4 : VC fr 4 = some (tW, 10))
  (r5 : VC fr 5 = some (tI, 14)) (r6 : VC fr 6 = some (tI, 15)) (r7 : VC fr 7 = some (tI, 16))
  (hc : P.underlying tC = some (.struct fc)) (hCc : P.cellsOf tC = 1) (c0 : VC fc 0 = some (tN, 0)) (hN : P.underlying tN = some (.slice tI)) (hNc : P.cellsOf tN = 1)
  (hg : P.underlying tG = some (.struct fg)) (hGc : P.cellsOf tG = 20) (g0 : VC fg 0 = some (tC, 0)) (g1 : VC fg 1 = some (tI, 1)) (g2 : VC fg 2 = some (tR, 2)) (g3 : VC fg 3 = some (tX, 19))
  {r : Reach} {b0 : Nat} {v : Value} {d : DataW H} {ps : List MemPlace} (hval : Value.okWide P w r b0 tG v) (hd : DataW.Trod enc P w base sp held tG v d ps) : ∃ g : GenL, v = g.val ∧ g.In (Jd2 w) := by
 obtain ⟨fuel, h⟩ := hd
 have hl := YR hg hGc h
 generalize hcs : v.cells.toList = cs at h hl
 obtain ⟨n0, y0, _, e0⟩ := JY hg g0 hCc h
 obtain ⟨n1, y1, _, e1⟩ := JY hg g1 hIc h
 obtain ⟨n2, y2, _, e2⟩ := JY hg g2 hRc h
 obtain ⟨n3, y3, _, e3⟩ := JY hg g3 hXc h
 obtain ⟨m0, z0, _, k0⟩ := JY hc c0 hNc e0
 obtain ⟨ts, tp, ets, tsg, tlen, tok⟩ := Y2 (f := fun n => [uV n]) (ok := VD) (by decide) (fun _ => rfl) hN hIc (fun m hm cs x hx => We hI hx) k0
 obtain ⟨t, et, tu64⟩ := We hI e1
 obtain ⟨rc, erc, hrc⟩ := Jkw hr hRc r0 r1 r2 r3 r4 r5 r6 r7 hI hIc hW hWc hu huc e2
 obtain ⟨l, p, ep, hsg, hlen, hok⟩ := Y2 (f := AcL.cells) (ok := AcL.In (Jd2 w)) (by decide) AcL.len hX hA (fun m hm cs x hx => Jr0 ht hT h0 h1 hS hSc ha hA a0 a1 a2 a3 a4 hI hIc hW hWc hu huc hL hLc hx) e3
 rw [Jdm] at tsg
 refine ⟨⟨ts, tp, t, rc, l, p⟩, Jbk hg hval (hcs.trans ?_), ⟨tlen, tsg, tok, tu64, hrc, ⟨hlen, hsg, hok⟩⟩⟩
 rw [GenL.cells_eq]
 have q0 : cs.take 1 = [Kz ts.length tp] := by rw [← ets]; simp [List.take_take]
 have q3 : cs.drop 19 = [Kz l.length p] := by
  rw [← ep, List.take_of_length_le]; rw [List.length_drop, hl]; decide
 have s1 : cs = cs.take 1 ++ ((cs.drop 1).take 1 ++ ((cs.drop 2).take 17 ++ cs.drop 19)) := by
  have a : ∀ (k n : Nat), cs.drop k = (cs.drop k).take n ++ cs.drop (k + n) := fun k n => by rw [← List.drop_drop, List.take_append_drop]
  rw [← a 2 17, ← a 1 1, List.take_append_drop]
 rw [s1, q0, et, erc, q3]
 rfl
end
theorem Jzx {a b : Bool} (h : a = b) : Value.bool a = .bool b := congrArg _ h
theorem Jzy {a b : BS} (h : a ≠ b) : (!decide (a = b)) = true := by simp [h]
theorem Jqz {s : BS} {n : Nat} (h : s.length = n) : Value.int .i64 (s.length : Int) = .int .i64 (n : Int) := by rw [h]
def g25 (r t : Nat) (l : List AcL) (p : Pl) : GenL := ⟨[5, 9], some (⟨r, 0, none⟩, 2), t, rec0, l, p⟩
def tB (r : Nat) : Nat × Obj := (r, .cells #[uV 5, uV 9] 25 (0, 0))
theorem Jaa {R : Ji} {r t : Nat} {l : List AcL} {p : Pl} (h : tB r ∈ R) (ht : VD t) (hs : StL.In R ⟨l, p⟩) : (g25 r t l p).In R := by
 refine ⟨show (2 : Nat) ≤ Ys by decide, ?_, ?_, ht, Jrx, hs⟩
 ·exact (Ku (row := some (r, 2, [])) (sz := 1) (n := 2) (e := 25) (cs := [uV 5, uV 9]) ⟨rfl, rfl⟩ (by decide)).mono fun q hq => by rw [List.mem_singleton.1 hq]; exact h
 ·intro x hx
  rcases List.mem_cons.1 hx with rfl | hx
  ·exact jR (by decide)
  ·rw [List.mem_singleton.1 hx]; exact jR (by decide)
def xL (b : BS) : AcL := ⟨b, 0, w40, [], [], none⟩
theorem Jdn {R : Ji} {b : BS} (h : b.length ≤ Ys) : (xL b).In R := ⟨h, QM, w40_ok, Nat.zero_le _, Nat.zero_le _, rfl, by simp [xL]⟩
def l25 : List AcL := [xL m25, xL wx]
def k25 : List AcL := [xL m25, xL wx, xL wx]
theorem Jx2 {R : Ji} : ∀ a ∈ l25, a.In R := fun a ha => by
 rcases List.mem_cons.1 ha with rfl | ha
 ·exact Jdn (by decide)
 ·rw [List.mem_singleton.1 ha]; exact Jdn (by decide)
theorem Jx3 {R : Ji} : ∀ a ∈ k25, a.In R := fun a ha => by
 rcases List.mem_cons.1 ha with rfl | ha
 ·exact Jdn (by decide)
 rcases List.mem_cons.1 ha with rfl | ha
 ·exact Jdn (by decide)
 ·rw [List.mem_singleton.1 ha]; exact Jdn (by decide)
def aB (rv : Nat) : Nat × Obj := (rv, .cells (KH l25).toArray 48 (0, 0))
theorem Jzz (r rv : Nat) : StL.In [tB r, aB rv] ⟨l25, some (⟨rv, 0, none⟩, 2)⟩ :=
 ⟨show (2 : Nat) ≤ Ys by decide, (Ku (row := some (rv, 2, [])) (sz := 8) (n := 2) (e := 48) (cs := KH l25) ⟨rfl, rfl⟩ (by decide)).mono fun q hq => by rw [List.mem_singleton.1 hq]; exact List.mem_cons_of_mem _ (List.mem_singleton.2 (by simp [aB])), Jx2⟩
def cB (ra : Nat) (sp : List Value) : Nat × Obj := (ra, .cells (KH l25 ++ (xL wx).cells ++ sp).toArray 48 (0, 0))
theorem Jvr {r ra cap : Nat} {sp : List Value} (h : rowOk 8 3 (KH l25 ++ (xL wx).cells) (some (ra, cap, sp))) : StL.In [tB r, cB ra sp] ⟨k25, some (⟨ra, 0, none⟩, cap)⟩ :=
 ⟨show (3 : Nat) ≤ Ys by decide, (Ku (n := 3) (e := 48) (cs := KH l25 ++ (xL wx).cells) h (by decide)).mono fun q hq => by rw [List.mem_singleton.1 hq]; exact List.mem_cons_of_mem _ (List.mem_singleton.2 rfl), Jx3⟩
set_option maxHeartbeats 2000000 in
theorem Jkx {R : Ji} : PureR Tryz.prog 9 #[] (.bool true) R := by
 have hH := J1n
 have hK := J1o
 have hne := J1j
 have hl1 : U24.length = 32 := by decide
 have hl2 : U25.length = 32 := by decide
 generalize U24 = hh at hH hne hl1
 generalize U25 = cc at hK hne hl2
 refine Ja Tryz.func9 rfl rfl fun w => ?_; refine JB ?_; refine Jq 7 rfl ?_; refine JK (n := 2) (sz := 1) (vs := [_, _]) (zs := [_, _]) (r := [uV 5, uV 9]) rfl rfl rfl rfl rfl rfl rfl rfl rfl (by rw [Kh]; exact rfl) rfl fun r1 => ?_; refine LR rfl (Js (r := [_]) rfl rfl) ?_; refine LR rfl (Js (r := [_, _, _, _, _, _, _, _, _, _, _, _, _, _, _, _, _, _, _, _]) rfl rfl) ?_; refine LN rfl fun r2 => ?_; refine Jk (k := 0) (n := 20) (ys := ((g25 r1 6 [] none)).cells) rfl rfl rfl rfl rfl rfl rfl rfl rfl ?_
 have hg1 : GenL.In [tB r1] (g25 r1 6 [] none) := Jaa (List.mem_singleton.2 rfl) (jR (by decide)) Jmg
 refine JG 4 rfl ?_; refine LR rfl (Jf (xs := (g25 r1 6 [] none).cells) (n := 20) rfl (kn 0 rfl) rfl rfl rfl) ?_; refine Kl rfl rfl rfl Jb1 (Xu (R := [tB r1]) hg1 (Nat.zero_le _)) (fun q hq => by rw [List.mem_singleton.1 hq]; exact .inl (List.mem_cons_of_mem _ List.mem_cons_self)) fun x => ?_; refine Kn List.perm_append_comm ?_; change HL _ _ ((24, .tuple #[x.s.val, .int .i64 x.f, .int .i64 x.err]) :: _) ((r2, _) :: (r1, _) :: x.L) _ _ _ _
 obtain ⟨hx1, hx2⟩ := Prod.mk.inj (x.eq.trans Jxz)
 obtain ⟨hx2, hx3⟩ := Prod.mk.inj hx2
 rw [hx2, hx3]; refine LS 4 [] rfl rfl ?_; refine LN rfl fun r3 => ?_; refine Jk (k := 0) (n := 1) (ys := x.s.cells) rfl rfl rfl rfl rfl rfl rfl rfl rfl ?_; refine JG 6 rfl ?_; refine LR rfl (Jf (xs := (g25 r1 6 [] none).cells) (n := 20) rfl (kn 1 rfl) rfl rfl rfl) ?_; refine Je rfl rfl rfl (enters_of Tryz.func14 (by kernel_rfl) rfl) (Jx1 (R := [tB r1]) hg1 (show Yp [] = true by decide)) (fun q hq => by rw [List.mem_singleton.1 hq]; exact .inl (List.mem_cons_of_mem _ (List.mem_cons_of_mem _ List.mem_cons_self))) ?_; refine J3 (congrArg Yt hH) ?_; refine JG 9 rfl ?_; refine LR rfl (Jf (xs := (g25 r1 6 [] none).cells) (n := 20) rfl (kn 1 rfl) rfl rfl rfl) ?_; refine Je rfl rfl rfl Jwe (xZ (R := [tB r1]) hg1 (show Yp [] = true by decide)) (fun q hq => by rw [List.mem_singleton.1 hq]; exact .inl (List.mem_cons_of_mem _ (List.mem_cons_of_mem _ List.mem_cons_self))) ?_; refine J3 (congrArg Yt hK) ?_; refine JG 9 rfl ?_; refine Wz (n := 20) (b := 1) rfl rfl rfl rfl rfl rfl rfl rfl rfl (by decide) (by decide) fun rk => ?_; rw [show List.replicate 20 (Value.int .u8 0) = (wx).map bV from rfl]; refine LR rfl (Qs (b := wx) (row := some (rk, 20, [])) (e := 5) (show _ = some (J9 (List.length wx) _) from rfl) ⟨rfl, rfl⟩ (fun p hp => .inl (by rw [List.mem_singleton.1 hp, List.append_nil]; exact List.mem_cons_self)) rfl rfl rfl) ?_; refine JG 6 rfl ?_; refine LR rfl (j5 (kl := some (.i64, 1)) (kh := none) (m := 1) (n := 20) rfl rfl rfl rfl rfl rfl (by decide) (by decide) (show _ = List.replicate 19 0 from rfl)) ?_; refine LR rfl (Q0 (a := [98]) (b := List.replicate 19 0) rfl rfl (by decide)) ?_; refine J3 (show _ = J6 m25 from rfl) ?_; refine LR rfl (Js (r := [_, _, _, _, _, _, _, _]) rfl rfl) ?_; refine QI rfl (LR rfl (Js (r := [_, _, _, _, _, _, _, _]) rfl rfl) ?_); refine JK (n := 2) (sz := 8) (vs := [_, _]) (zs := [_, _, _, _, _, _, _, _, _, _, _, _, _, _, _, _]) (r := KH l25) rfl rfl rfl rfl rfl rfl rfl rfl rfl (by rw [Kh]; exact rfl) rfl fun rv => ?_
 refine LS 1 [] rfl rfl ?_; refine Kx (k := 3) (cs' := ((g25 r1 6 l25 (some (⟨rv, 0, none⟩, 2)))).cells.toArray) rfl rfl rfl rfl rfl rfl rfl rfl rfl rfl ?_
 have hg2 : GenL.In [tB r1, aB rv] (g25 r1 6 l25 (some (⟨rv, 0, none⟩, 2))) := Jaa List.mem_cons_self (jR (by decide)) (Jzz r1 rv)
 refine JG 4 rfl ?_; refine LR rfl (Jf (xs := (g25 r1 6 l25 (some (⟨rv, 0, none⟩, 2))).cells) (n := 20) rfl (kn 3 rfl) rfl rfl rfl) ?_; refine Kl rfl rfl rfl Jb1 (Xu (R := [tB r1, aB rv]) hg2 (show (2 : Nat) ≤ 1000 by decide)) (fun q hq => (List.mem_cons.1 hq).elim (fun h => .inl (by rw [h]; exact (List.mem_cons_of_mem _ (List.mem_cons_of_mem _ (List.mem_cons_of_mem _ (List.mem_cons_of_mem _ List.mem_cons_self)))))) fun h => .inl (by rw [List.mem_singleton.1 h]; exact List.mem_cons_self)) fun y => ?_; refine Kn (QW y.L [_, _, _, _, _] (x.L)) ?_; change HL _ _ ((50, .tuple #[y.s.val, .int .i64 y.f, .int .i64 y.err]) :: _) ((rv, _) :: (rk, _) :: (r3, _) :: (r2, _) :: (r1, _) :: (y.L ++ (x.L))) _ _ _ _
 obtain ⟨hy1, hy2⟩ := Prod.mk.inj (y.eq.trans J1k)
 obtain ⟨hy2, hy3⟩ := Prod.mk.inj hy2
 rw [hy2, hy3]; refine LS 4 [] rfl rfl ?_; refine LN rfl fun r10 => ?_; refine Jk (k := 0) (n := 1) (ys := y.s.cells) rfl rfl rfl rfl rfl rfl rfl rfl rfl ?_; refine XB 9 [4] rfl rfl ?_; refine LR rfl (Js (r := [_, _, _, _, _, _, _, _]) rfl rfl) ?_; refine JK (n := 1) (sz := 8) (vs := [_]) (zs := [_, _, _, _, _, _, _, _]) (r := (xL wx).cells) rfl rfl rfl rfl rfl rfl rfl rfl rfl (by rw [Kh]; exact rfl) rfl fun rw1 => ?_; refine Kq (L0 := _ :: _ :: _ :: _ :: _ :: _ :: (y.L ++ x.L)) (xs := KH l25) (row := some (rv, 2, [])) (n := 2) (sz := 8) (b := 96) (news := (xL wx).cells) (List.perm_middle (l₁ := [_, _])) rfl rfl rfl rfl (kn 0 rfl) rfl rfl rfl rfl rfl (by decide) rfl rfl rfl (by decide) ⟨rfl, rfl⟩ (by decide) (by decide) fun ra cap sp hra => ?_
 refine LS 1 [] rfl rfl ?_; refine Kx (k := 5) (cs' := ((g25 r1 6 k25 (some (⟨ra, 0, none⟩, cap)))).cells.toArray) rfl rfl rfl rfl rfl rfl rfl rfl rfl rfl ?_
 have hg3 : GenL.In [tB r1, cB ra sp] (g25 r1 6 k25 (some (⟨ra, 0, none⟩, cap))) := Jaa List.mem_cons_self (jR (by decide)) (Jvr hra)
 have hg4 : GenL.In [tB r1, cB ra sp] (g25 r1 4 k25 (some (⟨ra, 0, none⟩, cap))) := Jaa List.mem_cons_self (jR (by decide)) (Jvr hra)
 refine JG 4 rfl ?_; refine LR rfl (Jf (xs := (g25 r1 6 k25 (some (⟨ra, 0, none⟩, cap))).cells) (n := 20) rfl (kn 5 rfl) rfl rfl rfl) ?_; refine Kl rfl rfl rfl Jb1 (Xu (R := [tB r1, cB ra sp]) hg3 (show (3 : Nat) ≤ 1000 by decide)) (fun q hq => (List.mem_cons.1 hq).elim (fun h => .inl (by rw [h]; exact (List.mem_cons_of_mem _ (List.mem_cons_of_mem _ (List.mem_cons_of_mem _ (List.mem_cons_of_mem _ (List.mem_cons_of_mem _ (List.mem_cons_of_mem _ List.mem_cons_self)))))))) fun h => .inl (by rw [List.mem_singleton.1 h]; exact List.mem_cons_self)) fun z => ?_; refine Kn (QW z.L [_, _, _, _, _, _, _] (y.L ++ x.L)) ?_; change HL _ _ ((63, .tuple #[z.s.val, .int .i64 z.f, .int .i64 z.err]) :: _) ((ra, _) :: (rw1, _) :: (r10, _) :: (rk, _) :: (r3, _) :: (r2, _) :: (r1, _) :: (z.L ++ (y.L ++ x.L))) _ _ _ _
 obtain ⟨hz1, hz2⟩ := Prod.mk.inj (z.eq.trans J1l)
 obtain ⟨hz2, hz3⟩ := Prod.mk.inj hz2
 rw [hz2, hz3]; refine LS 4 [] rfl rfl ?_; refine LN rfl fun r13 => ?_; refine Jk (k := 0) (n := 1) (ys := z.s.cells) rfl rfl rfl rfl rfl rfl rfl rfl rfl ?_; refine JG 7 rfl ?_; refine Kx (k := 6) (cs' := ((g25 r1 4 k25 (some (⟨ra, 0, none⟩, cap)))).cells.toArray) rfl rfl rfl rfl rfl rfl rfl rfl rfl rfl ?_; refine JG 4 rfl ?_; refine LR rfl (Jf (xs := (g25 r1 4 k25 (some (⟨ra, 0, none⟩, cap))).cells) (n := 20) rfl (kn 6 rfl) rfl rfl rfl) ?_; refine Kl rfl rfl rfl Jb1 (Xu (R := [tB r1, cB ra sp]) hg4 (show (3 : Nat) ≤ 1000 by decide)) (fun q hq => (List.mem_cons.1 hq).elim (fun h => .inl (by rw [h]; exact (List.mem_cons_of_mem _ (List.mem_cons_of_mem _ (List.mem_cons_of_mem _ (List.mem_cons_of_mem _ (List.mem_cons_of_mem _ (List.mem_cons_of_mem _ (List.mem_cons_of_mem _ List.mem_cons_self))))))))) fun h => .inl (by rw [List.mem_singleton.1 h]; exact (List.mem_cons_of_mem _ List.mem_cons_self))) fun u => ?_; refine Kn (QW u.L [_, _, _, _, _, _, _, _] (z.L ++ (y.L ++ x.L))) ?_; change HL _ _ ((70, .tuple #[u.s.val, .int .i64 u.f, .int .i64 u.err]) :: _) ((r13, _) :: (ra, _) :: (rw1, _) :: (r10, _) :: (rk, _) :: (r3, _) :: (r2, _) :: (r1, _) :: (u.L ++ (z.L ++ (y.L ++ x.L)))) _ _ _ _
 obtain ⟨hu1, hu2⟩ := Prod.mk.inj (u.eq.trans (J1m _))
 obtain ⟨hu2, hu3⟩ := Prod.mk.inj hu2
 rw [hu2, hu3]; refine LS 4 [] rfl rfl ?_; refine LN rfl fun r16 => ?_; refine Jk (k := 0) (n := 1) (ys := u.s.cells) rfl rfl rfl rfl rfl rfl rfl rfl rfl ?_; refine XB 8 [6] rfl rfl ?_; refine LR rfl (J0 rfl x.ok.seg rfl) ?_; refine J3 (Jpp (show _ = (1 : Int) by rw [← x.s.er_len, hx1]; rfl)) ?_; refine LS 11 [] rfl rfl ?_; refine LR rfl (vg rfl rfl rfl) ?_; refine J3 (show _ = Value.int .i64 32 from Jqz hl1) ?_; refine LS 8 [] rfl rfl ?_; refine LR rfl (vg rfl rfl rfl) ?_; refine J3 (show _ = Value.int .i64 32 from Jqz hl2) ?_; refine LS 5 [] rfl rfl ?_; refine LR rfl (Jf3 (a := cc) (b := hh) rfl rfl) ?_; refine J3 (Jzx (Jzy hne.symm)) ?_; refine XB 8 [4] rfl rfl ?_; refine LR rfl (J0 rfl y.ok.seg rfl) ?_; refine J3 (Jpp (show _ = (3 : Int) by rw [← y.s.er_len, hy1]; rfl)) ?_; refine Jy 22 rfl ?_; refine pT rfl rfl rfl fun w1 hs1 => ?_; exact ⟨rfl, hs1.keep⟩
end Go.Proofs.YtfaagelglpgpkaaGreatDoor
