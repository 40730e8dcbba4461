import Derived.Test.YtfaagelglpgpkaaGreatDoorZtLatere
import Derived.Test.YtfaagelglpgpkaaGreatDoorProg
import Derived.Shelf.SlGeneric
import Derived.Shelf.SlSortCmp.WholeK
import Derived.Ground.SlsfProg
set_option maxRecDepth 100000
namespace Go.Proofs.YtfaagelglpgpkaaGreatDoor
set_option linter.all false
open Go.SL Go.RowKit Go.Shelf
theorem _root_.Go.SL.PureT.ne {α : Type} {P : Program} {f : FuncId} {args : Array Value} {V : α → Value} {LL : α → Jm} {Rl : Jm} (h : PureT P f args V [] LL Rl) {w : World} (hR : Has Rl w) : Nonempty α := by
 obtain ⟨e, w', fr, ⟨x, _⟩, _⟩ := h.run w (fun p hp => by cases hp) hR List.Pairwise.nil (fun p _ q hq => by cases hq) []
 exact ⟨x⟩
theorem jR {α : Type} {P : Program} {f : FuncId} {fn : Func} {code : Code} {vs : List Value} {V : α → Value} {T Rl : Jm} {LL : α → Jm} (hf : P.funcs[f]? = some fn) (hb : fn.body = some code) (hlen : Nat.ble vs.length fn.ntmps = true)
  (h : ∀ w, Has Rl w → HC (cxT P w T Rl fn.ntmps) [] (V9 0 vs) T (fun _ _ => True) code (bodyPostM (FW none) 0 P fn (fun e w' => ∃ x, e = .returned (V x) ∧ St (cxT P w T Rl fn.ntmps) (LL x) (fun _ _ => True) w'))) : PureT P f vs.toArray V T LL Rl := ⟨fun w hT hR hd hne =>
 (Qy (cxT P w T Rl fn.ntmps) hf hb rfl rfl rfl hlen (St.startT hT hR hd hne) (h w hR)).mono fun _ _ ⟨x, he, hs⟩ => ⟨x, he, by have := hs.keep; simpa [cxT] using this, fun p hp => ⟨(hs.own p hp).1, (hs.own p hp).2.2⟩, hs.distinct⟩⟩
theorem Jrv {f g : Int} (hw : SL.Way f g) (r : Rec) : Pure Tryz.prog 64 [.int .i64 f, .int .i64 g, r.val, .func (.func 65) #[] #[]].toArray (.tuple #[(W9 (g - f).toNat f r).val, .int .i64 0]) := by
 have hb : 0 ≤ f ∧ f ≤ g ∧ g ≤ 5 := hw
 obtain ⟨res, hres⟩ : ∃ res, res = W9 (g - f).toNat f r := ⟨_, rfl⟩
 rw [← hres]; refine Jk Tryz.func64 rfl rfl fun w => ?_; refine J8 ?_; refine Jo 2 rfl ?_; refine JS (cs := r.cells.toArray) rfl rfl rfl rfl fun rx => ?_; refine LN rfl fun r1 => ?_; refine LN rfl fun r2 => ?_; refine LN rfl fun r3 => ?_; refine JC 4 rfl ?_; refine LR rfl (Jb (xs := r.cells) (n := 17) rfl (kn 3 rfl) rfl rfl rfl) ?_; refine LN rfl fun r4 => ?_; refine Jc (k := 0) (n := 17) (ys := (r).cells) rfl rfl rfl rfl rfl rfl rfl rfl rfl ?_; refine JC 7 rfl ?_; refine JJ rfl rfl rfl (enters_of Tryz.func118 (by kernel_rfl) rfl) (Jj0 f g) fun p => ?_
 obtain ⟨p1, p2⟩ := p
 change HL _ _ _ ((p2, _) :: (p1, _) :: _) _ _ _ _; refine JI 3 rfl ?_; refine Vt [2, 0, 1, 3, 4, 5, 6] (L' := [_, _, _, _, _, _, _]) (by decide) rfl ?_
 refine Vk (τ := Unit) (fun i (s : Rec) => f ≤ i ∧ res = W9 (g - i).toNat i s) (fun s => [(r4, .cells s.cells.toArray 29 (0, 0))]) (fun _ _ => False) (fun _ => []) [(p2, .cells #[.int .i64 g] 3 (0, 0)), (p1, .cells #[.int .i64 f] 3 (0, 0)), _, _, _, _] r rfl rfl (enters_of Tryz.func190 (by kernel_rfl) rfl) (Jj2 hw p1 p2) Jj1 rfl (fun q hq => .inl (by
  rcases List.mem_cons.1 hq with rfl | hq
  exact List.mem_cons_self
  rw [List.mem_singleton.1 hq]; exact List.mem_cons_of_mem _ List.mem_cons_self)) rfl ⟨Int.le_refl _, hres⟩ ?_ ?_ ?_
 rintro q Xr Xb w3 i _ _ _ s ⟨hi, rfl, rfl, rfl⟩ ⟨hfi, hinv⟩ Kr hKr; refine yE ?_
 rw [show (g - i).toNat = (g - (i + 1)).toNat + 1 by omega] at hinv; refine Kn 3 rfl ?_; refine hKr _ _ ?_; refine J8 ?_; clear hKr; refine Jo 3 rfl ?_; refine LR rfl (Jh rfl (Jy (k := 4) rfl) rfl rfl) ?_; refine Qx rfl (LR rfl (Jb (xs := s.cells) (n := 17) rfl (kn 0 rfl) rfl rfl rfl) (Jl rfl rfl rfl (enters_of Tryz.func65 (by kernel_rfl) rfl) (Jru (f := i) ⟨by omega, by omega⟩ s) ?_)); refine LS 3 [] rfl rfl ?_; refine LN rfl fun r5 => ?_; refine Jc (k := 0) (n := 17) (ys := (QT i s).cells) rfl rfl rfl rfl rfl rfl rfl rfl rfl ?_; refine JI 10 rfl ?_; refine Jw rfl (fun h8 => ?_) (fun h8 => ?_)
 try exact Bool.noConfusion h8
 try simp only [ZZ] at h8
 refine Jo 3 rfl ?_; refine LR rfl (Jb (xs := (QT i s).cells) (n := 17) rfl (kn 0 rfl) rfl rfl rfl) ?_; refine Jc (k := 1) (n := 17) (ys := (QT i s).cells) rfl rfl rfl rfl rfl rfl rfl rfl rfl ?_; refine Jx 2 rfl ?_; refine ZX (L' := [(r4, .cells (QT i s).cells.toArray 29 (0, 0))]) (fun _ _ h => h) (.cons _ (List.Sublist.refl _)) ?_; exact Kf (QT i s) ⟨by omega, hinv⟩ rfl
 rintro D i s ⟨hng, hfi⟩ ⟨-, hinv⟩
 rw [show (g - i).toNat = 0 by omega] at hinv
 have hinv : res = s := hinv
 refine gqo 4 rfl ?_; refine LR rfl (Jb (xs := s.cells) (n := 17) rfl (kn 1 rfl) rfl rfl rfl) ?_; refine Jc (k := 5) (n := 17) (ys := (s).cells) rfl rfl rfl rfl rfl rfl rfl rfl rfl ?_
 refine LT 4 rfl rfl ?_; refine Jx 3 rfl ?_; refine Kq (k := 0) rfl rfl ?_; refine Jf rfl rfl (.cons (Jq (vs := s.cells) rfl (kn 5 rfl) rfl rfl) (.cons (JQ rfl (kn 4 rfl) rfl rfl) .nil)) (fun w1 hs1 => ?_); exact ⟨by rw [hinv]; rfl, hs1.keep⟩
 ·rintro D j s hst
  exact hst.elim
theorem Jwg (f g : Int) (r : Rec) : Pure Tryz.prog 27 [.int .i64 f, .int .i64 g, r.val].toArray (.tuple #[(Wd f g r).1.val, .int .i64 (Wd f g r).2]) := by
 by_cases hf : SL.Way f g
 have hw : decide (SL.Way f g) = true := decide_eq_true hf
 have e : Wd f g r = if V3 f r ≠ 0 then (rec0, V3 f r) else (W9 (g - f).toNat f r, 0) := by unfold Wd; rw [if_neg (by simpa using hf)]
 rw [e]; refine Jk Tryz.func27 rfl rfl fun w => ?_; refine J8 ?_; refine Jo 2 rfl ?_; refine JS (cs := r.cells.toArray) rfl rfl rfl rfl fun rb => ?_; refine LN rfl fun r1 => ?_; refine JC 8 rfl ?_; refine Jl rfl rfl rfl Jlj (zP f g) ?_; refine J2 (Y3 hw) ?_; refine JI 3 rfl ?_; refine cD (fun h4 => ?_) fun h4 => ?_
 try exact Bool.noConfusion h4
 refine Jo 6 rfl ?_; refine LR rfl (Jb (xs := r.cells) (n := 17) rfl (kn 1 rfl) rfl rfl rfl) ?_; refine Jl rfl rfl rfl (enters_of Tryz.func63 (by kernel_rfl) rfl) (Jrf f r) ?_; refine JI 9 rfl ?_; refine cD (fun h9 => ?_) fun h9 => ?_
 refine Jo 2 rfl ?_; refine LR rfl (Js (r := [_, _, _, _, _, _, _, _, _, _, _, _, _, _, _, _, _]) rfl rfl) ?_; refine Qx rfl (Jc (k := 0) (n := 17) (ys := (rec0).cells) rfl rfl rfl rfl rfl rfl rfl rfl rfl (Jx 5 rfl ?_)); refine Jf rfl rfl (.cons (Jq (vs := [_, _, _, _, _, _, _, _, _, _, _, _, _, _, _, _, _]) rfl (kn 0 rfl) rfl rfl) (.cons (Jj rfl) .nil)) (fun w1 hs1 => ?_); rw [if_pos (by omega)]; exact ⟨rfl, hs1.keep⟩
 refine Jo 6 rfl ?_; refine LR rfl (Jb (xs := r.cells) (n := 17) rfl (kn 1 rfl) rfl rfl rfl) ?_; refine Jl rfl rfl rfl (enters_of Tryz.func64 (by kernel_rfl) rfl) (Jrv hf r) ?_; refine LS 2 [] rfl rfl ?_; refine Jc (k := 0) (n := 17) (ys := (W9 (g - f).toNat f r).cells) rfl rfl rfl rfl rfl rfl rfl rfl rfl ?_; refine Jx 4 rfl ?_; refine Jf rfl rfl (.cons (Jq (vs := [_, _, _, _, _, _, _, _, _, _, _, _, _, _, _, _, _]) rfl (kn 0 rfl) rfl rfl) (.cons (Jj rfl) .nil)) (fun w1 hs1 => ?_); rw [if_neg (by omega)]; exact ⟨rfl, hs1.keep⟩
 ·have e : Wd f g r = (rec0, 10) := by unfold Wd; rw [if_pos hf]
  have hw : decide (SL.Way f g) = false := decide_eq_false hf
  rw [e]; refine Jk Tryz.func27 rfl rfl fun w => ?_; refine J8 ?_; refine Jo 2 rfl ?_; refine JS (cs := r.cells.toArray) rfl rfl rfl rfl fun rb => ?_; refine LN rfl fun r1 => ?_; refine JC 8 rfl ?_; refine Jl rfl rfl rfl Jlj (zP f g) ?_; refine J2 (Y3 hw) ?_; refine JI 3 rfl ?_; refine Jw rfl (fun h4 => ?_) (fun h4 => ?_)
  refine Jo 2 rfl ?_; refine LR rfl (Js (r := [_, _, _, _, _, _, _, _, _, _, _, _, _, _, _, _, _]) rfl rfl) ?_; refine Jc (k := 0) (n := 17) (ys := (rec0).cells) rfl rfl rfl rfl rfl rfl rfl rfl rfl ?_; refine Jx 5 rfl ?_; refine Jf rfl rfl (.cons (Jq (vs := [_, _, _, _, _, _, _, _, _, _, _, _, _, _, _, _, _]) rfl (kn 0 rfl) rfl rfl) (.cons (Jj rfl) .nil)) (fun w1 hs1 => ?_); exact ⟨rfl, hs1.keep⟩
  ·try exact Bool.noConfusion h4
theorem J1q (f : Int) (s : List AcE) : (VG f s).1.ok := by
 by_cases h : Qi f s = 0
 ·obtain ⟨a, ha⟩ := YJ.1 h
  rw [ha.read]; exact xV f a
 ·rw [Jc8 h]; exact Zl
theorem Jzn {R : Jm} (f : Int) {s : StL} (hs : s.In R) : PureT (α := StRes R (Wy f s.er)) Tryz.prog 68 [.int .i64 f, s.val].toArray (fun x => x.val) [] (fun x => x.L) R := by
  by_cases hf : f < 0 ∨ f > 4
  · have e : Wy f s.er = (s.er, 10) := by unfold Wy; rw [if_pos hf]
    rw [e]
    have hw : decide (SL.Way 0 f) = decide (f = 5) := by unfold SL.Way; rw [Bool.eq_iff_iff]; simp; omega
    refine Jt Tryz.func68 rfl rfl fun w => ?_; refine J8 ?_; refine Jo 2 rfl ?_; refine JS (cs := s.cells.toArray) rfl rfl rfl rfl fun rb => ?_; refine LN rfl fun r1 => ?_; refine JC 7 rfl ?_; refine Jl rfl rfl rfl Jlj (zP 0 f) ?_; refine J2 (Y3 hw) ?_; refine LS 2 [] rfl rfl ?_
    refine J4 11 rfl (fun gb => ?_) (fun gb => ?_) <;> (try simp only [ZZ] at gb) <;> first | (refine Qx rfl ?_) | (refine LK rfl ?_)
    all_goals (
     refine LW 2 [] rfl rfl (Jx 1 rfl (Y7 1 rfl ?_)); refine Jw rfl (fun g => ?_) (fun g => ?_)
     try simp only [ZZ] at g
     refine Jo 2 rfl ?_; refine LR rfl (Jb (xs := s.cells) (n := 1) rfl (kn 1 rfl) rfl rfl rfl) ?_; refine Jc (k := 0) (n := 1) (ys := s.cells) rfl rfl rfl rfl rfl rfl rfl rfl rfl ?_; refine Jx 5 rfl ?_; refine Jf rfl rfl (.cons (Jq (vs := [_]) rfl (kn 0 rfl) rfl rfl) (.cons (Jj rfl) .nil)) (fun w1 hs1 => ?_); exact ⟨⟨s, 10, [], hs, rfl⟩, rfl, hs1.weakL (List.nil_sublist _)⟩
     · try exact Bool.noConfusion g
       all_goals try simp only [ZZ] at g
       all_goals (
        refine X6 6 [1] rfl rfl ?_
        exfalso; simp_all
        skip)
     skip)
  · have hf2 : 0 ≤ f ∧ f ≤ 4 := by omega
    have hw : decide (SL.Way 0 f) = true := decide_eq_true (show 0 ≤ 0 ∧ 0 ≤ f ∧ f ≤ 5 by omega)
    have e : Wy f s.er = if (VG f s.er).2 ≠ 0 then (s.er, (VG f s.er).2) else KX (f + 1) s.er (QT f (VG f s.er).1) := by unfold Wy; rw [if_neg hf]
    rw [e]
    have hrd := Jv6 f hs
    have hrok := J1q f s.er
    generalize VG f s.er = rd at hrd hrok
    obtain ⟨rd, re⟩ := rd
    simp only at hrd hrok
    have hwr := Jjx (f + 1) hs (vr (f := f) hrok)
    refine jR Tryz.func68 rfl rfl fun w hR => ?_; refine J8 ?_
    obtain ⟨x0⟩ := hwr.ne hR
    refine Jo 2 rfl ?_; refine JS (cs := s.cells.toArray) rfl rfl rfl rfl fun rb => ?_; refine LN rfl fun r1 => ?_; refine JC 7 rfl ?_; refine Jl rfl rfl rfl Jlj (zP 0 f) ?_; refine J2 (Y3 hw) ?_; refine JI 7 rfl ?_; refine Jw rfl (fun g => ?_) (fun g => ?_)
    try simp only [ZZ] at g
    refine Jo 2 rfl ?_
    exfalso; omega
    · try simp only [ZZ] at g
      refine Jo 5 rfl ?_; refine LR rfl (Jb (xs := s.cells) (n := 1) rfl (kn 1 rfl) rfl rfl rfl) ?_; refine Jg rfl rfl rfl (enters_of Tryz.func24 (by kernel_rfl) rfl) hrd oR ?_; refine LS 3 [] rfl rfl ?_; refine LN rfl fun r2 => ?_; refine Jc (k := 0) (n := 17) (ys := (rd).cells) rfl rfl rfl rfl rfl rfl rfl rfl rfl ?_; refine JI 10 rfl ?_; refine cD (fun g => ?_) fun g => ?_
      refine Jo 2 rfl ?_; refine LR rfl (Jb (xs := s.cells) (n := 1) rfl (kn 2 rfl) rfl rfl rfl) ?_; refine Qx rfl (Jc (k := 1) (n := 1) (ys := s.cells) rfl rfl rfl rfl rfl rfl rfl rfl rfl (Jx 5 rfl ?_)); refine Jf rfl rfl (.cons (Jq (vs := [_]) rfl (kn 1 rfl) rfl rfl) (.cons (Jj rfl) .nil)) (fun w1 hs1 => ?_); rw [if_pos (by omega)]; exact ⟨⟨s, re, [], hs, rfl⟩, rfl, hs1.weakL (List.nil_sublist _)⟩
      · refine JP 3 rfl ?_
        refine JL [] [(0, .pure), (1, .pure), (3, .pure), (5, .pure), (6, .grow (Qf x0 StRes.val StRes.L)), (7, .pure), (8, .pure)] 9 [0, 1, 2, 3, 4, 5, 6, 7, 8] (by kernel_rfl) (by kernel_rfl) (by first | exact (fun _ h => absurd h List.not_mem_nil) | simp [SubS] | (intro p hp; simp [hp])) ?_; refine Jn (k := 0) rfl rfl rfl rfl rfl (fun _ hS => (Ji rfl)) ?_; refine Jn (k := 1) rfl rfl rfl rfl rfl (fun _ hS => (J0 rfl rfl rfl)) ?_; refine Jcs (by omega) (by omega) ?_; refine KB (k := 2) rfl rfl rfl rfl rfl (Jb (xs := s.cells) (n := 1) rfl (kn 2 rfl) rfl rfl rfl) ?_; refine Jn (k := 3) rfl rfl rfl rfl rfl (fun _ hS => (Ji rfl)) ?_; refine KB (k := 4) rfl rfl rfl rfl rfl (Jb (xs := rd.cells) (n := 17) rfl (kn 0 rfl) rfl rfl rfl) ?_; refine Qq (k := 5) rfl rfl rfl rfl rfl (enters_of Tryz.func66 (by kernel_rfl) rfl) (Jrt hf2 rd) ?_; refine KT (k := 6) rfl rfl rfl rfl rfl (enters_of Tryz.func81 (by kernel_rfl) rfl) hwr oR fun x => ?_; refine Jn (k := 7) rfl rfl rfl rfl rfl (fun _ hS => (JM rfl rfl)) ?_; refine Jn (k := 8) rfl rfl rfl rfl rfl (fun _ hS => (JM rfl rfl)) ?_; refine Ko ?_; refine JY List.perm_append_comm ?_; change HL _ _ _ ((r2, _) :: (r1, _) :: (rb, _) :: x.L) _ _ _ _; refine Jc (k := 1) (n := 1) (ys := x.s.cells) rfl rfl rfl rfl rfl rfl rfl rfl rfl ?_; refine Jx 4 rfl ?_; refine Jf rfl rfl (.cons (Jq (vs := [_]) rfl (kn 1 rfl) rfl rfl) (.cons (Jj rfl) .nil)) (fun w1 hs1 => ?_); rw [if_neg (by omega)]; exact ⟨x, rfl, hs1.weakL (.cons _ (.cons _ (.cons _ (List.Sublist.refl _))))⟩
theorem Jrw (s0 : List AcE) (n : Nat) (f : Int) (t : List AcE) : j7 s0 (n + 1) f t = if (Wy f t).2 ≠ 0 then (s0, (Wy f t).2) else j7 s0 n (f + 1) (Wy f t).1 := rfl
theorem Jrx {R : Jm} {f g : Int} (hw : SL.Way f g) {s : StL} (hs : s.In R) : PureT (α := StRes R (j7 s.er (g - f).toNat f s.er)) Tryz.prog 67 [.int .i64 f, .int .i64 g, s.val, .func (.func 68) #[] #[]].toArray (fun x => x.val) [] (fun x => x.L) R := by
 have hb : 0 ≤ f ∧ f ≤ g ∧ g ≤ 5 := hw
 obtain ⟨res, hres⟩ : ∃ res, res = j7 s.er (g - f).toNat f s.er := ⟨_, rfl⟩
 rw [← hres]; refine Jt Tryz.func67 rfl rfl fun w => ?_; refine J8 ?_; refine Jo 2 rfl ?_; refine JS (cs := s.cells.toArray) rfl rfl rfl rfl fun rx => ?_; refine LN rfl fun r1 => ?_; refine LN rfl fun r2 => ?_; refine LN rfl fun r3 => ?_; refine JC 4 rfl ?_; refine LR rfl (Jb (xs := s.cells) (n := 1) rfl (kn 3 rfl) rfl rfl rfl) ?_; refine LN rfl fun r4 => ?_; refine Jc (k := 0) (n := 1) (ys := s.cells) rfl rfl rfl rfl rfl rfl rfl rfl rfl ?_; refine JC 7 rfl ?_; refine JJ rfl rfl rfl (enters_of Tryz.func118 (by kernel_rfl) rfl) (Jj0 f g) fun p => ?_
 obtain ⟨p1, p2⟩ := p
 change HL _ _ _ ((p2, _) :: (p1, _) :: _) _ _ _ _; refine JI 3 rfl ?_; refine Vt [2, 3, 4, 0, 1, 5, 6] (L' := [_, _, _, _, _, _, _]) (by decide) rfl ?_
 refine Vk (τ := Int) (fun i (t : StSt R) => f ≤ i ∧ res = j7 s.er (g - i).toNat i t.s.er) (fun t => (r4, .cells t.s.cells.toArray 36 (0, 0)) :: (r3, .cells #[.int .i64 0] 37 (0, 0)) :: (r2, .cells st0L.cells.toArray 36 (0, 0)) :: t.L) (fun j e => j = .ret ∧ res = (s.er, e)) (fun e => [(r3, .cells #[.int .i64 e] 37 (0, 0)), (r2, .cells s.cells.toArray 36 (0, 0))]) [(p2, .cells #[.int .i64 g] 3 (0, 0)), (p1, .cells #[.int .i64 f] 3 (0, 0)), _, _] ⟨s, [], hs⟩ rfl rfl (enters_of Tryz.func190 (by kernel_rfl) rfl) (Jj2 hw p1 p2) Jj1 rfl (fun q hq => .inl (by
  rcases List.mem_cons.1 hq with rfl | hq
  exact List.mem_cons_self
  rw [List.mem_singleton.1 hq]; exact List.mem_cons_of_mem _ List.mem_cons_self)) rfl ⟨Int.le_refl _, hres⟩ ?_ ?_ ?_
 ·rintro q Xr Xb w3 i _ _ _ t ⟨hi, rfl, rfl, rfl⟩ ⟨hfi, hinv⟩ Kr hKr; refine yE ?_
  rw [show (g - i).toNat = (g - (i + 1)).toNat + 1 by omega, Jrw] at hinv; refine Kn 3 rfl ?_; refine hKr _ _ ?_; refine J8 ?_; clear hKr; refine Jo 3 rfl ?_; refine LR rfl (Jh rfl (Jy (k := 2) rfl) rfl rfl) ?_; refine Qx rfl (LR rfl (Jb (xs := t.s.cells) (n := 1) rfl (kn 0 rfl) rfl rfl rfl) (Ke rfl rfl rfl (enters_of Tryz.func68 (by kernel_rfl) rfl) (Jzn (R := t.L ++ R) i t.ok) (fun q hq => (List.mem_append.1 hq).elim (fun h => Or.inl (List.mem_cons_of_mem _ (List.mem_cons_of_mem _ (List.mem_cons_of_mem _ h)))) (fun h => Or.inr (List.mem_append_right _ h))) fun x => ?_)); refine JY (QD x.L [_, _, _] t.L) ?_; change HL _ _ ((23, .tuple #[x.s.val, .int .i64 x.err]) :: _) ((r4, _) :: (r3, _) :: (r2, _) :: (x.L ++ t.L)) _ _ _ _
  have hxe : (Wy i t.s.er).2 = x.err := (congrArg Prod.snd x.eq).symm
  have hxs : (Wy i t.s.er).1 = x.s.er := (congrArg Prod.fst x.eq).symm
  rw [hxe, hxs] at hinv; refine LS 3 [] rfl rfl ?_; refine LN rfl fun r5 => ?_; refine Jc (k := 0) (n := 1) (ys := x.s.cells) rfl rfl rfl rfl rfl rfl rfl rfl rfl ?_; refine JI 10 rfl ?_; refine cD (fun h8 => ?_) fun h8 => ?_
  refine Jo 2 rfl ?_; refine LR rfl (Jb (xs := s.cells) (n := 1) rfl (Jy (k := 3) rfl) rfl rfl rfl) ?_; refine Qx rfl (Jc (k := 3) (n := 1) (ys := s.cells) rfl rfl rfl rfl rfl rfl rfl rfl rfl ?_)
  refine LT 2 rfl rfl ?_; refine Jx 5 rfl ?_; refine ZX (L' := [(r3, .cells #[.int .i64 x.err] 37 (0, 0)), (r2, .cells s.cells.toArray 36 (0, 0))]) (fun _ _ h => h) (.cons _ (.cons _ (.cons_cons _ (.cons_cons _ (List.nil_sublist _))))) ?_; rw [if_pos (by assumption)] at hinv; exact WX x.err ⟨rfl, hinv⟩ rfl
  ·refine Jo 3 rfl ?_; refine LR rfl (Jb (xs := x.s.cells) (n := 1) rfl (kn 0 rfl) rfl rfl rfl) ?_; refine Jc (k := 1) (n := 1) (ys := x.s.cells) rfl rfl rfl rfl rfl rfl rfl rfl rfl ?_; refine Jx 2 rfl ?_; refine ZX (L' := (r4, .cells x.s.cells.toArray 36 (0, 0)) :: (r3, .cells #[.int .i64 0] 37 (0, 0)) :: (r2, .cells st0L.cells.toArray 36 (0, 0)) :: (x.L ++ t.L)) (fun _ _ h => h) (.cons _ (List.Sublist.refl _)) ?_; rw [if_neg (by simpa using ‹x.err = 0›)] at hinv; exact Kf (StSt.next (L' := []) t x) ⟨by omega, hinv⟩ rfl
 rintro D i t ⟨hng, hfi⟩ ⟨-, hinv⟩
 rw [show (g - i).toNat = 0 by omega] at hinv
 have hinv : res = (t.s.er, 0) := hinv
 refine gqo 4 rfl ?_; refine LR rfl (Jb (xs := t.s.cells) (n := 1) rfl (kn 1 rfl) rfl rfl rfl) ?_; refine Jc (k := 3) (n := 1) (ys := t.s.cells) rfl rfl rfl rfl rfl rfl rfl rfl rfl ?_
 refine LT 2 rfl rfl ?_; refine Jx 3 rfl ?_; refine Kq (k := 0) rfl rfl ?_
 (refine Jf rfl rfl (.cons (Jq (vs := t.s.cells) rfl (kn 3 rfl) rfl rfl) (.cons (JQ rfl (kn 2 rfl) rfl rfl) .nil)) (fun w1 hs1 => ?_)
  exact ⟨⟨t.s, 0, t.L, t.ok, hinv.symm⟩, rfl, hs1.weakL (.cons _ (.cons _ (.cons _ (.cons _ (List.sublist_append_left _ _)))))⟩)
 ·rintro D j e ⟨rfl, hst⟩
  refine Kn 3 rfl ?_; refine Kq (k := 0) rfl rfl ?_
  (refine Jf rfl rfl (.cons (Jq (vs := s.cells) rfl (kn 2 rfl) rfl rfl) (.cons (JQ rfl (kn 1 rfl) rfl rfl) .nil)) (fun w1 hs1 => ?_)
   exact ⟨⟨s, e, [], hs, hst.symm⟩, rfl, hs1.weakL (List.nil_sublist _)⟩)
theorem Jl9 {R : Jm} (f g : Int) {s : StL} (hs : s.In R) : PureT (α := StRes R (xX f g s.er)) Tryz.prog 28 [.int .i64 f, .int .i64 g, s.val].toArray (fun x => x.val) [] (fun x => x.L) R := by
 by_cases hf : SL.Way f g
 have hw : decide (SL.Way f g) = true := decide_eq_true hf
 have hal := Jrx hf hs
 have hck := Jeq f hs
 have e : xX f g s.er = if Qi f s.er ≠ 0 then (s.er, Qi f s.er) else j7 s.er (g - f).toNat f s.er := by unfold xX; rw [if_neg (by simpa using hf)]
 rw [e]
 generalize j7 s.er (g - f).toNat f s.er = ml at hal
 refine Jt Tryz.func28 rfl rfl fun w => ?_; refine J8 ?_; refine Jo 2 rfl ?_; refine JS (cs := s.cells.toArray) rfl rfl rfl rfl fun rb => ?_; refine LN rfl fun r1 => ?_; refine JC 8 rfl ?_; refine Jl rfl rfl rfl Jlj (zP f g) ?_; refine J2 (Y3 hw) ?_; refine JI 3 rfl ?_; refine cD (fun h4 => ?_) fun h4 => ?_
 try exact Bool.noConfusion h4
 refine Jo 6 rfl ?_; refine LR rfl (Jb (xs := s.cells) (n := 1) rfl (kn 1 rfl) rfl rfl rfl) ?_; refine Jg rfl rfl rfl (enters_of Tryz.func25 (by kernel_rfl) rfl) hck oR ?_; refine JI 9 rfl ?_; refine cD (fun h9 => ?_) fun h9 => ?_
 refine Jo 2 rfl ?_; refine LR rfl (Jb (xs := s.cells) (n := 1) rfl (kn 1 rfl) rfl rfl rfl) ?_; refine Qx rfl (Jc (k := 0) (n := 1) (ys := s.cells) rfl rfl rfl rfl rfl rfl rfl rfl rfl (Jx 5 rfl ?_)); refine Jf rfl rfl (.cons (Jq (vs := [_]) rfl (kn 0 rfl) rfl rfl) (.cons (Jj rfl) .nil)) (fun w1 hs1 => ?_); rw [if_pos (by omega)]; exact ⟨⟨s, Qi f s.er, [], hs, rfl⟩, rfl, hs1.weakL (List.nil_sublist _)⟩
 refine Jo 6 rfl ?_; refine LR rfl (Jb (xs := s.cells) (n := 1) rfl (kn 1 rfl) rfl rfl rfl) ?_; refine Ke rfl rfl rfl (enters_of Tryz.func67 (by kernel_rfl) rfl) hal oR fun x => ?_; refine JY List.perm_append_comm ?_; change HL _ _ ((24, .tuple #[x.s.val, .int .i64 x.err]) :: _) ((r1, _) :: (rb, _) :: x.L) _ _ _ _; refine LS 2 [] rfl rfl ?_; refine Jc (k := 0) (n := 1) (ys := x.s.cells) rfl rfl rfl rfl rfl rfl rfl rfl rfl ?_; refine Jx 4 rfl ?_; refine Jf rfl rfl (.cons (Jq (vs := [_]) rfl (kn 0 rfl) rfl rfl) (.cons (Jj rfl) .nil)) (fun w1 hs1 => ?_); rw [if_neg (by omega)]; exact ⟨x, rfl, hs1.weakL (.cons _ (.cons _ (List.Sublist.refl _)))⟩
 ·have e : xX f g s.er = (s.er, 10) := by unfold xX; rw [if_pos hf]
  have hw : decide (SL.Way f g) = false := decide_eq_false hf
  rw [e]; refine Jt Tryz.func28 rfl rfl fun w => ?_; refine J8 ?_; refine Jo 2 rfl ?_; refine JS (cs := s.cells.toArray) rfl rfl rfl rfl fun rb => ?_; refine LN rfl fun r1 => ?_; refine JC 8 rfl ?_; refine Jl rfl rfl rfl Jlj (zP f g) ?_; refine J2 (Y3 hw) ?_; refine JI 3 rfl ?_; refine Jw rfl (fun h4 => ?_) (fun h4 => ?_)
  refine Jo 2 rfl ?_; refine LR rfl (Jb (xs := s.cells) (n := 1) rfl (kn 1 rfl) rfl rfl rfl) ?_; refine Jc (k := 0) (n := 1) (ys := s.cells) rfl rfl rfl rfl rfl rfl rfl rfl rfl ?_; refine Jx 5 rfl ?_; refine Jf rfl rfl (.cons (Jq (vs := [_]) rfl (kn 0 rfl) rfl rfl) (.cons (Jj rfl) .nil)) (fun w1 hs1 => ?_); exact ⟨⟨s, 10, [], hs, rfl⟩, rfl, hs1.weakL (List.nil_sublist _)⟩
  ·try exact Bool.noConfusion h4
def m1 : Rec := ⟨7, 0, w40, w40, ⟨5, 0, 0, 0⟩, 3, 0, 0⟩
def m2 : Rec := ⟨7, 0, w40, ⟨1, 0, 0, 0⟩, w40, 3, 0, 0⟩
def m3 : Rec := ⟨7, 0, w40, ⟨1, 0, 0, 0⟩, w40, 3, 0, 1⟩
def qO (k v : Int) : Int × Int × Bool :=
 if k = 1 then (if v = 4 then (5, 5, true) else (0, 5, (v == 0 || v == 1 || v == 2 || v == 126)))
 else if k = 2 then (if v = 2 then (2, 5, true) else (v, v, (v == 0 || v == 1)))
 else if k = 3 then (IntKind.i64.wrap (3 * v), 5, (v == 0 || v == 1))
 else if k = 4 then (IntKind.i64.wrap (2 * v), 5, (v == 0 || v == 2))
 else if k = 5 then (IntKind.i64.wrap (5 * v), IntKind.i64.wrap (4 + v), (v == 0 || v == 1))
 else (0, 0, false)
def KK (a b : Int) : Value := .agg [.int .i64 a, .int .i64 b].toArray
def Jbd (v : Value) : Prop := ∃ a b, v = KK a b
def yj : Value → List Int
 | .agg cs => cs.toList.map fun | .int _ n => n | _ => 0
 | _ => []
def Wg (x y : Value) : Bool := decide (yj x = yj y)
theorem zQ (a b c d : Int) : Wg (KK a b) (KK c d) = (a == c && b == d) := by
 unfold Wg KK yj
 by_cases h1 : a = c <;> by_cases h2 : b = d <;> simp [h1, h2]
theorem Jry : KeyL Tryz.prog 201 Jbd Wg where
 now := ⟨_, rfl, fun a b ⟨a1, a2, ha⟩ ⟨b1, b2, hb⟩ => by subst ha hb; exact .inl rfl⟩
 equal := by
  rintro _ _ w ⟨a, b, rfl⟩ ⟨c, d, rfl⟩; rw [zQ]
  show (Op.equalIn (9999 + 1) _ (.agg _) (.agg _)).run _ _ = _
  rw [run_equalIn_struct w 9999 _ _ _ (by kernel_rfl) (by kernel_rfl)]
  simp [go_sem]
  by_cases h1 : a = c <;> by_cases h2 : b = d <;> simp [h1, h2]
 check := by
  rintro _ b w ⟨x, y, rfl⟩; exact jl (by kernel_rfl) (by simp) b 9998 w
def tableKV : List (Value × Value) :=
 [(KK 1 0, KK 0 5), (KK 1 1, KK 0 5), (KK 1 2, KK 0 5), (KK 1 126, KK 0 5), (KK 1 4, KK 5 5), (KK 2 0, KK 0 0), (KK 2 1, KK 1 1), (KK 2 2, KK 2 5),
  (KK 3 0, KK 0 5), (KK 3 1, KK 3 5), (KK 4 0, KK 0 5), (KK 4 2, KK 4 5), (KK 5 0, KK 0 4), (KK 5 1, KK 5 5)]
def J21 : Type := { p : Nat × Array MapEntry // (p.2.toList.map QU).Perm tableKV ∧ p.2.toList.map (·.born) = List.range p.2.size }
theorem ZE : PureE (α := J21) Tryz.prog 172 [].toArray (fun x => .map (some x.1.1)) (fun x => [(x.1.1, .map x.1.2 x.1.2.size)]) := by
 refine JV Tryz.func172 rfl rfl fun w => ?_; refine J8 ?_; refine JP 6 rfl ?_; refine Jkq (t := 198) 1 [(1, 2, .agg [.int .i64 1, .int .i64 0].toArray), (2, 3, .agg [.int .i64 0, .int .i64 5].toArray), (4, 4, .agg [.int .i64 1, .int .i64 1].toArray), (5, 5, .agg [.int .i64 0, .int .i64 5].toArray), (7, 6, .agg [.int .i64 1, .int .i64 2].toArray), (8, 7, .agg [.int .i64 0, .int .i64 5].toArray), (10, 8, .agg [.int .i64 1, .int .i64 126].toArray), (11, 9, .agg [.int .i64 0, .int .i64 5].toArray), (13, 10, .agg [.int .i64 1, .int .i64 4].toArray), (14, 11, .agg [.int .i64 5, .int .i64 5].toArray), (16, 12, .agg [.int .i64 2, .int .i64 0].toArray), (17, 13, .agg [.int .i64 0, .int .i64 0].toArray), (19, 14, .agg [.int .i64 2, .int .i64 1].toArray), (20, 15, .agg [.int .i64 1, .int .i64 1].toArray), (22, 16, .agg [.int .i64 2, .int .i64 2].toArray), (23, 17, .agg [.int .i64 2, .int .i64 5].toArray), (25, 18, .agg [.int .i64 3, .int .i64 0].toArray), (26, 19, .agg [.int .i64 0, .int .i64 5].toArray), (28, 20, .agg [.int .i64 3, .int .i64 1].toArray), (29, 21, .agg [.int .i64 3, .int .i64 5].toArray), (31, 22, .agg [.int .i64 4, .int .i64 0].toArray), (32, 23, .agg [.int .i64 0, .int .i64 5].toArray), (34, 24, .agg [.int .i64 4, .int .i64 2].toArray), (35, 25, .agg [.int .i64 4, .int .i64 5].toArray), (37, 26, .agg [.int .i64 5, .int .i64 0].toArray), (38, 27, .agg [.int .i64 0, .int .i64 4].toArray), (40, 28, .agg [.int .i64 5, .int .i64 1].toArray), (41, 29, .agg [.int .i64 5, .int .i64 5].toArray)] [(3, .agg [.int .i64 1, .int .i64 0].toArray, .agg [.int .i64 0, .int .i64 5].toArray), (6, .agg [.int .i64 1, .int .i64 1].toArray, .agg [.int .i64 0, .int .i64 5].toArray), (9, .agg [.int .i64 1, .int .i64 2].toArray, .agg [.int .i64 0, .int .i64 5].toArray), (12, .agg [.int .i64 1, .int .i64 126].toArray, .agg [.int .i64 0, .int .i64 5].toArray), (15, .agg [.int .i64 1, .int .i64 4].toArray, .agg [.int .i64 5, .int .i64 5].toArray), (18, .agg [.int .i64 2, .int .i64 0].toArray, .agg [.int .i64 0, .int .i64 0].toArray), (21, .agg [.int .i64 2, .int .i64 1].toArray, .agg [.int .i64 1, .int .i64 1].toArray), (24, .agg [.int .i64 2, .int .i64 2].toArray, .agg [.int .i64 2, .int .i64 5].toArray), (27, .agg [.int .i64 3, .int .i64 0].toArray, .agg [.int .i64 0, .int .i64 5].toArray), (30, .agg [.int .i64 3, .int .i64 1].toArray, .agg [.int .i64 3, .int .i64 5].toArray), (33, .agg [.int .i64 4, .int .i64 0].toArray, .agg [.int .i64 0, .int .i64 5].toArray), (36, .agg [.int .i64 4, .int .i64 2].toArray, .agg [.int .i64 4, .int .i64 5].toArray), (39, .agg [.int .i64 5, .int .i64 0].toArray, .agg [.int .i64 0, .int .i64 4].toArray), (42, .agg [.int .i64 5, .int .i64 1].toArray, .agg [.int .i64 5, .int .i64 5].toArray)] [(43, 30), (44, 0)] [] Jry rfl (by kernel_rfl) ?hops (by kernel_rfl) rfl (by decide) rfl (fun i v h => by cases h) (by decide) rfl (by simp only [List.forall_mem_cons]; exact ⟨⟨_, _, rfl⟩, ⟨_, _, rfl⟩, ⟨_, _, rfl⟩, ⟨_, _, rfl⟩, ⟨_, _, rfl⟩, ⟨_, _, rfl⟩, ⟨_, _, rfl⟩, ⟨_, _, rfl⟩, ⟨_, _, rfl⟩, ⟨_, _, rfl⟩, ⟨_, _, rfl⟩, ⟨_, _, rfl⟩, ⟨_, _, rfl⟩, ⟨_, _, rfl⟩, by simp⟩) (by decide) ?_
 case hops =>
  intro i o h
  match i, h with
  | 0, h => cases Option.some.inj h; exact MLit.mk
  | 1, h => cases Option.some.inj h; exact MLit.pure (s := 2) (v := .agg [.int .i64 1, .int .i64 0].toArray) (Jr (n := 0) rfl) rfl rfl rfl (Js (r := [_, _]) rfl rfl)
  | 2, h => cases Option.some.inj h; exact MLit.pure (s := 3) (v := .agg [.int .i64 0, .int .i64 5].toArray) (Jr (n := 1) rfl) rfl rfl rfl (Js (r := [_, _]) rfl rfl)
  | 3, h => cases Option.some.inj h; exact MLit.ins (j1 := 1) (j2 := 2) (k := .agg [.int .i64 1, .int .i64 0].toArray) (v := .agg [.int .i64 0, .int .i64 5].toArray) (Jr (n := 0) rfl) (Jr (n := 0) rfl) (Jr (n := 1) rfl) rfl rfl rfl
  | 4, h => cases Option.some.inj h; exact MLit.pure (s := 4) (v := .agg [.int .i64 1, .int .i64 1].toArray) (Jr (n := 2) rfl) rfl rfl rfl (Js (r := [_, _]) rfl rfl)
  | 5, h => cases Option.some.inj h; exact MLit.pure (s := 5) (v := .agg [.int .i64 0, .int .i64 5].toArray) (Jr (n := 3) rfl) rfl rfl rfl (Js (r := [_, _]) rfl rfl)
  | 6, h => cases Option.some.inj h; exact MLit.ins (j1 := 4) (j2 := 5) (k := .agg [.int .i64 1, .int .i64 1].toArray) (v := .agg [.int .i64 0, .int .i64 5].toArray) (Jr (n := 1) rfl) (Jr (n := 2) rfl) (Jr (n := 3) rfl) rfl rfl rfl
  | 7, h => cases Option.some.inj h; exact MLit.pure (s := 6) (v := .agg [.int .i64 1, .int .i64 2].toArray) (Jr (n := 4) rfl) rfl rfl rfl (Js (r := [_, _]) rfl rfl)
  | 8, h => cases Option.some.inj h; exact MLit.pure (s := 7) (v := .agg [.int .i64 0, .int .i64 5].toArray) (Jr (n := 5) rfl) rfl rfl rfl (Js (r := [_, _]) rfl rfl)
  | 9, h => cases Option.some.inj h; exact MLit.ins (j1 := 7) (j2 := 8) (k := .agg [.int .i64 1, .int .i64 2].toArray) (v := .agg [.int .i64 0, .int .i64 5].toArray) (Jr (n := 2) rfl) (Jr (n := 4) rfl) (Jr (n := 5) rfl) rfl rfl rfl
  | 10, h => cases Option.some.inj h; exact MLit.pure (s := 8) (v := .agg [.int .i64 1, .int .i64 126].toArray) (Jr (n := 6) rfl) rfl rfl rfl (Js (r := [_, _]) rfl rfl)
  | 11, h => cases Option.some.inj h; exact MLit.pure (s := 9) (v := .agg [.int .i64 0, .int .i64 5].toArray) (Jr (n := 7) rfl) rfl rfl rfl (Js (r := [_, _]) rfl rfl)
  | 12, h => cases Option.some.inj h; exact MLit.ins (j1 := 10) (j2 := 11) (k := .agg [.int .i64 1, .int .i64 126].toArray) (v := .agg [.int .i64 0, .int .i64 5].toArray) (Jr (n := 3) rfl) (Jr (n := 6) rfl) (Jr (n := 7) rfl) rfl rfl rfl
  | 13, h => cases Option.some.inj h; exact MLit.pure (s := 10) (v := .agg [.int .i64 1, .int .i64 4].toArray) (Jr (n := 8) rfl) rfl rfl rfl (Js (r := [_, _]) rfl rfl)
  | 14, h => cases Option.some.inj h; exact MLit.pure (s := 11) (v := .agg [.int .i64 5, .int .i64 5].toArray) (Jr (n := 9) rfl) rfl rfl rfl (Js (r := [_, _]) rfl rfl)
  | 15, h => cases Option.some.inj h; exact MLit.ins (j1 := 13) (j2 := 14) (k := .agg [.int .i64 1, .int .i64 4].toArray) (v := .agg [.int .i64 5, .int .i64 5].toArray) (Jr (n := 4) rfl) (Jr (n := 8) rfl) (Jr (n := 9) rfl) rfl rfl rfl
  | 16, h => cases Option.some.inj h; exact MLit.pure (s := 12) (v := .agg [.int .i64 2, .int .i64 0].toArray) (Jr (n := 10) rfl) rfl rfl rfl (Js (r := [_, _]) rfl rfl)
  | 17, h => cases Option.some.inj h; exact MLit.pure (s := 13) (v := .agg [.int .i64 0, .int .i64 0].toArray) (Jr (n := 11) rfl) rfl rfl rfl (Js (r := [_, _]) rfl rfl)
  | 18, h => cases Option.some.inj h; exact MLit.ins (j1 := 16) (j2 := 17) (k := .agg [.int .i64 2, .int .i64 0].toArray) (v := .agg [.int .i64 0, .int .i64 0].toArray) (Jr (n := 5) rfl) (Jr (n := 10) rfl) (Jr (n := 11) rfl) rfl rfl rfl
  | 19, h => cases Option.some.inj h; exact MLit.pure (s := 14) (v := .agg [.int .i64 2, .int .i64 1].toArray) (Jr (n := 12) rfl) rfl rfl rfl (Js (r := [_, _]) rfl rfl)
  | 20, h => cases Option.some.inj h; exact MLit.pure (s := 15) (v := .agg [.int .i64 1, .int .i64 1].toArray) (Jr (n := 13) rfl) rfl rfl rfl (Js (r := [_, _]) rfl rfl)
  | 21, h => cases Option.some.inj h; exact MLit.ins (j1 := 19) (j2 := 20) (k := .agg [.int .i64 2, .int .i64 1].toArray) (v := .agg [.int .i64 1, .int .i64 1].toArray) (Jr (n := 6) rfl) (Jr (n := 12) rfl) (Jr (n := 13) rfl) rfl rfl rfl
  | 22, h => cases Option.some.inj h; exact MLit.pure (s := 16) (v := .agg [.int .i64 2, .int .i64 2].toArray) (Jr (n := 14) rfl) rfl rfl rfl (Js (r := [_, _]) rfl rfl)
  | 23, h => cases Option.some.inj h; exact MLit.pure (s := 17) (v := .agg [.int .i64 2, .int .i64 5].toArray) (Jr (n := 15) rfl) rfl rfl rfl (Js (r := [_, _]) rfl rfl)
  | 24, h => cases Option.some.inj h; exact MLit.ins (j1 := 22) (j2 := 23) (k := .agg [.int .i64 2, .int .i64 2].toArray) (v := .agg [.int .i64 2, .int .i64 5].toArray) (Jr (n := 7) rfl) (Jr (n := 14) rfl) (Jr (n := 15) rfl) rfl rfl rfl
  | 25, h => cases Option.some.inj h; exact MLit.pure (s := 18) (v := .agg [.int .i64 3, .int .i64 0].toArray) (Jr (n := 16) rfl) rfl rfl rfl (Js (r := [_, _]) rfl rfl)
  | 26, h => cases Option.some.inj h; exact MLit.pure (s := 19) (v := .agg [.int .i64 0, .int .i64 5].toArray) (Jr (n := 17) rfl) rfl rfl rfl (Js (r := [_, _]) rfl rfl)
  | 27, h => cases Option.some.inj h; exact MLit.ins (j1 := 25) (j2 := 26) (k := .agg [.int .i64 3, .int .i64 0].toArray) (v := .agg [.int .i64 0, .int .i64 5].toArray) (Jr (n := 8) rfl) (Jr (n := 16) rfl) (Jr (n := 17) rfl) rfl rfl rfl
  | 28, h => cases Option.some.inj h; exact MLit.pure (s := 20) (v := .agg [.int .i64 3, .int .i64 1].toArray) (Jr (n := 18) rfl) rfl rfl rfl (Js (r := [_, _]) rfl rfl)
  | 29, h => cases Option.some.inj h; exact MLit.pure (s := 21) (v := .agg [.int .i64 3, .int .i64 5].toArray) (Jr (n := 19) rfl) rfl rfl rfl (Js (r := [_, _]) rfl rfl)
  | 30, h => cases Option.some.inj h; exact MLit.ins (j1 := 28) (j2 := 29) (k := .agg [.int .i64 3, .int .i64 1].toArray) (v := .agg [.int .i64 3, .int .i64 5].toArray) (Jr (n := 9) rfl) (Jr (n := 18) rfl) (Jr (n := 19) rfl) rfl rfl rfl
  | 31, h => cases Option.some.inj h; exact MLit.pure (s := 22) (v := .agg [.int .i64 4, .int .i64 0].toArray) (Jr (n := 20) rfl) rfl rfl rfl (Js (r := [_, _]) rfl rfl)
  | 32, h => cases Option.some.inj h; exact MLit.pure (s := 23) (v := .agg [.int .i64 0, .int .i64 5].toArray) (Jr (n := 21) rfl) rfl rfl rfl (Js (r := [_, _]) rfl rfl)
  | 33, h => cases Option.some.inj h; exact MLit.ins (j1 := 31) (j2 := 32) (k := .agg [.int .i64 4, .int .i64 0].toArray) (v := .agg [.int .i64 0, .int .i64 5].toArray) (Jr (n := 10) rfl) (Jr (n := 20) rfl) (Jr (n := 21) rfl) rfl rfl rfl
  | 34, h => cases Option.some.inj h; exact MLit.pure (s := 24) (v := .agg [.int .i64 4, .int .i64 2].toArray) (Jr (n := 22) rfl) rfl rfl rfl (Js (r := [_, _]) rfl rfl)
  | 35, h => cases Option.some.inj h; exact MLit.pure (s := 25) (v := .agg [.int .i64 4, .int .i64 5].toArray) (Jr (n := 23) rfl) rfl rfl rfl (Js (r := [_, _]) rfl rfl)
  | 36, h => cases Option.some.inj h; exact MLit.ins (j1 := 34) (j2 := 35) (k := .agg [.int .i64 4, .int .i64 2].toArray) (v := .agg [.int .i64 4, .int .i64 5].toArray) (Jr (n := 11) rfl) (Jr (n := 22) rfl) (Jr (n := 23) rfl) rfl rfl rfl
  | 37, h => cases Option.some.inj h; exact MLit.pure (s := 26) (v := .agg [.int .i64 5, .int .i64 0].toArray) (Jr (n := 24) rfl) rfl rfl rfl (Js (r := [_, _]) rfl rfl)
  | 38, h => cases Option.some.inj h; exact MLit.pure (s := 27) (v := .agg [.int .i64 0, .int .i64 4].toArray) (Jr (n := 25) rfl) rfl rfl rfl (Js (r := [_, _]) rfl rfl)
  | 39, h => cases Option.some.inj h; exact MLit.ins (j1 := 37) (j2 := 38) (k := .agg [.int .i64 5, .int .i64 0].toArray) (v := .agg [.int .i64 0, .int .i64 4].toArray) (Jr (n := 12) rfl) (Jr (n := 24) rfl) (Jr (n := 25) rfl) rfl rfl rfl
  | 40, h => cases Option.some.inj h; exact MLit.pure (s := 28) (v := .agg [.int .i64 5, .int .i64 1].toArray) (Jr (n := 26) rfl) rfl rfl rfl (Js (r := [_, _]) rfl rfl)
  | 41, h => cases Option.some.inj h; exact MLit.pure (s := 29) (v := .agg [.int .i64 5, .int .i64 5].toArray) (Jr (n := 27) rfl) rfl rfl rfl (Js (r := [_, _]) rfl rfl)
  | 42, h => cases Option.some.inj h; exact MLit.ins (j1 := 40) (j2 := 41) (k := .agg [.int .i64 5, .int .i64 1].toArray) (v := .agg [.int .i64 5, .int .i64 5].toArray) (Jr (n := 13) rfl) (Jr (n := 26) rfl) (Jr (n := 27) rfl) rfl rfl rfl
  | 43, h => cases Option.some.inj h; exact MLit.mv (s := 30) (x := 1) (Jr (n := 0) rfl) rfl rfl (Or.inl rfl) rfl (Or.inl rfl)
  | 44, h => cases Option.some.inj h; exact MLit.mv (s := 0) (x := 30) (Jr (n := 1) rfl) rfl rfl (Or.inr rfl) rfl (Or.inr ⟨43, Jr (n := 0) rfl, rfl⟩)
  | n + 45, h => simp at h
 intro mr mes hmes hborn; refine ZJ 2 rfl ?_; refine pT rfl rfl rfl fun w1 hs1 => ?_; exact ⟨⟨(mr, mes), hmes, hborn⟩, rfl, hs1⟩
def okI (k v : Int) : Bool := (qO k v).2.2
def loI (k v : Int) : Int := if okI k v then (qO k v).1 else 0
def hiI (k v : Int) : Int := if okI k v then (qO k v).2.1 else 0
theorem Jbe {x y z : Value} (h1 : Wg x y = true) (h2 : Wg x z = true) : Wg y z = true := by
 unfold Wg at *
 simp only [decide_eq_true_eq] at *; rw [← h1, h2]
theorem table_dist : tableKV.Pairwise fun p q => Wg p.1 q.1 = false := by decide
theorem Jgq : ∀ p ∈ tableKV, Jbd p.1 := by
 unfold tableKV
 simp only [List.forall_mem_cons]; exact ⟨⟨_, _, rfl⟩, ⟨_, _, rfl⟩, ⟨_, _, rfl⟩, ⟨_, _, rfl⟩, ⟨_, _, rfl⟩, ⟨_, _, rfl⟩, ⟨_, _, rfl⟩, ⟨_, _, rfl⟩, ⟨_, _, rfl⟩, ⟨_, _, rfl⟩, ⟨_, _, rfl⟩, ⟨_, _, rfl⟩, ⟨_, _, rfl⟩, ⟨_, _, rfl⟩, by simp⟩
theorem Jgr (k v : Int) : Kw Wg (KK k v) tableKV = if okI k v then some (KK (loI k v) (hiI k v)) else none := by
 simp only [tableKV, Kw, zQ, loI, hiI, okI, qO]
 by_cases h1 : k = 1
 ·subst h1; by_cases a0 : v = 0 <;> by_cases a1 : v = 1 <;> by_cases a2 : v = 2 <;> by_cases a3 : v = 126 <;> by_cases a4 : v = 4 <;> simp_all
 ·by_cases h2 : k = 2
  ·subst h2; by_cases a0 : v = 0 <;> by_cases a1 : v = 1 <;> by_cases a2 : v = 2 <;> simp_all
  ·by_cases h3 : k = 3
   ·subst h3; by_cases a0 : v = 0 <;> by_cases a1 : v = 1 <;> simp_all <;> rfl
   ·by_cases h4 : k = 4
    ·subst h4; by_cases a0 : v = 0 <;> by_cases a1 : v = 2 <;> simp_all <;> rfl
    ·by_cases h5 : k = 5
     ·subst h5; by_cases a0 : v = 0 <;> by_cases a1 : v = 1 <;> simp_all <;> rfl
     ·simp_all
theorem Jma {kv : List (Value × Value)} (hp : kv.Perm tableKV) (k v : Int) : Kw Wg (KK k v) kv = if okI k v then some (KK (loI k v) (hiI k v)) else none := by
 rw [← Jgr, Jb5 hp.symm]; refine table_dist.imp fun {p q} h ⟨h1, h2⟩ => ?_; rw [Jbe h1 h2] at h; cases h
theorem Jmb {kv : List (Value × Value)} (hp : kv.Perm tableKV) (k v : Int) :
  (if true = true then Value.tuple #[((Kw Wg (KK k v) kv).getD (KK 0 0)), .bool (Kw Wg (KK k v) kv).isSome] else (Kw Wg (KK k v) kv).getD (KK 0 0)) =
   .tuple #[.agg [.int .i64 (loI k v), .int .i64 (hiI k v)].toArray, .bool (okI k v)] := by
 rw [Jma hp, if_pos rfl]
 cases h : okI k v <;> simp [loI, hiI, KK, h]
theorem zR {mes : Array MapEntry} (hp : (mes.toList.map QU).Perm tableKV) : ∀ e ∈ mes.toList, Jbd e.key := fun e he =>
 Jgq (QU e) (hp.subset (List.mem_map_of_mem he))
theorem yO (f k v : Int) : Pure Tryz.prog 105 [.int .i64 f, .int .i64 k, .int .i64 v].toArray (.bool (okI k v && decide (f ≥ loI k v) && decide (f ≤ hiI k v))) := by
 refine Jk Tryz.func105 rfl rfl fun w => ?_; refine J8 ?_; refine Jo 7 rfl ?_; refine JJ rfl rfl rfl (enters_of Tryz.func172 (by kernel_rfl) rfl) ZE fun x1 => ?_
 obtain ⟨⟨mr, mes⟩, hmes, hborn⟩ := x1
 change HL _ _ _ [(mr, .map mes mes.size)] _ _ _ _; refine LS 2 [] rfl rfl ?_; refine LR rfl (Js (r := [_, _]) rfl rfl) ?_; refine LR rfl (Vz Jry rfl rfl (kn 0 rfl) rfl rfl ⟨_, _, rfl⟩ (zR hmes) (Jmb hmes k v)) ?_; refine LS 3 [] rfl rfl ?_; refine LN rfl fun r1 => ?_
 refine LT 0 rfl rfl ?_; refine JC 7 rfl ?_
 refine J4 18 rfl (fun gb => ?_) (fun gb => ?_) <;> (try simp only [ZZ] at gb) <;> first | (refine Qx rfl ?_) | (refine LK rfl ?_)
 all_goals first | refine LR rfl (JD rfl rfl rfl) ?_ | refine LK rfl ?_
 all_goals refine LW 4 [0] rfl rfl ?_
 all_goals first | refine LK rfl ?_ | (refine J4 24 rfl (fun gb => ?_) (fun gb => ?_) <;> (try simp only [ZZ] at gb) <;> first | (refine Qx rfl ?_) | (refine LK rfl ?_))
 all_goals first | refine LR rfl (JD rfl rfl rfl) ?_ | refine LK rfl ?_
 all_goals (
  refine LW 4 [0] rfl rfl (Jx 1 rfl (ZJ 2 rfl ?_)); refine pT rfl rfl rfl fun w1 hs1 => ?_; exact ⟨by (try simp_all [JA]); try omega, hs1.keep⟩
  skip)
def Jzo (v : Value) : Int := (yj v).headD 0
def J1r (v : Value) : Int := ((yj v).drop 1).headD 0
theorem Jwh (a b : Int) : Jzo (.agg [.int .i64 a, .int .i64 b].toArray) = a := rfl
theorem Jwi (a b : Int) : J1r (.agg [.int .i64 a, .int .i64 b].toArray) = b := rfl
def Wh (k : Int) (l : List (Value × Value)) : List Int := (l.filter fun p => Jzo p.1 == k).map fun p => J1r p.1
def yl (k : Int) (l : List MapEntry) : List Int := Wh k (l.map QU)
theorem Jgs {k : Int} {l : List MapEntry} {e : MapEntry} {a b : Int} (h : e.key = .agg [.int .i64 a, .int .i64 b].toArray) : yl k (l ++ [e]) = yl k l ++ (if a = k then [b] else []) := by
 simp only [yl, Wh, List.map_append, List.filter_append, List.map_cons, List.map_nil, QU, h, List.filter_cons, Jwh, List.filter_nil]
 by_cases hk : a = k <;> simp [hk, Jwi]
theorem ym (k : Int) (l : List (Value × Value)) : (Wh k l).length ≤ l.length := by
 unfold Wh; rw [List.length_map]; exact List.length_filter_le _ _
theorem qP {k : Int} {l l' : List (Value × Value)} (h : l.Perm l') : (Wh k l).Perm (Wh k l') := (h.filter _).map _
def nxV (ys : List Int) (v : List Value) (ys' : List Int) : Prop := ∃ x, v = [.int .i64 x] ∧ ys' = ys ++ [x] ∧ ys.length < 14
def fiV (k : Int) (ys : List Int) : Prop := ys.Perm (Wh k tableKV)
theorem Jgt (k : Int) (p : Nat) : jk Tryz.prog 171 [.pointer (some ⟨p, 0, none⟩)] [(p, .cells #[.int .i64 k] 3 (0, 0))] ([] : List Int) nxV (fiV k) := by
  refine QY Tryz.func171 rfl rfl fun q xids w2 XI XF hY => ?_; refine J8 ?_; refine Jo 2 rfl ?_; refine JJ rfl rfl rfl (enters_of Tryz.func172 (by kernel_rfl) rfl) ZE fun x1 => ?_
  obtain ⟨⟨mr, mes⟩, hmes, hborn⟩ := x1
  change HL _ _ _ [(mr, .map mes mes.size)] _ _ _ _
  have hnd : (mes.toList.map (·.born)).Nodup := by rw [show mes.toList.map (·.born) = List.range mes.size from hborn]; exact List.nodup_range
  have hlt : ∀ e ∈ mes.toList, e.born < mes.size := fun e he => List.mem_range.1 (by rw [← show mes.toList.map (·.born) = List.range mes.size from hborn]; exact List.mem_map_of_mem (f := (·.born)) he)
  have h14 : mes.toList.length = 14 := by have := List.Perm.length_eq (show (mes.toList.map QU).Perm tableKV from hmes); rw [List.length_map] at this; exact this
  refine Jb6 (c := ⟨Tryz.prog, none, w2, [], xids, _, _⟩) rfl rfl rfl (kn 0 rfl) rfl fun qi => ?_; refine JI 3 rfl ?_; refine J1 (σ := List MapEntry × Array Nat) (fun s => (s.1 ++ KQ mes.toList s.2).Perm mes.toList) (fun _ => [(0, .func (.yield q) #[] #[]), (1, .pointer (some ⟨p, 0, none⟩)), (5, .pointer (some ⟨qi, 0, none⟩))]) (fun s => [(qi, .mapIter (some mr) mes.size s.2 mes.size), (mr, .map mes mes.size)]) (fun s => XI (yl k s.1)) (fun s => (KQ mes.toList s.2).length) ([], #[]) (by rw [Jkr]; exact List.Perm.refl _) (lK rfl) (List.Sublist.refl _) (fun _ _ h => h) ?_; rintro ⟨done, seen⟩ hI; simp only at hI; refine Jo 2 rfl ?_; refine Js9 (k := 0) rfl rfl rfl rfl (kn 1 rfl) hlt (fun hleft => ?_) (fun e he L1 hL1 => ?_)
  all_goals try (simp only [List.set_cons_zero] at hL1; subst hL1)
  all_goals (
   refine LR rfl (JM rfl rfl) (Jx 1 rfl (Y7 2 rfl ?_)); refine Jw rfl (fun g => ?_) (fun g => ?_)
   · try exact Bool.noConfusion g
     all_goals try simp only [ZZ] at g
     all_goals (
      refine Jo 5 rfl ?_
      obtain ⟨ka, kb, hab⟩ : Jbd e.key := zR hmes e (Jb8 he)
      refine LR rfl (Jta rfl (kn 0 rfl) (kn 1 rfl) hnd (Jb8 he)) ?_; refine J2 (show _ = Value.tuple #[.agg [.int .i64 ka, .int .i64 kb].toArray, e.val] from by rw [hab]; rfl) ?_; refine LR rfl (JM rfl rfl) ?_; refine LN rfl fun r1 => ?_
      refine Qk (k := 0) (n := 2) (cs' := #[_, _]) (vs := #[_, _]) rfl rfl rfl rfl rfl rfl rfl (by exact Nat.le_of_ble_eq_true rfl) rfl (by first | (simp only [List.set_cons_zero, List.set_cons_succ]; exact rfl) | exact rfl) ?_; refine JC 4 rfl ?_
      refine LR rfl (QG rfl rfl (by first | (simp only [Nat.zero_add, Nat.reduceAdd, Nat.reduceMul, Nat.zero_mul, Nat.mul_one, Nat.add_zero]; exact rfl) | exact rfl)) ?_; refine LR rfl (Jh rfl (kn 0 rfl) rfl rfl) ?_; refine LR rfl (Jh rfl (Jy (k := 0) rfl) rfl rfl) ?_; refine JC 2 rfl ?_
      refine J4 14 rfl (fun gb => ?_) (fun gb => ?_) <;> (try simp only [ZZ] at gb) <;> first | (refine Qx rfl ?_) | (refine LK rfl ?_)
      all_goals first | (refine LR rfl (QG rfl rfl (by first | (simp only [Nat.zero_add, Nat.reduceAdd, Nat.reduceMul, Nat.zero_mul, Nat.mul_one, Nat.add_zero]; exact rfl) | exact rfl)) ?_) | refine LK rfl ?_
      all_goals first | refine LR rfl (Jh rfl (kn 0 rfl) rfl rfl) ?_ | refine LK rfl ?_
      all_goals first | (refine Vy (XT := XI (yl k done ++ [kb])) (XF := XF) rfl rfl rfl rfl (hY _ _ _ ⟨kb, rfl, rfl, by have h1 := (jY hnd he hI).2.2; have h2 := ym k (done.map QU); rw [List.length_map] at h2; show (Wh k (done.map QU)).length < 14; omega⟩) ?_ ?_) | (refine LK rfl ?_)
      all_goals first | refine Wo rfl ?_ | refine LK rfl ?_
      all_goals first | refine LR rfl (ja rfl rfl) ?_ | refine LR rfl (jb rfl rfl) ?_
      all_goals (
       refine Jx 1 rfl (Y7 1 rfl ?_); refine Jw rfl (fun g => ?_) (fun g => ?_)
       · try exact Bool.noConfusion g
         all_goals try simp only [ZZ] at g
         all_goals (
          refine Kn 4 rfl ?_; refine Jf rfl rfl .nil (fun w1 hs1 => ?_)
          obtain ⟨xs1, hx1⟩ := hs1.now
          exact ⟨⟨_, rfl⟩, hs1.keep, .inr ⟨_, hx1⟩⟩
          skip)
       · try exact Bool.noConfusion g
         all_goals try simp only [ZZ] at g
         all_goals (
          refine Kn 2 rfl ?_; refine Jz ?_; exact Jv (done ++ [e], seen.push e.born) (jY hnd he hI).1 (jY hnd he hI).2.1 (lK rfl) (.cons _ (List.Sublist.refl _)) (fun _ w h => by simp only [Jgs hab]; simp_all)
          skip)
       skip)
      skip)
   · try exact Bool.noConfusion g
     all_goals try simp only [ZZ] at g
     all_goals (
      refine Kn 4 rfl ?_; refine Kh rfl rfl .nil (fun w1 hs1 => ?_)
      obtain ⟨xs1, hx1⟩ := hs1.now
      exact ⟨⟨_, rfl⟩, hs1.keep, .inl ⟨_, _, by rw [hleft, List.append_nil] at hI; exact (qP (hI.map QU)).trans (qP hmes), hx1⟩⟩
      skip)
   skip)
theorem yq : Pure Tryz.prog 174 [.int .u64 0].toArray (.int .i64 0) := ⟨fun w => (Tryz.bits_Len 0 w (by decide) (by decide)).mono fun _ _ ⟨h1, h2⟩ => ⟨h1, h2 ▸ Keep.refl _ _⟩⟩
theorem J1s : Pure Tryz.prog 225 [.slice none 0 0, .int .i64 0, .int .i64 0].toArray (.tuple #[]) := by
 refine Jk Tryz.func225 rfl rfl fun w => ?_; refine J8 ?_; refine Jo 4 rfl ?_; refine Je (by omega) (by omega) ?_; refine JI 4 rfl ?_; refine J1 (σ := Unit) (fun _ => True) (fun _ => [(2, .int .i64 0), (6, .int .i64 1)]) (fun _ => []) (fun _ _ _ => True) (fun _ => 0) () trivial (lK rfl) (List.nil_sublist _) (fun _ _ h => h) ?_; rintro ⟨⟩ -; refine JP 8 rfl ?_; refine Jw rfl (fun h4 => ?_) (fun h4 => ?_)
 exact absurd h4 (by decide)
 ·try simp only [ZZ] at h4
  refine Kn 4 rfl ?_; refine Kh rfl rfl .nil (fun w1 hs1 => ?_); exact ⟨rfl, hs1.keep⟩
theorem J1t : Pure Tryz.prog 173 [.slice none 0 0, .int .i64 0, .int .i64 0, .int .i64 0].toArray (.tuple #[]) := by
 refine Jk Tryz.func173 rfl rfl fun w => ?_; refine J8 ?_; refine JP 11 rfl ?_; refine J1 (σ := Unit) (fun _ => True) (fun _ => [(0, .slice none 0 0), (1, .int .i64 0), (2, .int .i64 0)]) (fun _ => []) (fun _ _ _ => True) (fun _ => 0) () trivial (lK rfl) (List.nil_sublist _) (fun _ _ h => h) ?_; rintro ⟨⟩ -; refine Jo 6 rfl ?_; refine Je (by omega) (by omega) ?_; refine JI 10 rfl ?_; refine Jw rfl (fun h6 => ?_) (fun h6 => ?_)
 try simp only [ZZ] at h6
 refine Jo 5 rfl ?_; refine Jl rfl rfl rfl (enters_of Tryz.func225 (by kernel_rfl) rfl) J1s ?_; refine Jx 7 rfl ?_; refine Jf rfl rfl .nil (fun w1 hs1 => ?_); exact ⟨rfl, hs1.keep⟩
 ·exact absurd h6 (by decide)
theorem Jgu : Pure Tryz.prog 106 [.slice none 0 0].toArray (.tuple #[]) := by
 refine Jk Tryz.func106 rfl rfl fun w => ?_; refine J8 ?_; refine Jo 3 rfl ?_; refine LR rfl (JU rfl rfl) ?_; refine JC 8 rfl ?_; refine Wp (by omega) (by omega) ?_; refine Jl rfl rfl rfl (enters_of Tryz.func174 (by kernel_rfl) rfl) yq ?_; refine Jl rfl rfl rfl (enters_of Tryz.func173 (by kernel_rfl) rfl) J1t ?_; refine Jx 1 rfl ?_; refine Kh rfl rfl .nil (fun w1 hs1 => ?_); exact ⟨rfl, hs1.keep⟩
def Yl (xs : List Int) : List Int := xs.mergeSort fun x y => decide (x ≤ y)
theorem Jzp {c : Cx} {L : Jm} {X : XP} {k blk cap : Nat} {xs : List Int} {sp : List Value} (hP : c.P = Tryz.prog) (hk : L[k]? = some (blk, .cells (xs.map (Value.int .i64) ++ sp).toArray 3 (0, 0))) (hlen : xs.length < 4611686018427387904) :
  ∀ w, St c L X w → Calls c.P 106 [.slice (some ⟨blk, 0, none⟩) xs.length cap].toArray w fun e w' => ∃ _ : Unit, e = .returned (.tuple #[]) ∧ St c (L.set k (blk, .cells ((Yl xs).map (Value.int .i64) ++ sp).toArray 3 (0, 0))) X w' := fun w hs => by
 rw [hP]
 have hb := hs.get hk
 refine (Tryz.slices_Sort_int blk 0 cap xs w (Jks hb) (J7 hb) hlen).mono ?_; rintro e w' ⟨rfl, n, os, hw⟩
 obtain ⟨h1, h2⟩ := Jfg (ys := Yl xs) (by unfold Yl; rw [List.length_mergeSort]) hw hb
 exact ⟨(), rfl, hs.set hk h1 h2⟩
theorem Jgv (k : Int) : PureE (α := Nat) Tryz.prog 104 [.int .i64 k].toArray (fun r => .func (.func 171) #[] #[.pointer (some ⟨r, 0, none⟩)]) (fun r => [(r, .cells #[.int .i64 k] 3 (0, 0))]) := by
 refine JV Tryz.func104 rfl rfl fun w => ?_; refine J8 ?_; refine Jo 2 rfl ?_; refine LN rfl fun r1 => ?_; refine JC 5 rfl ?_; refine LR rfl (JB rfl rfl) ?_; refine Jx 4 rfl ?_; refine pT rfl rfl rfl fun w1 hs1 => ?_; exact ⟨_, rfl, hs1⟩
def okL (f k v : Int) : Bool := okI k v && decide (f ≥ loI k v) && decide (f ≤ hiI k v)
def W0 (f k : Int) : List Int := Yl ((Wh k tableKV).filter (okL f k))
section
variable {c : Cx} {l : Kv} {L : Jm} {X : XP} {Q : Exit → Act → World → Prop} {d : List Deferred}
variable {ops : Array Oper} {rest : List Oper} {i : Nat} {ps : String} {af : Array Edge} {gd : Option (Nat × Bool)} {ty : TypeId}
theorem Jgw {f x : Operand} {at_ : Array TypeId} {xs : List Int} {row : QV} {L0 : Jm} (hP : c.P = Tryz.prog) (hp : L.Perm (JR 3 (xs.map (Value.int .i64)) row ++ L0))
  (hg : Kg l ops ⟨some i, .call ⟨.value f, #[x], at_⟩, ty, ps, af, gd⟩ = some true) (hi : Nat.ble (i + 1) c.n = true) (hf : JZ l f = some (.func (.func 106) #[] #[])) (hx : JZ l x = some (JE xs.length row)) (hok : rowOk 1 xs.length (xs.map (Value.int .i64)) row)
  (hlen : xs.length < 4611686018427387904)
  (h : HL c d ((i, .tuple #[]) :: l) (L0 ++ JR 3 ((Yl xs).map (Value.int .i64)) row) X ops rest Q) : HL c d l L X ops (⟨some i, .call ⟨.value f, #[x], at_⟩, ty, ps, af, gd⟩ :: rest) Q := by
 refine JY hp ?_
 cases row with
 | none =>
  obtain ⟨h1, h2⟩ := hok
  have hxs : xs = [] := by simpa using h2
  subst hxs; refine Jl hg hi ?_ (hP ▸ enters_of Tryz.func106 (by kernel_rfl) rfl) (hP ▸ Jgu) ?_
  ·simp only [Km, hf, evs, hx]; rfl
  ·simpa [Yl, JR] using h
 | some p =>
  obtain ⟨r, cap, sp⟩ := p
  refine Xe (α := Unit) (V := fun _ => .tuple #[]) (X' := fun _ => X) (vs := [.slice (some ⟨r, 0, none⟩) xs.length cap]) hg hi ?_ (hP ▸ enters_of Tryz.func106 (by kernel_rfl) rfl) (Jzp (k := 0) (sp := sp) hP rfl hlen) fun _ => ?_
  ·simp only [Km, hf, evs, hx]; rfl
  ·exact JY (List.perm_append_comm (l₁ := [_])) h
end
theorem qw (f k : Int) : PureE (α := { row : QV // rowOk 1 (W0 f k).length ((W0 f k).map (Value.int .i64)) row }) Tryz.prog 48 [.int .i64 f, .int .i64 k].toArray (fun r => JE (W0 f k).length r.1) (fun r => JR 3 ((W0 f k).map (Value.int .i64)) r.1) := by
  refine JV Tryz.func48 rfl rfl fun w => ?_; refine J8 ?_; refine Jo 2 rfl ?_; refine LN rfl fun r1 => ?_; refine LN rfl fun r2 => ?_; refine JC 5 rfl ?_; refine LN rfl fun r3 => ?_; refine JC 5 rfl ?_; refine LR rfl (Jh rfl (kn 1 rfl) rfl rfl) ?_; refine JJ rfl rfl rfl (enters_of Tryz.func104 (by kernel_rfl) rfl) (Jgv k) fun rc => ?_; change HL _ _ _ [(rc, .cells #[.int .i64 k] 3 (0, 0)), (r3, _), (r2, _), (r1, _)] _ _ _ _; refine JI 3 rfl ?_; refine Vt [1, 0, 2, 3] (by decide) rfl ?_; refine Xh (τ := Unit) (fun ys (s : List Value × QV) => s.1 = (ys.filter (okL f k)).map (.int .i64) ∧ rowOk 1 s.1.length s.1 s.2 ∧ ys.length ≤ 14) (fun s => (r3, .cells #[JE s.1.length s.2] 92 (0, 0)) :: JR 3 s.1 s.2) (fun _ _ => False) (fun _ => []) [(rc, _), (r2, _), (r1, _)] ([], none) rfl rfl (enters_of Tryz.func171 (by kernel_rfl) rfl) (Jgt k rc) (by rintro _ _ _ ⟨x, rfl, _⟩; rfl) rfl (by simp) rfl ⟨rfl, ⟨rfl, rfl⟩, by simp⟩ ?_ ?_ ?_
  · rintro q Xr Xb w3 ys _ _ ⟨xs, row⟩ ⟨x, rfl, rfl, hys⟩ ⟨hxs, hrow, -⟩ Kr hKr; refine yE ?_
    simp only at hxs hrow hKr ⊢
    have hn : xs.length ≤ 14 := by rw [hxs, List.length_map]; exact Nat.le_trans (List.length_filter_le _ _) (by omega)
    refine Kn 3 rfl ?_; refine hKr _ _ ?_; refine J8 ?_; clear hKr; refine Jo 3 rfl ?_; refine LR rfl (Jh rfl (Jy (k := 2) rfl) rfl rfl) ?_; refine LR rfl (Jh rfl (Jy (k := 1) rfl) rfl rfl) ?_; refine Qx rfl (Jl rfl rfl rfl (enters_of Tryz.func105 (by kernel_rfl) rfl) (yO ..) (JI 2 rfl ?_)); refine cD (fun g => ?_) fun g => ?_
    · refine X6 3 [0] rfl rfl ?_; refine JN (vs := [_]) (zs := [_]) (r := [_]) rfl rfl rfl rfl rfl rfl rfl rfl rfl (by show (madeCells #[_] _).toList = _; rw [QX]; exact rfl) rfl fun r4 => ?_; refine KL (L0 := [_, _]) (xs := xs) (row := row) (n := xs.length) (sz := 1) (b := 8) (news := [_]) (List.perm_append_comm (l₁ := [_, _])) rfl rfl rfl rfl (kn 0 rfl) rfl rfl rfl rfl rfl (by decide) rfl rfl rfl (by decide) hrow (by omega) (by omega) fun ra cap sp hra => ?_
      refine LT 2 rfl rfl ?_; refine Jx 2 rfl ?_
      by_cases hlx : okL f k x = true
      · first
        | (refine KZ [2, 0] (L' := [_, _]) (by decide) rfl ?_
           refine Kf (xs ++ [.int .i64 x], some (ra, cap, sp)) ⟨?_, ?_, ?_⟩ ?_
           simp [hxs, List.filter_append, hlx]
           simpa using hra
           simp; omega
           simp [JE, JR])
        | (exfalso; unfold okL at hlx; simp_all; done)
      · first
        | (refine Kf (xs, row) ⟨?_, hrow, ?_⟩ rfl
           simp [hxs, List.filter_append, hlx]
           simp; omega)
        | (exfalso; unfold okL at hlx; simp_all; done)
    · refine Kn 2 rfl ?_
      by_cases hlx : okL f k x = true
      · first
        | (refine KZ [2, 0] (L' := [_, _]) (by decide) rfl ?_
           refine Kf (xs ++ [.int .i64 x], some (ra, cap, sp)) ⟨?_, ?_, ?_⟩ ?_
           simp [hxs, List.filter_append, hlx]
           simpa using hra
           simp; omega
           simp [JE, JR])
        | (exfalso; unfold okL at hlx; simp_all; done)
      · first
        | (refine Kf (xs, row) ⟨?_, hrow, ?_⟩ rfl
           simp [hxs, List.filter_append, hlx]
           simp; omega)
        | (exfalso; unfold okL at hlx; simp_all; done)
  rintro D ys ⟨xs, row⟩ hfi ⟨hxs, hrow, hlen⟩
  simp only at hxs hrow ⊢; subst hxs; rw [List.length_map] at hrow ⊢
  have hn : (ys.filter (okL f k)).length ≤ 14 := Nat.le_trans (List.length_filter_le _ _) hlen
  have hv : W0 f k = Yl (ys.filter (okL f k)) := (jn (hfi.filter _)).symm
  refine gqo 4 rfl ?_; refine LR rfl (Jh rfl (kn 1 rfl) rfl rfl) ?_; refine Jgw (L0 := (D, _) :: (r3, _) :: [_, _, _]) rfl ((List.perm_append_comm_assoc [_, _] _ _)) rfl rfl rfl rfl hrow (by omega) ?_; refine Goq 9 [1] rfl rfl ?_; refine Kq (k := 0) rfl rfl ?_; refine pT rfl rfl rfl fun w1 hs1 => ?_
  generalize W0 f k = vl at hv ⊢
  subst hv
  have hle : (Yl (ys.filter (okL f k))).length = (ys.filter (okL f k)).length := by unfold Yl; rw [List.length_mergeSort]
  exact ⟨⟨row, by rw [hle]; exact hrow.same (by simp [hle])⟩, by simp [JA, hle], hs1.weakL (List.sublist_append_right [_, _, _, _, _] _)⟩
  · exact fun _ _ _ h => h.elim
def okR (f k v : Int) : Bool := (qO k v).2.2 && decide ((qO k v).1 ≤ f) && decide (f ≤ (qO k v).2.1)
def Jrz (l : List Int) : Value := if l = [] then .tuple #[.int .i64 0, .int .i64 10] else .tuple #[.int .i64 (l.getD (l.length - 1) 0), .int .i64 0]
theorem Jmd {l : List Int} (h : ¬ ((l.length : Nat) : Int) = 0) : (l.map (Value.int .i64))[l.length - 1]? = some (.int .i64 (l.getD (l.length - 1) 0)) := by
 have : l.length - 1 < l.length := by omega
 simp [this, List.getD_eq_getElem?_getD]
theorem Jme (f k : Int) : (W0 f k).length ≤ 14 := by
 unfold W0 Yl
 rw [List.length_mergeSort]; exact Nat.le_trans (List.length_filter_le _ _) (ym k tableKV)
theorem yr (f k : Int) : Pure Tryz.prog 21 [.int .i64 f, .int .i64 k].toArray (Jrz (W0 f k)) := by
  refine Jk Tryz.func21 rfl rfl fun w => ?_; refine J8 ?_
  have hlen := Jme f k
  refine Jo 10 rfl ?_; refine JJ rfl rfl rfl (enters_of Tryz.func48 (by kernel_rfl) rfl) (qw f k) fun x1 => ?_
  rcases x1 with ⟨_ | ⟨ra, cap, sp⟩, hrow⟩
  all_goals first | change HL _ _ ((_, .slice none 0 0) :: _) [] _ _ _ _ | change HL _ _ ((_, .slice (some ⟨ra, 0, none⟩) (W0 f k).length cap) :: _) [(ra, .cells ((W0 f k).map (Value.int .i64) ++ sp).toArray 3 (0, 0))] _ _ _ _
  all_goals (
   refine Jx 2 rfl (gqo 5 rfl ?_); refine LR rfl (JU rfl rfl) ?_; refine JI 3 rfl ?_; refine Jw rfl (fun g => ?_) (fun g => ?_)
   · try simp only [ZZ] at g
     refine Kn 8 rfl ?_; refine Jf rfl rfl (.cons (Jj rfl) (.cons (Jj rfl) .nil)) (fun w1 hs1 => ?_); refine ⟨?_, hs1.keep⟩
     (have h0 : W0 f k = [] := by first | exact List.eq_nil_of_length_eq_zero hrow.1 | exact List.eq_nil_of_length_eq_zero (by omega)
      simp [JA, Jrz, h0]; done)
   · try exact Bool.noConfusion g
     all_goals try simp only [ZZ] at g
     all_goals (
      refine Jo 6 rfl ?_; refine LR rfl (JU rfl rfl) ?_; refine Wo rfl (Je (by omega) (by omega) (LR rfl (JH (j := (W0 f k).length - 1) (m := 1) (off' := (W0 f k).length - 1) rfl rfl rfl rfl (by omega) (by omega) (by omega)) ?_)); refine LR rfl (Jh rfl (kn 0 rfl) rfl (jm (Jmd (by assumption)))) ?_; refine Jx 5 rfl ?_; refine Jf rfl rfl (.cons (Jj rfl) (.cons (Jj rfl) .nil)) (fun w1 hs1 => ?_); refine ⟨?_, hs1.keep⟩
      (have h0 : W0 f k ≠ [] := fun h => by simp_all
       simp [JA, Jrz, h0])
      skip)
   skip)
def qQ (k : Int) : List Int := if k = 1 then [0, 1, 2, 4, 126] else if k = 2 then [0, 1, 2] else if k = 3 then [0, 1] else if k = 4 then [0, 2] else if k = 5 then [0, 1] else []
def vl (f k : Int) : List Int := (qQ k).filter (okR f k)
theorem Jgx (f k v : Int) : okL f k v = okR f k v := by
 unfold okL okR loI hiI okI
 cases h : (qO k v).2.2 <;> simp
theorem Jmf (k : Int) : (Wh k tableKV).Perm (qQ k) := by
 by_cases h1 : k = 1
 ·subst h1; decide
 by_cases h2 : k = 2
 ·subst h2; decide
 by_cases h3 : k = 3
 ·subst h3; decide
 by_cases h4 : k = 4
 ·subst h4; decide
 by_cases h5 : k = 5
 ·subst h5; decide
 have e1 : qQ k = [] := by simp [qQ, h1, h2, h3, h4, h5]
 have e2 : Wh k tableKV = [] := by
  have a1 : (1 == k) = false := by simpa using Ne.symm h1
  have a2 : (2 == k) = false := by simpa using Ne.symm h2
  have a3 : (3 == k) = false := by simpa using Ne.symm h3
  have a4 : (4 == k) = false := by simpa using Ne.symm h4
  have a5 : (5 == k) = false := by simpa using Ne.symm h5
  have hp : ∀ a b, Jzo (KK a b) = a := fun _ _ => rfl
  simp [Wh, tableKV, hp, Ne.symm h1, Ne.symm h2, Ne.symm h3, Ne.symm h4, Ne.symm h5]
 rw [e1, e2]
theorem Jet (k : Int) : (qQ k).Pairwise (fun x y => x < y) := by
 unfold qQ
 split
 ·decide
 split
 ·decide
 split
 ·decide
 split
 ·decide
 split
 ·decide
 exact List.Pairwise.nil
theorem Jr0 (f k : Int) : W0 f k = vl f k := by
 have h1 : (fun v => okL f k v) = okR f k := funext (Jgx f k)
 unfold W0 vl
 rw [show okL f k = okR f k from h1]; rw [show Yl ((Wh k tableKV).filter (okR f k)) = Yl ((qQ k).filter (okR f k)) from jn ((Jmf k).filter _)]
 unfold Yl
 exact List.mergeSort_of_pairwise (((Jet k).filter _).imp fun h => by simpa using Int.le_of_lt h)
def Jj4 (l : List Int) : Int := l.getD (l.length - 1) 0
def Jr1 (l : List Int) : Int := if l = [] then 10 else 0
def Jzq (l : List Int) : Value := .tuple #[.int .i64 (Jj4 l), .int .i64 (Jr1 l)]
theorem Jwj (l : List Int) : Jrz l = Jzq l := by
 unfold Jrz Jzq Jj4 Jr1
 by_cases h : l = [] <;> simp [h]
theorem J1u (f k : Int) : Pure Tryz.prog 21 [.int .i64 f, .int .i64 k].toArray (Jzq (vl f k)) := by
 have := yr f k
 rwa [Jr0, Jwj] at this
theorem Jzr {f k v : Int} (h : okI k v = true) : okR f k v = (decide (loI k v ≤ f) && decide (f ≤ hiI k v)) := by
 rw [← Jgx]; unfold okL; rw [h]; simp
theorem Jzs {f k v : Int} (h : okI k v = false) : okR f k v = false := by
 rw [← Jgx]; unfold okL; rw [h]; simp
theorem Jbf {f k v : Int} : okR f k v = true ↔ okI k v = true ∧ loI k v ≤ f ∧ f ≤ hiI k v := by
 cases h : okI k v with
 | true => rw [Jzr h]; simp
 | false => rw [Jzs h]; simp
theorem grow {a b c k v : Int} (h1 : a ≤ b) (h2 : b ≤ c) (ha : okR a k v = true) (hc : okR c k v = true) : okR b k v = true := by
 obtain ⟨a1, a2, a3⟩ := Jbf.1 ha
 obtain ⟨c1, c2, c3⟩ := Jbf.1 hc
 exact Jbf.2 ⟨a1, by omega, by omega⟩
def sV (s : List UInt8) : Value := .string (bs s)
def pV (p : List (List UInt8)) : Value := .agg (p.map sV).toArray
theorem Jeu {p : List (List UInt8)} {j : Nat} (h : j < p.length) : (p.map sV)[j]? = some (.string (bs (p.getD j []))) := by
 simp [h, sV, List.getD_eq_getElem?_getD]
def Jev (p : List (List UInt8)) : Bool := p.all fun x => decide (x.length = 32)
def zS (v : Int) : List UInt8 := Zf [v.toNat, 0, 0, 0] 32
def Jew (v : Int) (n : Nat) : List UInt8 := if v = 1 then jr n 8 else []
def W1 (v : Int) (p : List (List UInt8)) (n : Nat) : List UInt8 × Int :=
 if v ≠ 0 ∧ v ≠ 1 then ([], 9) else if Jev p = false ∨ (v = 0 ∧ n ≠ 0) then ([], 2) else (zS v ++ p.flatten ++ Jew v n, 0)
theorem Jzt {v : Int} {p : List (List UInt8)} {n : Nat} (h0 : ¬ v = 0) (h1 : ¬ v = 1) : W1 v p n = ([], 9) := by unfold W1; rw [if_pos ⟨h0, h1⟩]
theorem Jwk {v : Int} {p : List (List UInt8)} {n i : Nat} (h : v = 0 ∨ v = 1) (hi : i < p.length) (hl : ¬ (p.getD i []).length = 32) : W1 v p n = ([], 2) := by
 have ha : Jev p = false := by
  rw [Bool.eq_false_iff]; intro h2
  have := List.all_eq_true.1 h2 (p.getD i []) (by simp [List.getD_eq_getElem?_getD, hi])
  exact hl (of_decide_eq_true this)
 unfold W1; rw [if_neg (by omega), if_pos (.inl ha)]
theorem Jwl {v : Int} {p : List (List UInt8)} {n : Nat} (h : v = 0) (hn : ¬ n = 0) : W1 v p n = ([], 2) := by
 unfold W1; rw [if_neg (by omega), if_pos (.inr ⟨h, hn⟩)]
theorem Jr2 {p : List (List UInt8)} (h : ∀ j, j < p.length → (p.getD j []).length = 32) : Jev p = true := by
 refine List.all_eq_true.2 fun x hx => ?_
 obtain ⟨j, hj, rfl⟩ := List.getElem_of_mem hx
 have := h j hj
 rw [List.getD_eq_getElem?_getD, List.getElem?_eq_getElem hj] at this; exact decide_eq_true this
theorem Jj5 {v : Int} {p : List (List UInt8)} {n : Nat} (h : v = 0 ∨ v = 1) (ha : ∀ j, j < p.length → (p.getD j []).length = 32) (hn : v = 0 → n = 0) : W1 v p n = (zS v ++ p.flatten ++ Jew v n, 0) := by
 unfold W1; rw [if_neg (by omega), if_neg (by rw [Jr2 ha]; rintro (h2 | ⟨h2, h3⟩); cases h2; exact h3 (hn h2))]
theorem Zw {p : List (List UInt8)} : ∀ i, i ≤ p.length → (∀ j, j < i → (p.getD j []).length = 32) → (p.take i).flatten.length = 32 * i
 | 0, _, _ => by simp
 | i + 1, hi, h => by
  rw [List.take_succ, List.getElem?_eq_getElem (by omega), List.flatten_append, List.length_append, Zw i (by omega) fun j hj => h j (by omega)]
  have := h i (by omega)
  rw [List.getD_eq_getElem?_getD, List.getElem?_eq_getElem (by omega)] at this; simp at this ⊢; omega
theorem Jmg {p : List (List UInt8)} {i : Nat} (hi : i < p.length) : (p.take (i + 1)).flatten = (p.take i).flatten ++ p.getD i [] := by
 rw [List.take_succ, List.getElem?_eq_getElem hi, List.flatten_append, List.getD_eq_getElem?_getD, List.getElem?_eq_getElem hi]; simp
theorem J22 {n : Nat} (hn : n < 18446744073709551616) : yI n 8 = (jr n 8, 0) := by
 unfold yI; rw [if_neg (by have := Ju1 hn; omega)]; rfl
theorem zT (v : Int) : (zS v).length = 32 := V8 _ _
theorem Jmh {p : List (List UInt8)} (hp : p.length = 3) {n : Nat} (hn : n < 18446744073709551616) (v : Int) : Pure Tryz.prog 49 [.int .i64 v, pV p, uV n].toArray (Zy (W1 v p n)) := by
  refine Jk Tryz.func49 rfl rfl fun w => ?_; refine J8 ?_
  have hhl := zT v
  refine Jo 2 rfl ?_; refine JS (cs := (p.map sV).toArray) rfl rfl rfl rfl fun r1 => ?_; refine JC 10 rfl ?_
  refine J4 14 rfl (fun gb => ?_) (fun gb => ?_) <;> (try simp only [ZZ] at gb) <;> first | (refine Qx rfl ?_) | (refine LK rfl ?_)
  all_goals (
   refine LW 2 [] rfl rfl (Jx 1 rfl (Y7 1 rfl ?_)); refine Jw rfl (fun g => ?_) (fun g => ?_)
   · try exact Bool.noConfusion g
     all_goals try simp only [ZZ] at g
     all_goals (
      refine Kn 8 rfl ?_; refine Jf rfl rfl (.cons (Jj rfl) (.cons (Jj rfl) .nil)) (fun w1 hs1 => ?_); refine ⟨?_, hs1.keep⟩; rw [Jzt (by omega) (by omega)]; rfl
      skip)
   · try simp only [ZZ] at g
     refine JP 3 rfl ?_
     have hv01 : v = 0 ∨ v = 1 := by omega
     refine Jo 3 rfl ?_; refine J2 (show _ = uV v.toNat from congrArg (Value.int .u64) (by rw [wrap_u64 (by omega) (by omega)]; omega)) ?_; refine Jl rfl rfl rfl jD (Vo v.toNat) ?_; refine Jl rfl rfl rfl Jaf (Q2 (l := [v.toNat, 0, 0, 0]) (Jys (by omega))) ?_; refine J2 (show _ = Value.string (bs (zS v ++ (p.take 0).flatten)) from by simp [zS]) ?_; refine JI 10 rfl ?_; refine J1 (σ := Nat) (fun i => i ≤ p.length ∧ ∀ j, j < i → (p.getD j []).length = 32) (fun i => [(0, .int .i64 v), (2, uV n), (4, .pointer (some ⟨r1, 0, none⟩)), (8, .string (bs (zS v ++ (p.take i).flatten))), (22, .int .i64 (i : Int))]) (fun i => [(r1, .cells (p.map sV).toArray 56 (0, 0))]) (fun _ _ _ => True) (fun i => 3 - i) 0 ⟨Nat.zero_le _, fun j hj => by omega⟩ (lK rfl) (List.Sublist.refl _) (fun _ _ h => h) ?_; rintro i ⟨hi, hall⟩; refine JP 6 rfl ?_; refine cD (fun g => ?_) fun g => ?_
     refine JP 12 rfl ?_
     have hfl := Zw i (by omega) hall
     refine Jo 2 rfl ?_; refine LR rfl (JG (j := i) (m := 1) (off' := i) rfl rfl rfl rfl (by omega) (by omega) (by omega)) ?_; refine LR rfl (KG rfl (kn 0 rfl) rfl (Jeu (by omega))) ?_; refine LR rfl (Qm rfl rfl) ?_; refine JI 3 rfl ?_; refine cD (fun g => ?_) fun g => ?_
     refine Kn 13 rfl ?_; refine Jf rfl rfl (.cons (Jj rfl) (.cons (Jj rfl) .nil)) (fun w1 hs1 => ?_); refine ⟨?_, hs1.keep⟩; rw [Jwk (i := i) hv01 (by omega) (by omega)]; rfl
     refine Jo 5 rfl ?_; refine LR rfl (JG (j := i) (m := 1) (off' := i) rfl rfl rfl rfl (by omega) (by omega) (by omega)) ?_; refine LR rfl (KG rfl (kn 0 rfl) rfl (Jeu (by omega))) ?_; refine LR rfl (QC rfl rfl (by simp only [List.length_append]; omega)) ?_; refine JC 6 rfl ?_; refine Je (by omega) (by omega) ?_; refine Jx 2 rfl ?_; refine Jz ?_
     exact Jv (i + 1) ⟨by omega, fun j hj => by
       by_cases hji : j = i
       subst hji; omega
       exact hall j (by omega)⟩ (by omega) (.cons rfl (.cons rfl (.cons rfl (.cons (by rw [Jmg (by omega), ← List.append_assoc]; rfl) (.cons rfl .nil))))) (List.Sublist.refl _) (fun _ _ h => h)
     · refine JP 7 rfl ?_
       have hi3 : i = p.length := by omega
       subst hi3
       have hfl := Zw p.length (Nat.le_refl _) hall
       rw [List.take_length] at hfl ⊢; rw [hp] at hfl; refine Jo 4 rfl ?_
       refine J4 38 rfl (fun gb => ?_) (fun gb => ?_) <;> (try simp only [ZZ] at gb) <;> first | (refine Qx rfl ?_) | (refine LK rfl ?_)
       all_goals (
        refine LW 2 [] rfl rfl (Jx 1 rfl (Y7 1 rfl ?_)); refine Jw rfl (fun g => ?_) (fun g => ?_)
        · try exact Bool.noConfusion g
          all_goals try simp only [ZZ] at g
          all_goals (
           refine Kn 8 rfl ?_; refine Jf rfl rfl (.cons (Jj rfl) (.cons (Jj rfl) .nil)) (fun w1 hs1 => ?_); refine ⟨?_, hs1.keep⟩; rw [Jwl (by omega) (by omega)]; rfl
           skip)
        try simp only [ZZ] at g
        refine JP 9 rfl ?_; refine cD (fun g => ?_) fun g => ?_
        refine Jo 3 rfl ?_; refine Jl rfl rfl rfl Juh (jG hn 8) ?_; refine J2 (congrArg Zy (J22 hn)) ?_; refine JC 10 rfl ?_; refine LR rfl (QC rfl rfl (by simp only [List.length_append, Vm]; omega)) ?_; refine Jx 11 rfl ?_; refine Jf rfl rfl (.cons (Jj rfl) (.cons (Jj rfl) .nil)) (fun w1 hs1 => ?_); refine ⟨?_, hs1.keep⟩
        rw [Jj5 hv01 hall (by omega)]; simp only [Jew]; first | (rw [if_pos (by omega)]; rfl) | (rw [if_neg (by omega), List.append_nil]; rfl)
        refine Kn 10 rfl ?_; refine Jf rfl rfl (.cons (Jj rfl) (.cons (Jj rfl) .nil)) (fun w1 hs1 => ?_); refine ⟨?_, hs1.keep⟩
        rw [Jj5 hv01 hall (by omega)]; simp only [Jew]; first | (rw [if_pos (by omega)]; rfl) | (rw [if_neg (by omega), List.append_nil]; rfl)
        skip)
   skip)
def Xx (v : Int) (p : List (List UInt8)) (n : Nat) : List UInt8 × Int := if (W1 v p n).2 = 0 then (W5 (W1 v p n).1, 0) else ([], (W1 v p n).2)
theorem Jr3 {v : Int} {p : List (List UInt8)} (hp : p.length = 3) (n : Nat) : (W1 v p n).1.length ≤ 136 := by
 unfold W1
 split
 ·simp
 ·split
  ·simp
  ·rename_i h1 h2
   have ha : ∀ j, j < p.length → (p.getD j []).length = 32 := fun j hj => by
    have h3 : Jev p = true := by
     cases h : Jev p with
     | true => rfl
     | false => exact absurd (.inl h) h2
    exact of_decide_eq_true (List.all_eq_true.1 h3 (p.getD j []) (by simp [List.getD_eq_getElem?_getD, hj]))
   have hf := Zw p.length (Nat.le_refl _) ha
   rw [List.take_length] at hf; simp only [List.length_append, zT, hf, hp, Jew]
   split <;> simp [Vm]
theorem Y4 {p : List (List UInt8)} (hp : p.length = 3) {n : Nat} (hn : n < 18446744073709551616) (v : Int) : Pure Tryz.prog 22 [.int .i64 v, pV p, uV n].toArray (Zy (Xx v p n)) := by
 refine Jk Tryz.func22 rfl rfl fun w => ?_; refine J8 ?_
 have hpl := Jr3 (v := v) hp n
 refine Jo 2 rfl ?_; refine JS (cs := (p.map sV).toArray) rfl rfl rfl rfl fun r1 => ?_; refine JC 7 rfl ?_; refine LR rfl (Jb (xs := p.map sV) (n := 3) rfl (kn 0 rfl) rfl rfl (by rw [List.length_map, hp])) ?_; refine Qx rfl (Jl rfl rfl rfl (enters_of Tryz.func49 (by kernel_rfl) rfl) (Jmh hp hn v) (JI 14 rfl ?_)); refine cD (fun g => ?_) fun g => ?_
 refine Kn 9 rfl ?_; refine Jf rfl rfl (.cons (Jj rfl) (.cons (Jj rfl) .nil)) (fun w1 hs1 => ?_); refine ⟨?_, hs1.keep⟩; rw [show Xx v p n = ([], (W1 v p n).2) from by unfold Xx; rw [if_neg (by assumption)]]; rfl
 ·refine Jo 5 rfl ?_; refine Jl rfl rfl rfl Jf8 (wB (by omega)) ?_; refine Jx 5 rfl ?_; refine Jf rfl rfl (.cons (Jj rfl) (.cons (Jj rfl) .nil)) (fun w1 hs1 => ?_); refine ⟨?_, hs1.keep⟩; rw [show Xx v p n = (W5 (W1 v p n).1, 0) from by unfold Xx; rw [if_pos (by assumption)]]; rfl
def jS : List Nat → Bool
 | x :: y :: l => decide (x ≤ y) && jS (y :: l)
 | _ => true
theorem Jj6 : ∀ {l : List Nat} {i x y : Nat}, l[i]? = some x → l[i + 1]? = some y → y < x → jS l = false
 | [], i, x, y, h, _, _ => by simp at h
 | [a], i, x, y, _, h, _ => by simp at h
 | a :: b :: l, 0, x, y, h1, h2, h => by
  simp only [List.getElem?_cons_zero, List.getElem?_cons_succ, Nat.zero_add, Option.some.injEq] at h1 h2; subst h1 h2
  unfold jS
  rw [decide_eq_false (by omega)]; rfl
 | a :: b :: l, i + 1, x, y, h1, h2, h => by
  rw [List.getElem?_cons_succ] at h1 h2
  unfold jS
  rw [Jj6 h1 h2 h, Bool.and_false]
theorem Jex : ∀ {l : List Nat}, (∀ i x y, l[i]? = some x → l[i + 1]? = some y → x ≤ y) → jS l = true
 | [], _ => rfl
 | [a], _ => rfl
 | a :: b :: l, h => by
  unfold jS
  rw [decide_eq_true (h 0 a b rfl rfl), Jex fun i x y h1 h2 => h (i + 1) x y (by rw [List.getElem?_cons_succ]; exact h1) (by rw [List.getElem?_cons_succ]; exact h2)]; rfl
theorem Jbg : ∀ {l : List Nat}, jS l = true → ∀ {i j x y : Nat}, i ≤ j → l[i]? = some x → l[j]? = some y → x ≤ y
 | [], _, i, j, x, y, _, h, _ => by simp at h
 | [a], _, i, j, x, y, hij, h1, h2 => by
  cases i with
  | zero => cases j with
   | zero => rw [h1] at h2; cases h2; exact Nat.le_refl _
   | succ j => simp at h2
  | succ i => simp at h1
 | a :: b :: l, h, i, j, x, y, hij, h1, h2 => by
  unfold jS at h
  obtain ⟨ha, hr⟩ := Bool.and_eq_true_iff.1 h
  have ha := of_decide_eq_true ha
  cases j with
  | zero =>
   obtain rfl : i = 0 := by omega
   rw [h1] at h2; cases h2; exact Nat.le_refl _
  | succ j =>
   rw [List.getElem?_cons_succ] at h2
   cases i with
   | zero =>
    simp only [List.getElem?_cons_zero, Option.some.injEq] at h1; subst h1; exact Nat.le_trans ha (Jbg hr (Nat.zero_le _) (i := 0) rfl h2)
   | succ i => rw [List.getElem?_cons_succ] at h1; exact Jbg hr (by omega) h1 h2
def jT (t : Nat) : List Nat → Nat
 | x :: l => if x ≤ t then jT t l + 1 else 0
 | [] => 0
theorem vD (t : Nat) : ∀ l : List Nat, jT t l ≤ l.length
 | [] => Nat.le_refl _
 | x :: l => by
  have := vD t l
  unfold jT
  split <;> simp only [List.length_cons] <;> omega
theorem Jj7 {t : Nat} : ∀ {l : List Nat} {i x : Nat}, i < jT t l → l[i]? = some x → x ≤ t
 | [], i, x, h, _ => by unfold jT at h; omega
 | a :: l, i, x, h, hx => by
  unfold jT at h
  split at h
  ·cases i with
   | zero => simp only [List.getElem?_cons_zero, Option.some.injEq] at hx; subst hx; assumption
   | succ i => rw [List.getElem?_cons_succ] at hx; exact Jj7 (by omega) hx
  ·omega
theorem Jj8 {t : Nat} : ∀ {l : List Nat} {x : Nat}, l[jT t l]? = some x → t < x
 | [], x, h => by simp at h
 | a :: l, x, h => by
  unfold jT at h
  split at h
  ·rw [List.getElem?_cons_succ] at h; exact Jj8 h
  ·simp only [List.getElem?_cons_zero, Option.some.injEq] at h; subst h; omega
theorem Jr4 {t : Nat} {l : List Nat} (hr : jS l = true) {i x : Nat} (hx : l[i]? = some x) : decide (t < x) = decide (jT t l ≤ i) := by
 by_cases h : jT t l ≤ i
 ·have hl := (List.getElem?_eq_some_iff.1 hx).1
  obtain ⟨y, hy⟩ : ∃ y, l[jT t l]? = some y := ⟨_, List.getElem?_eq_getElem (by omega)⟩
  have h1 := Jj8 hy
  have h2 := Jbg hr h hy hx
  rw [decide_eq_true h, decide_eq_true (by omega)]
 ·have := Jj7 (t := t) (l := l) (i := i) (by omega) hx
  rw [decide_eq_false h, decide_eq_false (by omega)]
def Jey (ts : List Nat) : Int := if ts.length < 1 ∨ ts.length > 6 then 2 else if jS ts = false then 11 else 0
def Qv (ts : List Nat) (t : Nat) : Int × Int := if Jey ts ≠ 0 then (0, Jey ts) else if jT t ts = 0 then (0, 10) else ((jT t ts : Int) - 1, 0)
def J1v (n : Nat) (p : Pl) : Value := .agg #[KP n p]
abbrev unC (ts : List Nat) : List Value := ts.map uV
theorem Jbh {ts : List Nat} {i x : Nat} (h : ts[i]? = some x) : (unC ts)[i]? = some (uV x) := by rw [List.getElem?_map, h]; rfl
theorem Jzu {ts : List Nat} {i : Nat} (h : i < ts.length) : ∃ x, ts[i]? = some x ∧ x ∈ ts := ⟨ts[i], List.getElem?_eq_getElem h, List.getElem_mem h⟩
theorem Jr5 (a : Nat) : Pure Tryz.prog 318 [uV a].toArray (.bool false) := by
 refine Jk Tryz.func318 rfl rfl fun w => ?_; refine J8 ?_; refine Kn 14 rfl ?_; refine pT rfl rfl rfl fun w1 hs1 => ?_; refine ⟨?_, hs1.keep⟩
 simp [JA]
theorem Jwm (a b : Nat) : Pure Tryz.prog 247 [uV a, uV b].toArray (.bool (decide (a < b))) := by
 refine Jk Tryz.func247 rfl rfl fun w => ?_; refine J8 ?_; refine Jo 8 rfl ?_; refine Jl rfl rfl rfl (enters_of Tryz.func318 (by kernel_rfl) rfl) (Jr5 _) ?_; refine Jx 14 rfl ?_; refine pT rfl rfl rfl fun w1 hs1 => ?_; refine ⟨?_, hs1.keep⟩
 simp_all [JA]
theorem Jgy {R : Jm} {ts : List Nat} {p : Pl} (hl : ts.length ≤ 9223372036854775807) (h1 : 1 ≤ ts.length) (hs : Seg R ts.length (unC ts) p) : PureR Tryz.prog 193 [KP ts.length p].toArray (.bool (jS ts)) R := by
 refine Ja Tryz.func193 rfl rfl fun w => ?_; refine J8 ?_; refine Jo 9 rfl ?_; refine LR rfl (J3 rfl hs rfl) ?_; refine Wo rfl (Je (by omega) (by omega) ?_); refine J2 (show _ = Value.int .i64 ((ts.length - 1 : Nat) : Int) from by rw [Int.ofNat_sub h1]; rfl) ?_; refine JI 4 rfl ?_; refine J1 (σ := Nat) (fun j => j < ts.length ∧ ∀ i x y, j ≤ i → ts[i]? = some x → ts[i + 1]? = some y → x ≤ y) (fun j => [(0, KP ts.length p), (3, .int .i64 (j : Int))]) (fun _ => []) (fun _ _ _ => True) (fun j => j) (ts.length - 1) ⟨by omega, fun i x y hi _ hy => absurd (List.getElem?_eq_some_iff.1 hy).1 (by omega)⟩ (lK rfl) (List.nil_sublist _) (fun _ _ h => h) ?_; rintro j ⟨hj1, hinv⟩; refine JP 7 rfl ?_; refine cD (fun g => ?_) fun g => ?_
 refine JP 5 rfl ?_
 obtain ⟨i, rfl⟩ : ∃ i, j = i + 1 := ⟨j - 1, by omega⟩
 obtain ⟨x, hx, hmx⟩ := Jzu (show i < ts.length by omega)
 obtain ⟨y, hy, hmy⟩ := Jzu (show i + 1 < ts.length by omega)
 refine JK 10 (by kernel_rfl) (by kernel_rfl) ?_; refine Jd rfl rfl rfl (Ji rfl) ?_; refine Jd rfl rfl rfl (Ji rfl) ?_
 refine Jd rfl rfl rfl (Ju (j := (i + 1)) rfl hs rfl rfl rfl (by first | rfl | omega) (by omega)) ?_; refine Jd rfl rfl rfl (VY oR rfl hs (by omega) rfl (Jbh hy)) ?_; refine Jd rfl rfl rfl (Ji rfl) ?_; refine Jd rfl rfl rfl (Ji rfl) ?_; refine Jd rfl rfl rfl (J0 rfl rfl rfl) ?_; refine QH (by omega) (by omega) ?_
 refine Jd rfl rfl rfl (Ju (j := i) rfl hs rfl rfl rfl (by first | rfl | omega) (by omega)) ?_; refine Jd rfl rfl rfl (VY oR rfl hs (by omega) rfl (Jbh hx)) ?_; refine Kz rfl rfl rfl (enters_of Tryz.func247 (by kernel_rfl) rfl) (Jwm _ _) ?_; refine JW ?_; refine JI 2 rfl ?_; refine cD (fun g => ?_) fun g => ?_
 refine Kn 11 rfl ?_; refine pT rfl rfl rfl fun w1 hs1 => ?_; refine ⟨?_, hs1.keep⟩; rw [Jj6 hx hy (by simp_all)]; rfl
 refine Jo 6 rfl ?_; refine Je (by omega) (by omega) ?_; refine J2 (show _ = Value.int .i64 (i : Int) from by congr 1; omega) ?_; refine Jx 2 rfl ?_; refine Jz ?_
 exact Jv i ⟨by omega, fun q u v hq hu hv => by
  rcases Nat.eq_or_lt_of_le hq with rfl | hq
  rw [hx] at hu; rw [hy] at hv; cases hu; cases hv; simp_all
  exact hinv q u v (by omega) hu hv⟩ (by omega) (lK rfl) (List.nil_sublist _) (fun _ _ h => h)
 ·refine Kn 11 rfl ?_; refine pT rfl rfl rfl fun w1 hs1 => ?_; refine ⟨?_, hs1.keep⟩; rw [Jex fun i x y hx hy => hinv i x y (by omega) hx hy]; rfl
theorem Jmi {R : Jm} {ts : List Nat} {p : Pl} (hl : ts.length ≤ 9223372036854775807) (hs : Seg R ts.length (unC ts) p) : PureR Tryz.prog 120 [J1v ts.length p].toArray (.int .i64 (Jey ts)) R := by
  have hE : Jey ts = if decide ((ts.length : Int) < 1) = true ∨ (ts.length : Int) > 6 then 2 else if jS ts = false then 11 else 0 := by
    unfold Jey
    exact ite_congr (propext (by rw [decide_eq_true_eq]; omega)) (fun _ => rfl) (fun _ => rfl)
  refine Ja Tryz.func120 rfl rfl fun w => ?_; refine J8 ?_; refine Jo 2 rfl ?_; refine LN rfl fun r1 => ?_; refine Xj 9 [0] rfl rfl ?_; refine LR rfl (J3 rfl hs rfl) ?_; refine LS 2 [] rfl rfl ?_
  refine J4 8 rfl (fun gb => ?_) (fun gb => ?_) <;> (try simp only [ZZ] at gb) <;> first | (refine LR rfl (JD rfl rfl rfl) ?_) | (refine LK rfl ?_)
  all_goals refine LW 1 [0] rfl rfl ?_
  all_goals first | refine LR rfl (J3 rfl hs rfl) ?_ | refine LK rfl ?_
  all_goals (
   refine LW 3 [] rfl rfl (Jx 1 rfl (Y7 1 rfl ?_)); refine Jw rfl (fun g => ?_) (fun g => ?_)
   try simp only [ZZ] at g
   refine Kn 8 rfl ?_; refine pT rfl rfl rfl fun w1 hs1 => ?_; refine ⟨?_, hs1.keep⟩; rw [hE]; simp only [JA]
   simp_all
   · try exact Bool.noConfusion g
     all_goals try simp only [ZZ] at g
     all_goals (
      refine X6 4 [0] rfl rfl ?_; refine Jg rfl rfl rfl (enters_of Tryz.func193 (by kernel_rfl) rfl) (Jgy hl (by omega) hs) oR ?_; refine JI 4 rfl ?_; refine cD (fun g => ?_) fun g => ?_
      refine Kn 8 rfl ?_; refine pT rfl rfl rfl fun w1 hs1 => ?_; refine ⟨?_, hs1.keep⟩; rw [hE]; simp only [JA]
      simp_all
      refine Kn 9 rfl ?_; refine pT rfl rfl rfl fun w1 hs1 => ?_; refine ⟨?_, hs1.keep⟩; rw [hE]; simp only [JA]
      simp_all
      skip)
   skip)
theorem Jr6 {R : Jm} {n k : Nat} (hn : n ≤ 1000) (hk : k ≤ n) {g : FuncId} {caps : List Value} (eg : Enters Tryz.prog g) (hg : ∀ i, i < n → PureR Tryz.prog g (.int .i64 (i : Int) :: caps).toArray (.bool (decide (k ≤ i))) R) :
  PureR Tryz.prog 121 [.int .i64 (n : Int), .func (.func g) #[] caps.toArray].toArray (.int .i64 (k : Int)) R := by
 refine Ja Tryz.func121 rfl rfl fun w => ?_; refine J8 ?_; refine JP 14 rfl ?_; refine J1 (σ := Nat × Nat) (fun s => s.1 ≤ k ∧ k ≤ s.2 ∧ s.2 ≤ n) (fun s => [(1, .func (.func g) #[] caps.toArray), (5, .int .i64 (s.1 : Int)), (6, .int .i64 (s.2 : Int))]) (fun _ => []) (fun _ _ _ => True) (fun s => s.2 - s.1) (0, n) ⟨Nat.zero_le _, hk, Nat.le_refl _⟩ (lK rfl) (List.nil_sublist _) (fun _ _ h => h) ?_; rintro ⟨i, j⟩ ⟨hi0, hj0, hj1⟩; simp only at hi0 hj0 hj1; change HC _ _ [(1, _), (5, .int .i64 (i : Int)), (6, .int .i64 (j : Int))] _ _ _ _; refine JP 8 rfl ?_; refine cD (fun h6 => ?_) fun h6 => ?_
 refine Jo 8 rfl ?_; refine Je (by omega) (by omega) ?_; refine Wo rfl (Wp (by omega) (by omega) (J2 (show _ = Value.int .u64 ((i + j : Nat) : Int) from by rw [Int.natCast_add]) ?_)); refine LR rfl (vN (n := 1) (b := (((i + j) / 2 : Nat) : Int)) rfl rfl rfl (by decide) (by omega) (by omega)) ?_; refine Wo rfl (Je (by omega) (by omega) (JC 7 rfl ?_)); refine Jg rfl rfl rfl eg (hg ((i + j) / 2) (by omega)) oR ?_; refine JI 3 rfl ?_; refine cD (fun h9 => ?_) fun h9 => ?_
 refine Jo 3 rfl ?_; refine Je (by omega) (by omega) ?_; refine Jx 3 rfl ?_; refine Jz ?_; exact Jv ((i + j) / 2 + 1, j) ⟨by simp only; simp at *; omega, hj0, hj1⟩ (by simp only; omega) (lK rfl) (List.nil_sublist _) (fun _ _ h => h)
 refine Kn 5 rfl ?_; refine Jz ?_; exact Jv (i, (i + j) / 2) ⟨hi0, by simp only; simp at *; omega, by simp only; omega⟩ (by simp only; omega) (lK rfl) (List.nil_sublist _) (fun _ _ h => h)
 ·refine Kn 12 rfl ?_; refine pT rfl rfl rfl fun w1 hs1 => ?_; refine ⟨?_, hs1.keep⟩; rw [show i = k by omega]; rfl
theorem Jzv {R : Jm} {ts : List Nat} {p : Pl} (hs : Seg R ts.length (unC ts) p) {rs rt es et : Nat} {t : Nat} (h1 : (rs, Obj.cells #[KP ts.length p] es (0, 0)) ∈ R) (h2 : (rt, Obj.cells #[uV t] et (0, 0)) ∈ R) (hr : jS ts = true) {i : Nat} (hi : i < ts.length) :
  PureR Tryz.prog 122 [.int .i64 (i : Int), .pointer (some ⟨rs, 0, none⟩), .pointer (some ⟨rt, 0, none⟩)].toArray (.bool (decide (jT t ts ≤ i))) R := by
 obtain ⟨x, hx, hmx⟩ := Jzu hi
 refine Ja Tryz.func122 rfl rfl fun w => ?_; refine J8 ?_; refine JP 6 rfl ?_; refine JK 8 (by kernel_rfl) (by kernel_rfl) ?_
 refine Jd rfl rfl rfl (JD rfl rfl rfl) ?_; refine Jd rfl rfl rfl (Jh rfl (Or.inr h1) rfl rfl) ?_; refine Jd rfl rfl rfl (Ji rfl) ?_
 refine Jd rfl rfl rfl (Ju (j := i) rfl hs rfl rfl rfl (by first | rfl | omega) (by omega)) ?_; refine Jd rfl rfl rfl (VY oR rfl hs (by omega) rfl (Jbh hx)) ?_; refine Jd rfl rfl rfl (Jh rfl (Or.inr h2) rfl rfl) ?_; refine Jd rfl rfl rfl (J0 rfl rfl rfl) ?_; refine Jd rfl rfl rfl (J9 rfl) ?_; refine JW ?_; refine Jx 3 rfl ?_; refine pT rfl rfl rfl fun w1 hs1 => ?_; refine ⟨?_, hs1.keep⟩; rw [← Jr4 hr hx]
 simp [JA]
theorem Jr7 {R : Jm} {ts : List Nat} {p : Pl} (hl : ts.length ≤ 9223372036854775807) (hs : Seg R ts.length (unC ts) p) (t : Nat) : PureR Tryz.prog 71 [J1v ts.length p, uV t].toArray (.tuple #[.int .i64 (Qv ts t).1, .int .i64 (Qv ts t).2]) R := by
 refine Ja Tryz.func71 rfl rfl fun w => ?_; refine J8 ?_; refine Jo 2 rfl ?_; refine LN rfl fun r1 => ?_; refine LN rfl fun r2 => ?_; refine JC 7 rfl ?_; refine LR rfl (Jp (vs := [_]) rfl (kn 1 rfl) rfl rfl rfl rfl) ?_; refine Jg rfl rfl rfl (enters_of Tryz.func120 (by kernel_rfl) rfl) (Jmi hl hs) oR ?_; refine JI 9 rfl ?_; refine cD (fun g => ?_) fun g => ?_
 refine Kn 9 rfl ?_; refine Jf rfl rfl (.cons (Jj rfl) (.cons (Jj rfl) .nil)) (fun w1 hs1 => ?_); refine ⟨?_, hs1.keep⟩; simp only [JA, Qv]
 simp_all
 ·refine JP 3 rfl ?_
  have hz : Jey ts = 0 := by assumption
  have h6 : 1 ≤ ts.length ∧ ts.length ≤ 6 ∧ jS ts = true := by
   unfold Jey at hz
   split at hz
   cases hz
   split at hz
   cases hz
   refine ⟨by omega, by omega, ?_⟩; simp_all
  refine X6 3 [1] rfl rfl ?_; refine LR rfl (J3 rfl hs rfl) ?_; refine LR rfl (JB rfl rfl) ?_; refine Jg (Rl := (r1, Obj.cells #[KP ts.length p] 24 (0, 0)) :: (r2, Obj.cells #[uV t] 25 (0, 0)) :: R) rfl rfl rfl (enters_of Tryz.func121 (by kernel_rfl) rfl) (Jr6 (caps := [.pointer (some ⟨r1, 0, none⟩), .pointer (some ⟨r2, 0, none⟩)]) (by omega) (vD t ts) (enters_of Tryz.func122 (by kernel_rfl) rfl) (fun i hi => Jzv (hs.mono fun q hq => List.mem_cons_of_mem _ (List.mem_cons_of_mem _ hq)) List.mem_cons_self (List.mem_cons_of_mem _ List.mem_cons_self) h6.2.2 hi)) (fun q hq => (List.mem_cons.1 hq).elim (fun h => Or.inl (by rw [h]; simp)) fun hq => (List.mem_cons.1 hq).elim (fun h => Or.inl (by rw [h]; simp)) Or.inr) ?_; refine JI 10 rfl ?_; refine cD (fun g => ?_) fun g => ?_
  refine Kn 8 rfl ?_; refine Jf rfl rfl (.cons (Jj rfl) (.cons (Jj rfl) .nil)) (fun w1 hs1 => ?_); refine ⟨?_, hs1.keep⟩; simp only [JA, Qv]
  simp_all
  ·refine JP 3 rfl ?_
   have hc6 := vD t ts
   refine Jo 3 rfl ?_; refine Je (by omega) (by omega) ?_; refine Jx 5 rfl ?_; refine Jf rfl rfl (.cons (Jj rfl) (.cons (Jj rfl) .nil)) (fun w1 hs1 => ?_); refine ⟨?_, hs1.keep⟩; simp only [JA, Qv]
   simp_all
structure GenL : Type where
  ts : List Nat
  tp : Pl
  time : Nat
  rc : Rec
  accts : List AcL
  ap : Pl
def GenL.cells (g : GenL) : List Value := [KP g.ts.length g.tp, uV g.time, uV g.rc.number, uV g.rc.time, uV g.rc.base.a, uV g.rc.base.b, uV g.rc.base.c, uV g.rc.base.d, uV g.rc.blob.a, uV g.rc.blob.b, uV g.rc.blob.c, uV g.rc.blob.d, uV g.rc.overhead.a, uV g.rc.overhead.b, uV g.rc.overhead.c, uV g.rc.overhead.d, uV g.rc.scalar, uV g.rc.extra, uV g.rc.operator, KP g.accts.length g.ap]
def GenL.val (g : GenL) : Value := .agg g.cells.toArray
theorem GenL.cells_eq (g : GenL) : g.cells = [KP g.ts.length g.tp, uV g.time] ++ g.rc.cells ++ [KP g.accts.length g.ap] := rfl
def GenL.st (g : GenL) : StL := ⟨g.accts, g.ap⟩
def GenL.ac (g : GenL) : List AcE := g.accts.map AcL.er
structure GenL.In (R : Jm) (g : GenL) : Prop where
  tlen : g.ts.length ≤ YF
  tseg : Seg R g.ts.length (unC g.ts) g.tp
  tu : ∀ x ∈ g.ts, VK x
  time : VK g.time
  rc : g.rc.ok
  st : g.st.In R
theorem GenL.In.mono {R R' : Jm} {g : GenL} (h : g.In R) (hs : ∀ q ∈ R, q ∈ R') : g.In R' := ⟨h.tlen, h.tseg.mono hs, h.tu, h.time, h.rc, h.st.mono hs⟩
def Xy (t : Nat) (root : BS) : BS := W5 ((yI t 8).1 ++ root)
theorem Jwn (t : Nat) : (yI t 8).1.length ≤ 8 := by
 unfold yI
 split
 ·exact Nat.zero_le _
 ·show (jr t 8).length ≤ 8
  simp [jr]
theorem Jbi {t : Nat} (ht : VK t) {root : BS} (hr : root.length ≤ 1000) : Pure Tryz.prog 35 [uV t, J5 root].toArray (J5 (Xy t root)) := by
 have h8 := Jwn t
 refine Jk Tryz.func35 rfl rfl fun w => ?_; refine J8 ?_; refine Jo 8 rfl ?_; refine Jl rfl rfl rfl Juh (jG ht 8) ?_; refine JC 11 rfl ?_
 refine LR rfl (QC rfl rfl (by first | omega | (simp only [List.length_append]; omega))) ?_; refine Jl rfl rfl rfl Jf8 (wB (by rw [List.length_append]; omega)) ?_; refine Jx 4 rfl ?_; refine pT rfl rfl rfl fun w1 hs1 => ?_; exact ⟨rfl, hs1.keep⟩
def Jr8 (g : GenL) : Bool := ZR g.ac && decide (g.ts.length ≤ 100)
theorem Jzw {R : Jm} {g : GenL} (hg : g.In R) : PureR Tryz.prog 10 [g.val].toArray (.bool (Jr8 g)) R := by
 have hts := hg.tseg
 have hF := Jv9 hg.st
 have hfe : ZR g.ac = ZR g.st.er := rfl
 refine Ja Tryz.func10 rfl rfl fun w => ?_; refine J8 ?_; refine Jo 2 rfl ?_; refine JS (cs := g.cells.toArray) rfl rfl rfl rfl fun r1 => ?_; refine Xj 7 [0] rfl rfl ?_; refine LR rfl (Js (r := [_]) rfl rfl) ?_; refine Jg rfl rfl rfl (enters_of Tryz.func29 (by kernel_rfl) rfl) hF oR ?_; refine Qx rfl ?_
 refine J4 7 rfl (fun gb => ?_) (fun gb => ?_) <;> (try simp only [ZZ] at gb) <;> first | (refine LR rfl (JD rfl rfl rfl) ?_) | (refine LK rfl ?_)
 all_goals first | refine LR rfl (JD rfl rfl rfl) ?_ | refine LK rfl ?_
 all_goals refine LW 1 [0] rfl rfl ?_
 all_goals first | refine LR rfl (J3 rfl hts rfl) ?_ | refine LK rfl ?_
 all_goals (
  refine LW 3 [] rfl rfl (Jx 1 rfl (ZJ 2 rfl ?_)); refine pT rfl rfl rfl fun w1 hs1 => ?_; refine ⟨?_, hs1.keep⟩; simp only [JA, Jr8, hfe]
  simp_all
  all_goals first | done | omega
  skip)
theorem Jwo (a b : AcL) : Pure Tryz.prog 77 [vA a, vA b].toArray (.bool (decide (a.addr = b.addr))) := by
 refine Jk Tryz.func77 rfl rfl fun w => ?_; refine J8 ?_; refine Jo 2 rfl ?_; refine LN rfl fun r1 => ?_; refine LN rfl fun r2 => ?_; refine Xj 9 [1, 0] rfl rfl ?_; refine LR rfl (X5 rfl rfl) ?_; refine Jx 4 rfl ?_; refine pT rfl rfl rfl fun w1 hs1 => ?_; exact ⟨rfl, hs1.keep⟩
theorem Jwp (W : Nat) : PureE (α := Nat × Nat) Tryz.prog 30 [Qd W 0].toArray (fun p => .slice (some ⟨p.2, 0, none⟩) 3 3) (fun p => [(p.2, .cells #[.func (.func 70) #[] #[Qd p.1 0], .func (.func 72) #[] #[Qd p.1 0], .func (.func 80) #[] #[Qd p.1 0]] 73 (0, 0)), (p.1, .cells #[Qd W 0] 68 (0, 0))]) := by
 refine JV Tryz.func30 rfl rfl fun w => ?_; refine J8 ?_; refine Jo 2 rfl ?_; refine LN rfl fun r1 => ?_; refine JC 5 rfl ?_; refine LR rfl (JB rfl rfl) ?_; refine LR rfl (JB rfl rfl) ?_; refine LR rfl (JB rfl rfl) ?_; refine JN (vs := [_, _, _]) (zs := [_, _, _]) (r := [_, _, _]) rfl rfl rfl rfl rfl rfl rfl rfl rfl (by show (madeCells #[_] _).toList = _; rw [QX]; exact rfl) rfl fun r2 => ?_; refine Jx 4 rfl ?_; refine pT rfl rfl rfl fun w1 hs1 => ?_; exact ⟨(r1, r2), rfl, hs1⟩
def Ym : List BS → Bool
 | x :: y :: l => decide (x = y) || Ym (y :: l)
 | _ => false
theorem Jj9 : ∀ {l : List BS} {i : Nat} {x : BS}, l[i]? = some x → l[i + 1]? = some x → Ym l = true
 | [], i, x, h, _ => by simp at h
 | [a], i, x, _, h => by simp at h
 | a :: b :: l, 0, x, h1, h2 => by
  simp only [List.getElem?_cons_zero, List.getElem?_cons_succ, Nat.zero_add, Option.some.injEq] at h1 h2; subst h1 h2
  unfold Ym
  rw [decide_eq_true rfl]; rfl
 | a :: b :: l, i + 1, x, h1, h2 => by
  rw [List.getElem?_cons_succ] at h1 h2
  unfold Ym
  rw [Jj9 h1 h2, Bool.or_true]
theorem Jgz : ∀ {l : List BS}, (∀ i x, l[i]? = some x → l[i + 1]? = some x → False) → Ym l = false
 | [], _ => rfl
 | [a], _ => rfl
 | a :: b :: l, h => by
  unfold Ym
  rw [decide_eq_false fun e => h 0 a rfl (by rw [e]; rfl), Jgz fun i x h1 h2 => h (i + 1) x (by rw [List.getElem?_cons_succ]; exact h1) (by rw [List.getElem?_cons_succ]; exact h2)]; rfl
abbrev jU (xs : List AcL) : List BS := xs.map AcL.addr
theorem vE {xs : List AcL} {i : Nat} {x : AcL} (h : xs[i]? = some x) : (jU xs)[i]? = some x.addr := by rw [List.getElem?_map, h]; rfl
def CompR (xs : List AcL) : Type := { q : Option Addr × Nat × Nat // (q.2.1 < xs.length ↔ Ym (jU xs) = true) ∧ q.2.1 ≤ xs.length }
def CompR.val {xs : List AcL} (q : CompR xs) : Value := .slice q.1.1 q.1.2.1 q.1.2.2
theorem yt {xs : List AcL} (h : Ym (jU xs) = false) (a : Option Addr) (c : Nat) : (xs.length < xs.length ↔ Ym (jU xs) = true) ∧ xs.length ≤ xs.length := ⟨⟨fun h2 => absurd h2 (Nat.lt_irrefl _), fun h2 => by rw [h] at h2; cases h2⟩, Nat.le_refl _⟩
theorem Jr9 {xs : List AcL} (h : xs.length < 2) : Ym (jU xs) = false := Jgz fun i x _ h2 => by
 have := (List.getElem?_eq_some_iff.1 h2).1
 rw [List.length_map] at this; omega
theorem Jmj {R : Jm} {xs : List AcL} {row : QV} (hl : xs.length ≤ 1000) (hrow : rowOk 8 xs.length (KW xs) row) {g : FuncId} (eg : Enters Tryz.prog g) (hg : ∀ x y : AcL, Pure Tryz.prog g [vA x, vA y].toArray (.bool (decide (x.addr = y.addr)))) :
  PureT (α := CompR xs) Tryz.prog 78 [JE xs.length row, .func (.func g) #[] #[]].toArray (fun q => q.val) (JR 48 (KW xs) row) (fun _ => []) R := by
 cases row with
 | none =>
  have h0 : xs = [] := by
   have := hrow.1
   exact List.eq_nil_of_length_eq_zero (by simpa using this)
  subst h0; refine Jt Tryz.func78 rfl rfl fun w => ?_; refine J8 ?_; refine Jo 9 rfl ?_; refine LR rfl (JU rfl rfl) ?_; refine JI 3 rfl ?_; refine Jw rfl (fun h4 => ?_) (fun h4 => ?_)
  try simp only [ZZ] at h4
  refine Kn 8 rfl ?_; refine pT rfl rfl rfl fun w1 hs1 => ?_; exact ⟨⟨(none, 0, 0), yt (xs := []) rfl none 0⟩, rfl, hs1⟩
  try exact Bool.noConfusion h4
 | some p =>
  obtain ⟨r, cap, sp⟩ := p
  obtain ⟨hr1, hr2⟩ := hrow
  have hcap : xs.length ≤ cap := by omega
  have hseg : ∀ zs : List AcL, zs.length = xs.length → Seg [(r, .cells (KW zs ++ sp).toArray 48 (0, 0))] zs.length (KW zs) (some (⟨r, 0, none⟩, cap)) := fun zs hz => KJ (sz := 8) (row := some (r, cap, sp)) ⟨Ks AcL.len _, by have := hr2; rw [hz]; exact hr2⟩ (by decide)
  refine Jt Tryz.func78 rfl rfl fun w => ?_; refine J8 ?_; refine Jo 9 rfl ?_; refine LR rfl (JU rfl rfl) ?_; refine JI 3 rfl ?_; refine Jw rfl (fun h4 => ?_) (fun h4 => ?_)
  try simp only [ZZ] at h4
  refine Kn 8 rfl ?_; refine pT rfl rfl rfl fun w1 hs1 => ?_; exact ⟨⟨(some ⟨r, 0, none⟩, xs.length, cap), yt (Jr9 (by omega)) none 0⟩, rfl, hs1.weakL (List.nil_sublist _)⟩
  ·try simp only [ZZ] at h4
   refine JP 9 rfl ?_; refine J1 (σ := Nat) (fun k => (1 ≤ k ∧ k ≤ xs.length) ∧ ∀ i a, i + 1 < k → (jU xs)[i]? = some a → (jU xs)[i + 1]? = some a → False) (fun k => [(0, .slice (some ⟨r, 0, none⟩) xs.length cap), (1, .func (.func g) #[] #[]), (5, .int .i64 (k : Int))]) (fun _ => [(r, .cells (KW xs ++ sp).toArray 48 (0, 0))]) (fun _ _ _ => True) (fun k => xs.length - k) 1 ⟨⟨Nat.le_refl _, by omega⟩, fun i a hi => absurd hi (by omega)⟩ (lK rfl) (List.Sublist.refl _) (fun _ _ h => h) ?_; rintro k ⟨⟨hk0, hk1⟩, hinv⟩; refine Jo 5 rfl ?_; refine LR rfl (JU rfl rfl) ?_; refine JI 3 rfl ?_; refine cD (fun h10 => ?_) fun h10 => ?_
   ·refine JP 5 rfl ?_
    have hsegz := hseg xs rfl
    obtain ⟨x, hx, hmx⟩ := QM (show k - 1 < xs.length by omega)
    obtain ⟨y, hy, hmy⟩ := QM (show k < xs.length by omega)
    refine JK 11 (by kernel_rfl) (by kernel_rfl) ?_; refine Jd rfl rfl rfl (Ji rfl) ?_; refine Jd rfl rfl rfl (Ji rfl) ?_; refine Jd rfl rfl rfl (Ji rfl) ?_; refine Jd rfl rfl rfl (JH (j := k) (m := 8) (off' := 0 + (k) * 8) rfl rfl rfl rfl rfl (by omega) (by omega)) ?_; refine Jd rfl rfl rfl (Kp (p := some (⟨r, 0, none⟩, cap)) AcL.len (fun q hq => Or.inl hq) rfl hsegz hy rfl rfl) ?_; refine Jd rfl rfl rfl (Ji rfl) ?_; refine Jd rfl rfl rfl (Ji rfl) ?_; refine Jd rfl rfl rfl (J0 rfl rfl rfl) ?_; refine QH (by omega) (by omega) ?_; refine Ql (show _ = Value.int .i64 ((k - 1 : Nat) : Int) from by congr 1; omega) ?_; refine Jd rfl rfl rfl (JH (j := (k - 1)) (m := 8) (off' := 0 + ((k - 1)) * 8) rfl rfl rfl rfl rfl (by omega) (by omega)) ?_; refine Jd rfl rfl rfl (Kp (p := some (⟨r, 0, none⟩, cap)) AcL.len (fun q hq => Or.inl hq) rfl hsegz hx rfl rfl) ?_; refine QZ rfl rfl rfl eg ((hg y x).toR) oR ?_; refine JW ?_; refine JI 2 rfl ?_; refine cD (fun h13 => ?_) fun h13 => ?_
    ·refine Jo 4 rfl ?_; refine LR rfl (JO (sz := 8) (m := k) (kl := some k) (kh := none) (km := none) (q := xs.length) (z := cap) (off' := k * 8) rfl rfl rfl ⟨_, rfl⟩ trivial trivial rfl rfl rfl (by omega) (by omega) (by omega) (fun _ => rfl) (by rw [if_neg (by omega)]; omega)) ?_; refine JI 5 rfl ?_
     have hadj : Ym (jU xs) = true := by
      have he : y.addr = x.addr := by simp_all
      have h1 := vE hx
      have h2 := vE hy
      rw [he] at h2
      obtain ⟨k0, rfl⟩ : ∃ k0, k = k0 + 1 := ⟨k - 1, by omega⟩
      exact Jj9 h1 h2
     clear hsegz hx hy; refine JP 5 rfl ?_; refine J1 (σ := Nat × Nat × List AcL) (fun s => s.2.2.length = xs.length ∧ (1 ≤ s.1 ∧ s.1 ≤ xs.length - k) ∧ s.2.1 ≤ k + s.1 - 1) (fun s => [(0, .slice (some ⟨r, 0, none⟩) xs.length cap), (1, .func (.func g) #[] #[]), (5, .int .i64 (s.2.1 : Int)), (6, .slice (some ⟨r, k * 8, none⟩) (xs.length - k) (cap - k)), (7, .int .i64 (s.1 : Int))]) (fun s => [(r, .cells (KW s.2.2 ++ sp).toArray 48 (0, 0))]) (fun _ _ _ => True) (fun s => xs.length - k - s.1) (1, k, xs) ⟨rfl, ⟨Nat.le_refl _, by simp only; omega⟩, by simp only; omega⟩ (lK rfl) (List.Sublist.refl _) (fun _ _ h => h) ?_; rintro ⟨k2, i, zs⟩ ⟨hz, ⟨hk2, hk3⟩, hi⟩; simp only at hz hk2 hk3 hi; change HC _ _ [(0, _), (1, _), (5, .int .i64 (i : Int)), (6, _), (7, .int .i64 (k2 : Int))] [(r, .cells (KW zs ++ sp).toArray 48 (0, 0))] _ _ _; refine Jo 5 rfl ?_; refine LR rfl (JU rfl rfl) ?_; refine JI 3 rfl ?_; refine cD (fun h19 => ?_) fun h19 => ?_
     refine JP 5 rfl ?_
     have hsegz := hseg zs hz
     obtain ⟨x, hx, hmx⟩ := QM (show k + k2 - 1 < zs.length by omega)
     obtain ⟨y, hy, hmy⟩ := QM (show k + k2 < zs.length by omega)
     refine JK 12 (by kernel_rfl) (by kernel_rfl) ?_; refine Jd rfl rfl rfl (Ji rfl) ?_; refine Jd rfl rfl rfl (Ji rfl) ?_; refine Jd rfl rfl rfl (Ji rfl) ?_; refine Jd rfl rfl rfl (JH (j := k2) (m := 8) (off' := 0 + (k + k2) * 8) rfl rfl rfl rfl rfl (by omega) (by omega)) ?_; refine Jd rfl rfl rfl (Kp (p := some (⟨r, 0, none⟩, cap)) AcL.len (fun q hq => Or.inl hq) rfl hsegz hy rfl rfl) ?_; refine Jd rfl rfl rfl (Ji rfl) ?_; refine Jd rfl rfl rfl (Ji rfl) ?_; refine Jd rfl rfl rfl (J0 rfl rfl rfl) ?_; refine QH (by omega) (by omega) ?_; refine Ql (show _ = Value.int .i64 ((k2 - 1 : Nat) : Int) from by congr 1; omega) ?_; refine Jd rfl rfl rfl (JH (j := k2 - 1) (m := 8) (off' := 0 + (k + k2 - 1) * 8) rfl rfl rfl rfl rfl (by omega) (by omega)) ?_; refine Jd rfl rfl rfl (Kp (p := some (⟨r, 0, none⟩, cap)) AcL.len (fun q hq => Or.inl hq) rfl hsegz hx rfl rfl) ?_; refine QZ rfl rfl rfl eg ((hg y x).toR) oR ?_; refine Jd rfl rfl rfl (J0 rfl rfl rfl) ?_; refine JW ?_; refine JI 2 rfl ?_; refine cD (fun h22 => ?_) fun h22 => ?_
     refine Jo 6 rfl ?_; refine LR rfl (JH (j := k2) (m := 8) (off' := 0 + (k + k2) * 8) rfl rfl rfl rfl rfl (by omega) (by omega)) ?_; refine LR rfl (Kp (p := some (⟨r, 0, none⟩, cap)) AcL.len (fun q hq => Or.inl hq) rfl hsegz hy rfl rfl) ?_; refine LR rfl (JH (j := i) (m := 8) (off' := i * 8) rfl rfl rfl rfl rfl (by omega) (by omega)) ?_; refine Qk (k := 0) (n := 8) (vs := (AcL.cells y).toArray) (cs' := ((zs.set i y).flatMap AcL.cells ++ sp).toArray) rfl rfl rfl rfl rfl rfl (AcL.one y) (by simp only [List.size_toArray, List.length_append, KW, Ks AcL.len]; omega) (by apply Array.toList_inj.1; simp only [List.toList_toArray]; exact xY AcL.len (show i < zs.length by omega) y sp) rfl ?_; refine JC 5 rfl ?_; refine Je (by omega) (by omega) ?_; refine JC 7 rfl ?_; refine Je (by omega) (by omega) ?_; refine Jx 2 rfl ?_; refine Jz ?_; exact Jv (k2 + 1, i + 1, zs.set i y) ⟨by simp only [List.length_set]; exact hz, ⟨by simp only; omega, by simp only; omega⟩, by simp only; omega⟩ (by simp only; omega) (lK rfl) (List.Sublist.refl _) (fun _ _ h => h)
     refine Jo 6 rfl ?_; refine Je (by omega) (by omega) ?_; refine Jx 2 rfl ?_; refine Jz ?_; exact Jv (k2 + 1, i, zs) ⟨hz, ⟨by simp only; omega, by simp only; omega⟩, by simp only; omega⟩ (by simp only; omega) (lK rfl) (List.Sublist.refl _) (fun _ _ h => h)
     ·refine Jo 9 rfl ?_; refine LR rfl (JO (sz := 8) (m := i) (kl := some i) (kh := none) (km := none) (q := xs.length) (z := cap) (off' := i * 8) rfl rfl rfl ⟨_, rfl⟩ trivial trivial rfl rfl rfl (by omega) (by omega) (by omega) (fun _ => rfl) (by rw [if_neg (by omega)]; omega)) ?_; refine zo (k := 0) (sz := 8) rfl rfl rfl rfl rfl rfl rfl (by decide) (by simp only [List.size_toArray, List.length_append, KW, Ks AcL.len]; omega) rfl rfl ?_; refine JC 6 rfl ?_
      refine LR rfl (JO (sz := 8) (q := i) (kl := none) (kh := some i) (km := none) (m := 0) (z := cap) (off' := 0) rfl rfl rfl trivial ⟨_, rfl⟩ trivial rfl rfl rfl (by omega) (by omega) (by omega) (fun h => by cases h) (by split <;> omega)) ?_; refine Jx 9 rfl ?_; refine pT rfl rfl rfl fun w1 hs1 => ?_; exact ⟨⟨(some ⟨r, 0, none⟩, i, cap), ⟨⟨fun _ => hadj, fun _ => by simp only; omega⟩, by simp only; omega⟩⟩, rfl, hs1.weakL (List.nil_sublist _)⟩
    refine Jo 6 rfl ?_; refine Je (by omega) (by omega) ?_; refine Jx 2 rfl ?_; refine Jz ?_
    exact Jv (k + 1) ⟨⟨by omega, by omega⟩, fun i a hi h1 h2 => by
     rcases Nat.lt_or_ge (i + 1) k with hq | hq
     exact hinv i a hq h1 h2
     obtain rfl : i = k - 1 := by omega
     rw [show k - 1 + 1 = k by omega] at h2
     have e1 := Option.some.inj ((vE hx).symm.trans h1)
     have e2 := Option.some.inj ((vE hy).symm.trans h2)
     have e3 : y.addr = x.addr := e2.trans e1.symm
     simp_all⟩ (by omega) (lK rfl) (List.Sublist.refl _) (fun _ _ h => h)
   ·refine Kn 12 rfl ?_; refine pT rfl rfl rfl fun w1 hs1 => ?_; exact ⟨⟨(some ⟨r, 0, none⟩, xs.length, cap), yt (Jgz fun i a h1 h2 => hinv i a (by have := (List.getElem?_eq_some_iff.1 h2).1; rw [List.length_map] at this; omega) h1 h2) none 0⟩, rfl, hs1.weakL (List.nil_sublist _)⟩
def acI (xs : List AcL) (i : Nat) : AcL := xs.getD i ac0L
theorem Jka {xs : List AcL} {i : Nat} (h : i < xs.length) : xs[i]? = some (acI xs i) ∧ acI xs i ∈ xs := by
 unfold acI
 rw [List.getD_eq_getElem?_getD, List.getElem?_eq_getElem h]; exact ⟨rfl, List.getElem_mem h⟩
def Jbj (r n : Nat) (p : Pl) : Nat × Obj := (r, .cells #[KP n p] 30 (0, 0))
theorem Jsa (n : Nat) (p : Pl) : PureE (α := Nat) Tryz.prog 74 [KP n p].toArray (fun r => .func (.func 125) #[] #[.pointer (some ⟨r, 0, none⟩)]) (fun r => [Jbj r n p]) := by
 refine JV Tryz.func74 rfl rfl fun w => ?_; refine J8 ?_; refine Jo 2 rfl ?_; refine LN rfl fun r1 => ?_; refine JC 5 rfl ?_; refine LR rfl (JB rfl rfl) ?_; refine Jx 4 rfl ?_; refine pT rfl rfl rfl fun w1 hs1 => ?_; exact ⟨_, rfl, hs1⟩
theorem Jsb {R : Jm} {xs : List AcL} {p : Pl} (hl : xs.length ≤ 9223372036854775807) (hs : Seg R xs.length (KW xs) p) (rv : Nat) :
    jk Tryz.prog 125 [.pointer (some ⟨rv, 0, none⟩)] (Jbj rv xs.length p :: R) 0 (nxN (fun i => [vA (acI xs i)]) xs.length) (yD xs.length) := by
  have hs := hs.mono (R' := Jbj rv xs.length p :: R) fun q hq => List.mem_cons_of_mem _ hq
  refine QY Tryz.func125 rfl rfl fun q xids w2 XI XF hY => ?_; refine J8 ?_; refine Jo 2 rfl ?_; refine LR rfl (Jh rfl (Jy (k := 0) rfl) rfl rfl) ?_; refine LR rfl (J3 rfl hs rfl) ?_; refine JI 4 rfl ?_; refine J1 (σ := Nat) (fun i => i ≤ xs.length) (fun i => [(0, .func (.yield q) #[] #[]), (1, .pointer (some ⟨rv, 0, none⟩)), (5, KP xs.length p), (6, .int .i64 (xs.length : Int)), (7, .int .i64 (i : Int))]) (fun _ => []) (fun i => XI i) (fun i => xs.length - i) 0 (Nat.zero_le _) (lK rfl) (List.nil_sublist _) (fun _ _ h => h) ?_; intro i hi; refine JP 6 rfl ?_; refine cD (fun g => ?_) fun g => ?_
  · refine JP 5 rfl ?_
    have hil : i < xs.length := by omega
    have hix := Jka hil
    refine Jo 1 rfl ?_
    refine LR rfl (Ju (j := i) rfl hs rfl rfl rfl (by first | rfl | omega) (by omega)) ?_; refine LR rfl (Kp AcL.len oR rfl hs hix.1 rfl rfl) ?_; refine LN rfl fun r1 => ?_; refine Jc (k := 0) (n := 8) (ys := AcL.cells (acI xs i)) rfl rfl rfl rfl rfl rfl rfl rfl rfl ?_; refine JC 5 rfl ?_; refine LR rfl (Jb (xs := AcL.cells (acI xs i)) (n := 8) rfl (kn 0 rfl) rfl rfl rfl) ?_; refine Vy (XT := XI (i + 1)) (XF := XF) rfl rfl rfl rfl (hY i [vA (acI xs i)] (i + 1) ⟨hil, rfl, rfl⟩) ?_ ?_
    all_goals (
     refine Jx 2 rfl (Y7 1 rfl ?_); refine Jw rfl (fun g => ?_) (fun g => ?_)
     · try exact Bool.noConfusion g
       all_goals try simp only [ZZ] at g
       all_goals (
        refine Kn 5 rfl ?_; refine Jf rfl rfl .nil (fun w1 hs1 => ?_)
        obtain ⟨xs1, hx1⟩ := hs1.now
        exact ⟨⟨_, rfl⟩, hs1.keep, .inr ⟨_, hx1⟩⟩
        skip)
     · try exact Bool.noConfusion g
       all_goals try simp only [ZZ] at g
       all_goals (
        refine Jo 5 rfl ?_; refine Je (by omega) (by omega) ?_; refine Jx 2 rfl ?_; refine Jz ?_; exact Jv (i + 1) (by omega) (by omega) (lK rfl) (List.nil_sublist _) (fun _ _ h => h)
        skip)
     skip)
  · refine Kn 4 rfl ?_; refine Kh rfl rfl .nil (fun w1 hs1 => ?_)
    obtain ⟨xs1, hx1⟩ := hs1.now
    exact ⟨⟨_, rfl⟩, hs1.keep, .inl ⟨i, _, (by show i = xs.length; omega), hx1⟩⟩
theorem Jez {xs : List AcL} {i : Nat} (h : i < xs.length) : KW (xs.take i) ++ (AcL.cells (acI xs i)) = KW (xs.take (i + 1)) := by
 rw [List.take_add_one, (Jka h).1]
 simp [KW, List.flatMap_append]
theorem Jsc {R : Jm} {xs : List AcL} {g : FuncId} {caps : List Value} (hl : xs.length ≤ 1000) (eg : Enters Tryz.prog g) (hit : jk Tryz.prog g caps R 0 (nxN (fun i => [vA (acI xs i)]) xs.length) (yD xs.length)) :
  PureT (α := { row : QV // rowOk 8 xs.length (KW xs) row }) Tryz.prog 194 [.slice none 0 0, .func (.func g) #[] caps.toArray].toArray (fun x => JE xs.length x.1) [] (fun x => JR 48 (KW xs) x.1) R := by
 refine Jt Tryz.func194 rfl rfl fun w => ?_; refine J8 ?_; refine Jo 2 rfl ?_; refine LN rfl fun r1 => ?_; refine JI 10 rfl ?_; refine VW (τ := Unit) (fun i (s : Nat × QV) => i = s.1 ∧ i ≤ xs.length ∧ rowOk 8 i (KW (xs.take i)) s.2) (fun s => (r1, .cells #[JE s.1 s.2] 30 (0, 0)) :: JR 48 (KW (xs.take s.1)) s.2) (fun _ _ => False) (fun _ => []) [] (0, none) rfl rfl eg hit (by rintro _ _ _ ⟨_, rfl, _⟩; rfl) rfl oR rfl ⟨rfl, Nat.zero_le _, ⟨rfl, rfl⟩⟩ ?_ ?_ ?_
 rintro q Xr Xb w3 i _ _ ⟨_, row⟩ ⟨hii, rfl, rfl⟩ ⟨rfl, him, hrow⟩ Kr hKr; refine yE ?_
 simp only at hKr ⊢; refine Jo 1 rfl ?_; refine LN rfl fun r2 => ?_; refine Jc (k := 0) (n := 8) (ys := AcL.cells (acI xs i)) rfl rfl rfl rfl rfl rfl rfl rfl rfl ?_; refine Jx 1 rfl ?_; refine hKr _ _ ?_; refine J8 ?_; clear hKr; refine Jo 2 rfl ?_; refine LR rfl (Jh rfl (kn 1 rfl) rfl rfl) ?_; refine LR rfl (Jb (xs := AcL.cells (acI xs i)) (n := 8) rfl (kn 0 rfl) rfl rfl rfl) ?_; refine JN (n := 1) (sz := 8) (vs := [_]) (zs := [_, _, _, _, _, _, _, _]) (r := AcL.cells (acI xs i)) rfl rfl rfl rfl rfl rfl rfl rfl rfl (by rw [Ky]; exact rfl) rfl fun r3 => ?_; refine KL (L0 := [_, _, _]) (xs := KW (xs.take i)) (row := row) (n := i) (sz := 8) (b := 96) (news := AcL.cells (acI xs i)) (List.perm_append_comm (l₁ := [_, _, _])) rfl rfl rfl rfl (kn 0 rfl) rfl rfl rfl rfl rfl (by decide) rfl rfl rfl (by decide) hrow (by omega) (by omega) fun ra cap sp hra => ?_
 refine LT 3 rfl rfl ?_; refine Jx 2 rfl ?_; refine KZ [3, 0] (L' := [_, _]) (by decide) rfl ?_; refine Kf (i + 1, some (ra, cap, sp)) ⟨rfl, by omega, by rw [Jez hii] at hra; exact hra⟩ ?_; simp only [JR, JE, Jez hii]
 rintro D i ⟨_, row⟩ hfi ⟨rfl, him, hrow⟩
 simp only at hrow ⊢
 have hfi : i = xs.length := hfi
 subst hfi; rw [List.take_length] at hrow ⊢; refine Gqq 9 [1] rfl rfl ?_; refine Kq (k := 0) rfl rfl ?_; refine pT rfl rfl rfl fun w1 hs1 => ?_; exact ⟨⟨row, hrow⟩, rfl, hs1.weakL (by simp only [List.set_cons_zero, List.append_nil]; exact List.sublist_append_right [_, _] _)⟩
 ·exact fun _ _ _ h => h.elim
theorem Jmk {R : Jm} {xs : List AcL} {g : FuncId} {caps : List Value} (hl : xs.length ≤ 1000) (eg : Enters Tryz.prog g) (hit : jk Tryz.prog g caps R 0 (nxN (fun i => [vA (acI xs i)]) xs.length) (yD xs.length)) :
  PureT (α := { row : QV // rowOk 8 xs.length (KW xs) row }) Tryz.prog 123 [.func (.func g) #[] caps.toArray].toArray (fun x => JE xs.length x.1) [] (fun x => JR 48 (KW xs) x.1) R := by
 refine Jt Tryz.func123 rfl rfl fun w => ?_; refine J8 ?_; refine Jo 8 rfl ?_; refine Ke rfl rfl rfl (enters_of Tryz.func194 (by kernel_rfl) rfl) (Jsc hl eg hit) oR fun x => ?_; refine Jx 4 rfl ?_; refine pT rfl rfl rfl fun w1 hs1 => ?_; exact ⟨x, rfl, hs1.weakL (List.sublist_append_left _ _)⟩
end Go.Proofs.YtfaagelglpgpkaaGreatDoor
namespace Go.Proofs
open Go.Shelf
def Tryz.laysSortA_ren : Go.Shelf.Ren := ⟨fun | 6 => 124 | 15 => 174 | 14 => 195 | 28 => 234 | 29 => 235 | 20 => 248 | 21 => 249 | 22 => 250 | 23 => 251 | 24 => 252 | 25 => 253 | 26 => 254 | 27 => 255 | 46 => 319 | 47 => 308 | 48 => 309 | 49 => 320 | 50 => 321 | 57 => 349 | n => n, fun | 22 => 30 | 24 => 48 | 25 => 125 | 3 => 3 | 39 => 188 | 0 => 0 | 53 => 261 | 55 => 25 | 4 => 4 | 46 => 254 | 45 => 253 | 50 => 258 | 5 => 5 | 9 => 9 | 66 => 293 | 70 => 297 | 76 => 327 | 77 => 328 | n => n, fun | n => n⟩
theorem Tryz.laysSortA : Go.Proofs.SlLaysF0.n6 Tryz.prog Tryz.laysSortA_ren := {
 mixed := by kernel_rfl
 f6 := ⟨Tryz.f124.name, by decide, Tryz.func124.trans (congrArg some (by kernel_rfl))⟩
 f14 := ⟨Tryz.f195.name, by decide, Tryz.func195.trans (congrArg some (by kernel_rfl))⟩
 f15 := Tryz.func174.trans (congrArg some (by kernel_rfl))
 f20 := ⟨Tryz.f248.name, by decide, Tryz.func248.trans (congrArg some (by kernel_rfl))⟩
 f21 := ⟨Tryz.f249.name, by decide, Tryz.func249.trans (congrArg some (by kernel_rfl))⟩
 f22 := ⟨Tryz.f250.name, by decide, Tryz.func250.trans (congrArg some (by kernel_rfl))⟩
 f23 := ⟨Tryz.f251.name, by decide, Tryz.func251.trans (congrArg some (by kernel_rfl))⟩
 f24 := ⟨Tryz.f252.name, by decide, Tryz.func252.trans (congrArg some (by kernel_rfl))⟩
 f25 := ⟨Tryz.f253.name, by decide, Tryz.func253.trans (congrArg some (by kernel_rfl))⟩
 f26 := ⟨Tryz.f254.name, by decide, Tryz.func254.trans (congrArg some (by kernel_rfl))⟩
 f27 := ⟨Tryz.f255.name, by decide, Tryz.func255.trans (congrArg some (by kernel_rfl))⟩
 f28 := Tryz.func234.trans (congrArg some (by kernel_rfl))
 f29 := Tryz.func235.trans (congrArg some (by kernel_rfl))
 f46 := ⟨Tryz.f319.name, by decide, Tryz.func319.trans (congrArg some (by kernel_rfl))⟩
 f47 := Tryz.func308.trans (congrArg some (by kernel_rfl))
 f48 := Tryz.func309.trans (congrArg some (by kernel_rfl))
 f49 := ⟨Tryz.f320.name, by decide, Tryz.func320.trans (congrArg some (by kernel_rfl))⟩
 f50 := ⟨Tryz.f321.name, by decide, Tryz.func321.trans (congrArg some (by kernel_rfl))⟩
 f57 := ⟨Tryz.f349.name, by decide, Tryz.func349.trans (congrArg some (by kernel_rfl))⟩
 t0 := Tryz.underlying0
 a0 := Tryz.isAgg0
 z0 := Tryz.sizeOf0
 v0 := Tryz.zeroValue0
 t3 := Tryz.underlying3
 a3 := Tryz.isAgg3
 z3 := Tryz.sizeOf3
 v3 := Tryz.zeroValue3
 t4 := Tryz.underlying4
 a4 := Tryz.isAgg4
 z4 := Tryz.sizeOf4
 v4 := Tryz.zeroValue4
 t5 := Tryz.underlying5
 a5 := Tryz.isAgg5
 z5 := Tryz.sizeOf5
 v5 := Tryz.zeroValue5
 t9 := Tryz.underlying9
 a9 := Tryz.isAgg9
 z9 := Tryz.sizeOf9
 v9 := Tryz.zeroValue9
 t22 := Tryz.underlying30
 a22 := Tryz.isAgg30
 z22 := Tryz.sizeOf30
 v22 := Tryz.zeroValue30
 t25 := Tryz.underlying125
 a25 := Tryz.isAgg125
 z25 := Tryz.sizeOf125
 v25 := Tryz.zeroValue125
 t39 := Tryz.underlying188
 a39 := Tryz.isAgg188
 z39 := Tryz.sizeOf188
 v39 := Tryz.zeroValue188
 t45 := Tryz.underlying253
 a45 := Tryz.isAgg253
 z45 := Tryz.sizeOf253
 v45 := Tryz.zeroValue253
 t46 := Tryz.underlying254
 a46 := Tryz.isAgg254
 z46 := Tryz.sizeOf254
 v46 := Tryz.zeroValue254
 t50 := Tryz.underlying258
 a50 := Tryz.isAgg258
 z50 := Tryz.sizeOf258
 v50 := Tryz.zeroValue258
 t53 := Tryz.underlying261
 a53 := Tryz.isAgg261
 z53 := Tryz.sizeOf261
 v53 := Tryz.zeroValue261
 t55 := Tryz.underlying25
 a55 := Tryz.isAgg25
 z55 := Tryz.sizeOf25
 v55 := Tryz.zeroValue25
 t66 := Tryz.underlying293
 a66 := Tryz.isAgg293
 z66 := Tryz.sizeOf293
 v66 := Tryz.zeroValue293
 t70 := Tryz.underlying297
 a70 := Tryz.isAgg297
 z70 := Tryz.sizeOf297
 v70 := Tryz.zeroValue297
 t76 := Tryz.underlying327
 a76 := Tryz.isAgg327
 z76 := Tryz.sizeOf327
 v76 := Tryz.zeroValue327
 t77 := Tryz.underlying328
 a77 := Tryz.isAgg328
 z77 := Tryz.sizeOf328
 v77 := Tryz.zeroValue328 }
end Go.Proofs
namespace Go.Proofs.YtfaagelglpgpkaaGreatDoor
set_option linter.all false
open Go.SL Go.RowKit Go.Shelf
open Go.Proofs
theorem Jsd (a : ByteArray) (W : World) : Calls Tryz.prog 126 #[.string a] W fun e w' => e = .returned (.bool false) ∧ w' = W := by
 go_enter Tryz.func126, Tryz.ntmps126
 go_wp2
 go_ret
 exact ⟨by simp, rfl⟩
theorem Jwq (a b : BS) (t : TypeId) (w : World) : (binOp .gtr t (.string (bs a)) (.string (bs b))).run Tryz.prog w = .ok (.bool (Op.bytesLess b a)) w := by
 simp only [binOp, eqGuard, Op.stringOp, Sem.run_bind, VX]
 rw [show Op.bytesLess b a = !(Op.bytesLess a b || a == b) from by
  rcases W7 a b with rfl | h | h
  ·rw [Vu]; simp
  ·rw [h, WQ h]; rfl
  ·rw [h, WQ h, show (a == b) = false from beq_eq_false_iff_ne.2 (Y5 h).symm]; rfl]
 rfl
theorem Jg1 (a b : BS) (W : World) : Calls Tryz.prog 76 #[.string (bs a), .string (bs b)] W fun e w' => e = .returned (.int .i64 (XZ a b)) ∧ w' = W := by
 have h := Jsd
 have hg := Jwq
 unfold XZ
 go_enter Tryz.func76, Tryz.ntmps76
 go_wp2_with (first | (go_at_call 126; refine (h _ _).mono ?_; rintro e w' ⟨rfl, rfl⟩) | rw [hg])
 all_goals go_ret
 all_goals refine ⟨?_, rfl⟩
 all_goals simp_all [VX]
theorem Jwr (x y : AcL) (W : World) : Calls Tryz.prog 75 #[.agg (AcL.cells x).toArray, .agg (AcL.cells y).toArray] W fun e w' => e = .returned (.int .i64 (XZ x.addr y.addr)) ∧ ∃ q os', w' = Go.Sort.grow (W.drewN q) os' := by
 have hcon := fun W' => Jg1 x.addr y.addr W'
 generalize XZ x.addr y.addr = r at hcon ⊢
 obtain ⟨xa, xn, ⟨xb, xc, xd, xe⟩, xo, xs, xp⟩ := x
 obtain ⟨ya, yn, ⟨yb, yc, yd, ye⟩, yo, ys, yp⟩ := y
 simp only [AcL.cells] at hcon ⊢
 go_enter Tryz.func75, Tryz.ntmps75
 go_wp2_with (go_at_call 76; refine (hcon _).mono ?_; rintro e w' ⟨rfl, rfl⟩)
 go_ret
 exact ⟨rfl, 0, _, by rw [Go.Sort.alloc_eq_grow, Go.Sort.alloc_eq_grow, Go.Sort.grow_grow]; rfl⟩
theorem Je0 {w w' : World} {blk n : Nat} {os : Array Obj} {xs ys : List Value} {sp : List Value} {e : TypeId} (hl : ys.length = xs.length) (hw : w' = Go.Sort.grow (Go.Sort.putRow id (Go.Sort.ahead w n) blk 0 ys.toArray) os)
  (hb : w.heap[blk]? = some (.cells (xs ++ sp).toArray e (0, 0))) : Keep [blk] w w' ∧ w'.heap[blk]? = some (.cells (ys ++ sp).toArray e (0, 0)) := by
 have hlt := J7 hb
 have hh : ∀ k, k < w.heap.size → w'.heap[k]? = (w.heap.modify blk (Go.Sort.onCells (Go.Sort.putCells id 0 ys.toArray)))[k]? := fun k hk => by
  subst hw
  show (_ ++ _ : Array Obj)[k]? = _
  rw [Array.getElem?_append_left]
  ·rfl
  ·show k < (Array.modify _ _ _).size
   rw [Array.size_modify]; exact hk
 refine ⟨⟨by subst hw; rfl, by subst hw; rfl, by subst hw; rfl, ?_, fun k hk hn => ?_⟩, ?_⟩
 ·subst hw
  show _ ≤ (_ ++ _ : Array Obj).size
  rw [Array.size_append]
  show _ ≤ (Array.modify _ _ _).size + _
  rw [Array.size_modify]; exact Nat.le_add_right _ _
 ·rw [hh k hk, Array.getElem?_modify, if_neg]
  intro e; exact hn (by simp [e])
 ·rw [hh blk hlt, Array.getElem?_modify, if_pos rfl, hb]
  simp only [Option.map_some, Go.Sort.onCells, Option.some.injEq, Obj.cells.injEq, and_true]
  apply Array.toList_inj.1
  apply List.ext_getElem?
  intro j; simp only [Go.Sort.putCells, Nat.zero_le, true_and, Nat.zero_add, List.size_toArray, Nat.sub_zero, Array.toList_mapIdx, List.getElem?_mapIdx]
  by_cases hj : j < ys.length
  ·rw [List.getElem?_append_left (by omega), List.getElem?_append_left hj]
   simp [hj, (by omega : j < xs.length)]
  ·rw [List.getElem?_append_right (by omega), List.getElem?_append_right (by omega)]
   simp only [hl, if_neg (by omega : ¬ j < xs.length)]
   cases sp[j - xs.length]? <;> simp
theorem Jg2 {w : World} {blk : Nat} {xs : List Value} {sp : List Value} {e : TypeId} (hb : w.heap[blk]? = some (.cells (xs ++ sp).toArray e (0, 0))) : Go.Sort.Holds id w blk 0 xs.toArray := fun j hj => by
 have hj' : j < xs.length := by simpa using hj
 rw [Nat.zero_add, Vi hb, XR hb (show frB (0, 0) j = false from by simp [frB, Nat.blt, Nat.ble])]; refine ⟨?_, rfl⟩
 simp [hj', List.getElem?_append_left]
instance : Inhabited AcL := ⟨ac0L⟩
theorem Je1 (xs : List AcL) : Go.Sort.flatK AcL.cells 8 xs.toArray = (KW xs).toArray := by
 refine Go.Sort.ext_get! (by rw [Go.Sort.size_flatK]; simp [KW, Ks AcL.len]) fun t ht => ?_; rw [Go.Sort.size_flatK, List.size_toArray] at ht
 have hq : t / 8 < xs.length := by omega
 have hx : xs[t / 8]? = some xs[t / 8] := List.getElem?_eq_getElem hq
 have hr : t % 8 < (AcL.cells xs[t / 8]).length := by rw [AcL.len]; omega
 have h := Jc3 (f := AcL.cells) AcL.len hx (List.getElem?_eq_getElem hr)
 rw [show t / 8 * 8 + t % 8 = t by omega] at h; rw [Go.Sort.get_flatK _ _ _ _ (by rw [List.size_toArray]; exact ht)]
 have h2 : (KW xs).toArray[t]? = some (AcL.cells xs[t / 8])[t % 8] := by simpa [KW] using h
 have e1 : ∀ (a : Array Value) (v : Value), a[t]? = some v → a[t]! = v := fun a v h => by rw [Array.getElem!_eq_getD, Array.getD_eq_getD_getElem?, h]; rfl
 rw [e1 _ _ h2]
 simp [hq, hr]
theorem Jse : Go.Sort.SWO (Go.Proofs.ltOf fun x y : AcL => XZ x.addr y.addr) := by
 have h : ∀ x y : AcL, Go.Proofs.ltOf (fun x y : AcL => XZ x.addr y.addr) x y = Op.bytesLess x.addr y.addr := fun x y => vt _ _
 refine ⟨fun x => by rw [h]; exact Vu _, fun x y z h1 h2 => by rw [h] at h1 h2 ⊢; exact Qt h1 h2, fun x y z h1 h2 => ?_⟩; rw [h] at h1 h2 ⊢
 rcases W7 x.addr z.addr with e | e | e
 ·rw [e]; exact Vu _
 ·rcases W7 x.addr y.addr with f | f | f
  ·rw [f] at e; rw [e] at h2; cases h2
  ·rw [f] at h1; cases h1
  ·have := Qt f e; rw [this] at h2; cases h2
 ·exact WQ e
def SortR (xs : List AcL) : Type := { ys : List AcL // ys.Perm xs ∧ ∀ (i j : Nat) (x y : AcL), i < j → ys[i]? = some x → ys[j]? = some y → Op.bytesLess y.addr x.addr = false }
theorem Jzx : Pure Tryz.prog 248 [.slice none 0 0, .int .i64 0, .int .i64 0, fV 75].toArray (.tuple #[]) := by
 refine Jk Tryz.func248 rfl rfl fun w => ?_; refine J8 ?_; refine Jo 4 rfl ?_; refine Je (by omega) (by omega) ?_; refine JI 4 rfl ?_; refine J1 (σ := Unit) (fun _ => True) (fun _ => [(2, .int .i64 0), (8, .int .i64 1)]) (fun _ => []) (fun _ _ _ => True) (fun _ => 0) () trivial (lK rfl) (List.nil_sublist _) (fun _ _ h => h) ?_; rintro ⟨⟩ -; refine JP 8 rfl ?_; refine Jw rfl (fun h4 => ?_) (fun h4 => ?_)
 exact absurd h4 (by decide)
 ·try simp only [ZZ] at h4
  refine Kn 4 rfl ?_; refine Kh rfl rfl .nil (fun w1 hs1 => ?_); exact ⟨rfl, hs1.keep⟩
theorem Jzy : Pure Tryz.prog 195 [.slice none 0 0, .int .i64 0, .int .i64 0, .int .i64 0, fV 75].toArray (.tuple #[]) := by
 refine Jk Tryz.func195 rfl rfl fun w => ?_; refine J8 ?_; refine JP 11 rfl ?_; refine J1 (σ := Unit) (fun _ => True) (fun _ => [(0, .slice none 0 0), (1, .int .i64 0), (2, .int .i64 0), (4, fV 75)]) (fun _ => []) (fun _ _ _ => True) (fun _ => 0) () trivial (lK rfl) (List.nil_sublist _) (fun _ _ h => h) ?_; rintro ⟨⟩ -; refine Jo 6 rfl ?_; refine Je (by omega) (by omega) ?_; refine JI 10 rfl ?_; refine Jw rfl (fun h6 => ?_) (fun h6 => ?_)
 try simp only [ZZ] at h6
 refine Jo 6 rfl ?_; refine Jl rfl rfl rfl (enters_of Tryz.func248 (by kernel_rfl) rfl) Jzx ?_; refine Jx 7 rfl ?_; refine Jf rfl rfl .nil (fun w1 hs1 => ?_); exact ⟨rfl, hs1.keep⟩
 ·exact absurd h6 (by decide)
theorem P_sortA_nil : Pure Tryz.prog 124 [.slice none 0 0, fV 75].toArray (.tuple #[]) := by
 refine Jk Tryz.func124 rfl rfl fun w => ?_; refine J8 ?_; refine Jo 3 rfl ?_; refine LR rfl (JU rfl rfl) ?_; refine JC 8 rfl ?_; refine Wp (by omega) (by omega) ?_; refine Jl rfl rfl rfl (enters_of Tryz.func174 (by kernel_rfl) rfl) yq ?_; refine Qx rfl (Jl rfl rfl rfl (enters_of Tryz.func195 (by kernel_rfl) rfl) Jzy (Jx 1 rfl ?_)); refine Kh rfl rfl .nil (fun w1 hs1 => ?_); exact ⟨rfl, hs1.keep⟩
theorem Jws {R : Jm} {xs : List AcL} {row : QV} (hl : xs.length ≤ 1000) (hrow : rowOk 8 xs.length (KW xs) row) :
  PureT (α := SortR xs) Tryz.prog 124 [JE xs.length row, fV 75].toArray (fun _ => .tuple #[]) (JR 48 (KW xs) row) (fun ys => JR 48 (KW ys.1) row) R := by
 cases row with
 | none =>
  have h0 : xs = [] := by
   have := hrow.1
   exact List.eq_nil_of_length_eq_zero (by simpa using this)
  subst h0; exact P_sortA_nil.toR.toT.map (fun _ => ⟨[], List.Perm.refl _, fun i j x y _ h => by simp at h⟩) (fun _ => rfl) (fun _ => List.Sublist.refl _)
 | some p =>
  obtain ⟨r, cap, sp⟩ := p
  obtain ⟨hr1, hr2⟩ := hrow
  refine ⟨fun w hT hR hd hne => ?_⟩
  have hb : w.heap[r]? = some (.cells (KW xs ++ sp).toArray 48 (0, 0)) := hT _ List.mem_cons_self
  have hH : Go.Sort.HoldsK AcL.cells 8 w r 0 xs.toArray := by
   unfold Go.Sort.HoldsK
   rw [Je1]; exact Jg2 hb
  have eg : ∀ args w, (callFunc 75 args).run Tryz.prog w = .ok (.enter 75 args) w := enters_of Tryz.func75 (by kernel_rfl) rfl
  have hcon := AnyQ.slices_SortFunc Tryz.laysSortA 8 Tryz.isAgg48 Tryz.sizeOf48 AcL.cells AcL.len (fun x v hv => by simp [AcL.cells] at hv; rcases hv with rfl | rfl | rfl | rfl | rfl | rfl | rfl | rfl <;> rfl) (fun x y => XZ x.addr y.addr) Jse 75 #[] r 0 cap xs.toArray w eg (fun _ _ _ _ x y => Jwr x y _) hH (J7 hb) (by rw [List.size_toArray]; omega)
  change Calls Tryz.prog 124 #[.slice (some ⟨r, 0, none⟩) xs.length cap, fV 75] w _ at hcon; refine hcon.mono ?_; rintro e w' ⟨rfl, d', n, os, ⟨hp1, _, hp3⟩, hso, hw⟩
  have hsz : d'.toList.length = xs.length := by rw [Array.length_toList, hp1, List.size_toArray]
  have hfl : Go.Sort.flatK AcL.cells 8 d' = (KW d'.toList).toArray := Je1 d'.toList
  have hw2 : w' = Go.Sort.grow (Go.Sort.putRow id (Go.Sort.ahead w n) r 0 (KW d'.toList).toArray) os := by rw [hw, ← hfl]; rfl
  obtain ⟨h1, h2⟩ := Je0 (ys := KW d'.toList) (by simp only [KW, Ks AcL.len, hsz]) hw2 hb
  have hperm : d'.toList.Perm xs := by
   rw [List.size_toArray] at hp3
   have e1 : (d'.extract 0 xs.length).toList = d'.toList := by rw [Array.toList_extract]; simp [← hsz]; exact List.take_of_length_le (by simp)
   have e2 : (xs.toArray.extract 0 xs.length).toList = xs := by rw [Array.toList_extract]; simp
   rw [e1, e2] at hp3; exact hp3
  have hs : ∀ (i j : Nat) (x y : AcL), i < j → d'.toList[i]? = some x → d'.toList[j]? = some y → Op.bytesLess y.addr x.addr = false := fun i j x y hij hx hy => by
   have hj := (List.getElem?_eq_some_iff.1 hy).1
   have h := hso i j (Nat.zero_le _) hij (by rw [List.size_toArray]; omega)
   have g : ∀ (k : Nat) (z : AcL), d'.toList[k]? = some z → d'[k]! = z := fun k z hz => by
    have h3 : d'[k]? = some z := by simpa using hz
    rw [Array.getElem!_eq_getD, Array.getD_eq_getD_getElem?, h3]; rfl
   rw [g j y hy, g i x hx] at h
   have h4 : Op.bytesLess y.addr x.addr = decide (XZ y.addr x.addr < 0) := (vt _ _).symm
   rw [h4]; exact h
  exact ⟨⟨d'.toList, hperm, hs⟩, rfl, h1, fun p hp => by
   rw [List.mem_singleton.1 hp]; exact ⟨.inl (by simp [JR]), h2⟩, List.pairwise_singleton _ _⟩
theorem Jml {R : Jm} {xs : List AcL} {g : FuncId} {caps : List Value} (hl : xs.length ≤ 1000) (eg : Enters Tryz.prog g) (hit : jk Tryz.prog g caps R 0 (nxN (fun i => [vA (acI xs i)]) xs.length) (yD xs.length)) :
  PureT (α := { y : SortR xs × QV // rowOk 8 xs.length (KW y.1.1) y.2 }) Tryz.prog 73 [.func (.func g) #[] caps.toArray, fV 75].toArray (fun y => JE xs.length y.1.2) [] (fun y => JR 48 (KW y.1.1.1) y.1.2) R := by
 refine Jt Tryz.func73 rfl rfl fun w => ?_; refine J8 ?_; refine Jo 8 rfl ?_; refine Ke rfl rfl rfl (enters_of Tryz.func123 (by kernel_rfl) rfl) (Jmk hl eg hit) oR fun x => ?_
 obtain ⟨row, hrow⟩ := x
 refine JC 7 rfl ?_; refine Qh (T := JR 48 (KW xs) row) (L0 := []) (Rl := []) (List.Perm.refl _) rfl rfl rfl (enters_of Tryz.func124 (by kernel_rfl) rfl) (Jws hl hrow) oN fun ys => ?_; refine Jx 9 rfl ?_; refine pT rfl rfl rfl fun w1 hs1 => ?_; exact ⟨⟨(ys, row), hrow.same (by rw [KW, KW, Ks AcL.len, Ks AcL.len, ys.2.1.length_eq])⟩, rfl, hs1.weakL (List.sublist_append_left _ _)⟩
def wkC (g : GenL) (n : Nat) (p : Pl) (f : Int) : List Value := [KP g.ts.length g.tp, uV g.time, uV g.rc.number, uV g.rc.time, uV g.rc.base.a, uV g.rc.base.b, uV g.rc.base.c, uV g.rc.base.d, uV g.rc.blob.a, uV g.rc.blob.b, uV g.rc.blob.c, uV g.rc.blob.d, uV g.rc.overhead.a, uV g.rc.overhead.b, uV g.rc.overhead.c, uV g.rc.overhead.d, uV g.rc.scalar, uV g.rc.extra, uV g.rc.operator, KP g.accts.length g.ap, KP n p, .int .i64 f]
def yP (W : Nat) (g : GenL) (n : Nat) (p : Pl) (f : Int) : Nat × Obj := (W, .cells (wkC g n p f).toArray 70 (0, 0))
def rpB (rp W : Nat) : Nat × Obj := (rp, .cells #[Qd W 0] 68 (0, 0))
theorem Jwt {R : Jm} {g : GenL} (hg : g.In R) (rp W n : Nat) (p : Pl) (f : Int) : PureT (α := Unit) Tryz.prog 70 [Qd rp 0].toArray (fun _ => .int .i64 (Qv g.ts g.time).2) [yP W g n p f] (fun _ => [yP W g n p (Qv g.ts g.time).1]) (rpB rp W :: R) := by
 have hA := (Jr7 hg.tlen hg.tseg g.time).mono (R' := rpB rp W :: R) fun q hq => List.mem_cons_of_mem _ hq
 refine Jt Tryz.func70 rfl rfl fun w => ?_; refine J8 ?_; refine JP 6 rfl ?_
 refine JL [] [(0, .pure), (1, .pure), (2, .pure), (3, .pure), (4, .pure), (6, .pure), (7, .pure), (8, .pure), (9, .pure), (12, .pure), (13, .pure), (14, .pure), (15, .pure), (16, .pure), (17, .turn), (18, .pure)] 19 [0, 1, 2, 3, 4, 5, 6, 7, 8, 9, 10, 11, 12, 13, 14, 15, 16, 17, 18] (by kernel_rfl) (by kernel_rfl) (by first | exact (fun _ h => absurd h List.not_mem_nil) | simp [SubS] | (intro p hp; simp [hp])) ?_; refine Jn (k := 0) rfl rfl rfl rfl rfl (fun _ hS => (Jh rfl (Jy (k := 0) rfl) rfl rfl)) ?_; refine Jn (k := 1) rfl rfl rfl rfl rfl (fun _ hS => (Jh rfl (Jy (k := 0) rfl) rfl rfl)) ?_; refine Jn (k := 2) rfl rfl rfl rfl rfl (fun _ hS => (J0 rfl rfl rfl)) ?_
 refine Jn (k := 3) rfl rfl rfl rfl rfl (fun _ hS => (JD rfl rfl rfl)) ?_
 refine Jn (k := 4) rfl rfl rfl rfl rfl (fun _ hS => (JD rfl rfl rfl)) ?_; refine KB (k := 5) rfl rfl rfl rfl rfl (Jp (vs := [_]) rfl (kn 0 rfl) rfl rfl rfl rfl) ?_; refine Jn (k := 6) rfl rfl rfl rfl rfl (fun _ hS => (Jh rfl (Jy (k := 0) rfl) rfl rfl)) ?_; refine Jn (k := 7) rfl rfl rfl rfl rfl (fun _ hS => (J0 rfl rfl rfl)) ?_
 refine Jn (k := 8) rfl rfl rfl rfl rfl (fun _ hS => (JD rfl rfl rfl)) ?_
 refine Jn (k := 9) rfl rfl rfl rfl rfl (fun _ hS => (JD rfl rfl rfl)) ?_; refine KB (k := 10) rfl rfl rfl rfl rfl (Jh rfl (kn 0 rfl) rfl rfl) ?_; refine KH (k := 11) rfl rfl rfl rfl rfl (enters_of Tryz.func71 (by kernel_rfl) rfl) (hA) (fun q hq => .inr hq) ?_; refine Jn (k := 12) rfl rfl rfl rfl rfl (fun _ hS => (Ji rfl)) ?_; refine Jn (k := 13) rfl rfl rfl rfl rfl (fun _ hS => (JM rfl rfl)) ?_; refine Jn (k := 14) rfl rfl rfl rfl rfl (fun _ hS => (JM rfl rfl)) ?_; refine Jn (k := 15) rfl rfl rfl rfl rfl (fun _ hS => (J0 rfl rfl rfl)) ?_
 refine Jn (k := 16) rfl rfl rfl rfl rfl (fun _ hS => (JD rfl rfl rfl)) ?_
 refine XW (k := 17) (q := 0) rfl rfl rfl rfl rfl rfl rfl rfl rfl (by first | (simp only [List.setIfInBounds_toArray, List.set_cons_zero, List.set_cons_succ]; exact rfl) | exact rfl) (by first | (simp only [List.set_cons_zero, List.set_cons_succ]; exact rfl) | exact rfl) (by first | exact (fun _ h => absurd h List.not_mem_nil) | simp [SubS] | (intro p hp; simp [hp])) ?_; refine Jn (k := 18) rfl rfl rfl rfl rfl (fun _ hS => (J9 rfl)) ?_; refine Ko ?_; refine Jx 9 rfl ?_; refine pT rfl rfl rfl fun w1 hs1 => ?_; exact ⟨(), rfl, hs1⟩
theorem Jwu {R : Jm} {g : GenL} (hg : g.In R) {s : StL} (hs : s.In R) (rp W : Nat) (f : Int) : PureT (α := StRes R (KX f s.er g.rc)) Tryz.prog 80 [Qd rp 0].toArray (fun x => .int .i64 x.err) [yP W g s.accts.length s.p f] (fun x => yP W g x.s.accts.length x.s.p f :: x.L) (rpB rp W :: R) := by
 have hw0 := Jjx f hs hg.rc
 refine jR Tryz.func80 rfl rfl fun w hR => ?_; refine J8 ?_
 obtain ⟨x0⟩ := hw0.ne (fun p hp => hR p (List.mem_cons_of_mem _ hp))
 refine JP 6 rfl ?_
 refine JL [] [(0, .pure), (1, .pure), (2, .pure), (3, .pure), (5, .pure), (6, .pure), (7, .pure), (9, .pure), (10, .pure), (11, .pure), (12, .pure), (14, .grow (Qf x0 (fun x => x.val) (fun x => x.L))), (15, .pure), (16, .pure), (17, .pure), (18, .pure), (19, .pure), (20, .turn), (21, .pure)] 22 [0, 1, 2, 3, 4, 5, 6, 7, 8, 9, 10, 11, 12, 13, 14, 15, 16, 17, 18, 19, 20, 21] (by kernel_rfl) (by kernel_rfl) (by first | exact (fun _ h => absurd h List.not_mem_nil) | simp [SubS] | (intro p hp; simp [hp])) ?_; refine Jn (k := 0) rfl rfl rfl rfl rfl (fun _ hS => (Jh rfl (Jy (k := 0) rfl) rfl rfl)) ?_; refine Jn (k := 1) rfl rfl rfl rfl rfl (fun _ hS => (Jh rfl (Jy (k := 0) rfl) rfl rfl)) ?_; refine Jn (k := 2) rfl rfl rfl rfl rfl (fun _ hS => (J0 rfl rfl rfl)) ?_
 refine Jn (k := 3) rfl rfl rfl rfl rfl (fun _ hS => (JD rfl rfl rfl)) ?_; refine KB (k := 4) rfl rfl rfl rfl rfl (Jh rfl (kn 0 rfl) rfl rfl) ?_; refine Jn (k := 5) rfl rfl rfl rfl rfl (fun _ hS => (Jh rfl (Jy (k := 0) rfl) rfl rfl)) ?_; refine Jn (k := 6) rfl rfl rfl rfl rfl (fun _ hS => (J0 rfl rfl rfl)) ?_
 refine Jn (k := 7) rfl rfl rfl rfl rfl (fun _ hS => (JD rfl rfl rfl)) ?_; refine KB (k := 8) rfl rfl rfl rfl rfl (Jp (vs := [_]) rfl (kn 0 rfl) rfl rfl rfl rfl) ?_; refine Jn (k := 9) rfl rfl rfl rfl rfl (fun _ hS => (Jh rfl (Jy (k := 0) rfl) rfl rfl)) ?_; refine Jn (k := 10) rfl rfl rfl rfl rfl (fun _ hS => (J0 rfl rfl rfl)) ?_
 refine Jn (k := 11) rfl rfl rfl rfl rfl (fun _ hS => (JD rfl rfl rfl)) ?_
 refine Jn (k := 12) rfl rfl rfl rfl rfl (fun _ hS => (JD rfl rfl rfl)) ?_; refine KB (k := 13) rfl rfl rfl rfl rfl (Jp (vs := [_, _, _, _, _, _, _, _, _, _, _, _, _, _, _, _, _]) rfl (kn 0 rfl) rfl rfl rfl rfl) ?_; refine KT (k := 14) rfl rfl rfl rfl rfl (enters_of Tryz.func81 (by kernel_rfl) rfl) hw0 (fun q hq => .inr (List.mem_cons_of_mem _ hq)) fun x => ?_; refine Jn (k := 15) rfl rfl rfl rfl rfl (fun _ hS => (Ji rfl)) ?_; refine Jn (k := 16) rfl rfl rfl rfl rfl (fun _ hS => (JM rfl rfl)) ?_; refine Jn (k := 17) rfl rfl rfl rfl rfl (fun _ hS => (JM rfl rfl)) ?_; refine Jn (k := 18) rfl rfl rfl rfl rfl (fun _ hS => (J0 rfl rfl rfl)) ?_
 refine Jn (k := 19) rfl rfl rfl rfl rfl (fun _ hS => (JD rfl rfl rfl)) ?_; refine zO (k := 20) (q := x.L.length) (n := 1) (off := 20) (vs := x.s.cells.toArray) (cs := (wkC g s.accts.length s.p f).toArray) (e := 70) (E' := x.L ++ [yP W g x.s.accts.length x.s.p f]) (cs' := (wkC g x.s.accts.length x.s.p f).toArray) rfl rfl rfl rfl List.getElem?_concat_length rfl rfl rfl rfl (by exact Nat.le_of_ble_eq_true rfl) rfl (by simp [yP]) (fun _ h => absurd h List.not_mem_nil) ?_; refine Jn (k := 21) rfl rfl rfl rfl rfl (fun _ hS => (J9 rfl)) ?_; refine Ko ?_; refine Jx 9 rfl ?_; refine pT rfl rfl rfl fun w1 hs1 => ?_; exact ⟨x, rfl, hs1.perm (List.perm_append_comm)⟩
section
variable {c : Cx} {l : Kv} {E : Jm} {X : XP} {d : List Deferred} {ops : Array Oper} {rest : List Nat} {k i : Nat} {tb : ZT} {S : Jm} {T : Jm → Act → Prop}
theorem zU {α : Type} {T0 L0 Rl : Jm} {f : Operand} {args : Array Operand} {at_ : Array TypeId} {g : FuncId} {vs : List Value} {V : α → Value} {LL E' : α → Jm} {ty : TypeId} {ps : String} {af : Array Edge} {gd : Option (Nat × Bool)}
  (hp : E.Perm (T0 ++ L0)) (hE : ∀ x, (LL x ++ L0).Perm (E' x)) (hk : WW ops.toList k = some ⟨some i, .call ⟨.value f, args, at_⟩, ty, ps, af, gd⟩) (hg : Kg l ops ⟨some i, .call ⟨.value f, args, at_⟩, ty, ps, af, gd⟩ = some true) (hi : Nat.ble (i + 1) c.n = true) (hA : tb k = .turn) (hca : Km l f args = some (g, vs)) (eg : Enters c.P g)
  (hpt : PureT c.P g vs.toArray V T0 LL Rl) (hR : ∀ p ∈ Rl, known c L0 p.1 p.2) (hS : ∀ x, SubS S (E' x)) (h : ∀ x, HB c d ((i, V x) :: l) (E' x) X S ops tb rest T) : HB c d l E X S ops tb (k :: rest) T := fun a hf => by
 refine ⟨_, Q8 hk, ?_⟩; rw [hA]; refine .inl ⟨α, V, E', ⟨JF hf hg, fun w hs => ?_⟩, fun x => ⟨hS x, h x _ (hf.put (Nat.le_of_ble_eq_true hi))⟩⟩
 have hs := hs.perm hp
 obtain ⟨hd1, _, hd3⟩ := List.pairwise_append.1 hs.distinct
 refine Wr hf hca eg ((hpt.run w (fun p hp => (hs.own p (List.mem_append_left _ hp)).2.2) (fun p hp => ?_) hd1 (fun p hp q hq => ?_)).mono fun _ _ ⟨x, he, hk, h1, h2⟩ => ⟨V x, he, x, rfl, (hs.turnT hk h1 h2).perm (hE x)⟩)
 ·exact (hR p hp).elim (fun h => (hs.own _ (List.mem_append_right _ h)).2.2) hs.readR
 ·rcases hR p hp with h | h
  ·exact fun e => hd3 q hq _ h e.symm
  ·rintro e
   obtain ⟨h1, _, h3⟩ := hs.ext _ h
   have h3 := J7 h3
   rcases (hs.own q (List.mem_append_left _ hq)).1 with h4 | h4
   ·exact h1 (e ▸ h4)
   ·simp only at h3 e; omega
theorem Jsf {o : Oper} {v : Value} (hk : WW ops.toList k = some o) (hg : Kg l ops o = some true) (hd : o.dst = some i) (hi : Nat.ble (i + 1) c.n = true) (hA : tb k = .turn) (hr : J6 c d l E X o v) (hS : SubS S E) (h : HB c d ((i, v) :: l) E X S ops tb rest T) : HB c d l E X S ops tb (k :: rest) T := fun a hf => by
 refine ⟨o, Q8 hk, ?_⟩; rw [hA]; refine .inl ⟨Unit, fun _ => v, fun _ => E, ⟨JF hf hg, fun w hs => Yo (hr a w hf hs) ⟨(), rfl, hs⟩⟩, fun _ => ⟨hS, ?_⟩⟩; rw [hd]; exact h _ (hf.put (Nat.le_of_ble_eq_true hi))
end
theorem Jsg (xs : List AcL) : Nonempty { row : QV // rowOk 8 xs.length (xs.flatMap AcL.cells) row } := ⟨⟨some (0, xs.length, []), ⟨Ks AcL.len xs, by simp⟩⟩⟩
structure Step2R (g : GenL) : Type where
  ys : SortR g.accts
  row : QV
  ok : rowOk 8 ys.1.length (KW ys.1) row
def Step2R.st {g : GenL} (x : Step2R g) : StL := ⟨x.ys.1, Vd x.row⟩
def Step2R.L {g : GenL} (x : Step2R g) : Jm := JR 48 (KW x.ys.1) x.row
def Jg3 (ys : List AcL) : Int := if Ym (jU ys) = true then 13 else KR (ys.map AcL.er)
theorem Je2 {R : Jm} {g : GenL} (hg : g.In R) (x : Step2R g) : x.st.In (x.L ++ R) :=
 ⟨by show x.ys.1.length ≤ YF; rw [x.ys.2.1.length_eq]; exact hg.st.len, (KJ x.ok (by decide)).mono fun q hq => List.mem_append_left _ hq, fun a ha => (hg.st.accts a (x.ys.2.1.mem_iff.1 ha)).mono fun q hq => List.mem_append_right _ hq⟩
theorem Jwv {R : Jm} {g : GenL} (hg : g.In R) (hf : g.accts.length ≤ 1000) (rp W n : Nat) (p : Pl) (f : Int) : PureT (α := Step2R g) Tryz.prog 72 [Qd rp 0].toArray (fun x => .int .i64 (Jg3 x.ys.1)) [yP W g n p f] (fun x => yP W g x.ys.1.length (Vd x.row) f :: x.L) (rpB rp W :: R) := by
 have hseg : Seg (rpB rp W :: R) g.accts.length (KW g.accts) g.ap := hg.st.seg.mono fun q hq => List.mem_cons_of_mem _ hq
 have hg2 : g.In (rpB rp W :: R) := hg.mono fun q hq => List.mem_cons_of_mem _ hq
 have hb : g.accts.length ≤ 9223372036854775807 := by omega
 refine Jt Tryz.func72 rfl rfl fun w => ?_; refine J8 ?_; refine JP 6 rfl ?_
 refine JL [] [(0, .pure), (1, .pure), (2, .pure), (3, .pure), (4, .pure), (5, .turn), (6, .grow (Qf (0 : Nat) (fun r => Value.func (.func 125) #[] #[.pointer (some ⟨r, 0, none⟩)]) (fun r => [Jbj r g.accts.length g.ap]))), (7, .turn), (8, .pure), (9, .pure), (10, .pure), (11, .turn)] 12 [0, 1, 2, 3, 4, 5, 6, 7, 8, 9, 10, 11] (by kernel_rfl) (by kernel_rfl) (by first | exact (fun _ h => absurd h List.not_mem_nil) | simp [SubS] | (intro p hp; simp [hp])) ?_; refine Jn (k := 0) rfl rfl rfl rfl rfl (fun _ hS => (Jh rfl (Jy (k := 0) rfl) rfl rfl)) ?_; refine Jn (k := 1) rfl rfl rfl rfl rfl (fun _ hS => (Jh rfl (Jy (k := 0) rfl) rfl rfl)) ?_; refine Jn (k := 2) rfl rfl rfl rfl rfl (fun _ hS => (J0 rfl rfl rfl)) ?_
 refine Jn (k := 3) rfl rfl rfl rfl rfl (fun _ hS => (JD rfl rfl rfl)) ?_
 refine Jn (k := 4) rfl rfl rfl rfl rfl (fun _ hS => (JD rfl rfl rfl)) ?_; refine Jsf (k := 5) rfl rfl rfl rfl rfl (Jh rfl (kn 0 rfl) rfl rfl) (fun _ h => absurd h List.not_mem_nil) ?_; refine WY (k := 6) rfl rfl rfl rfl rfl (enters_of Tryz.func74 (by kernel_rfl) rfl) (Jsa _ _) fun rv => ?_
 refine zU (k := 7) (α := { y : SortR g.accts × QV // rowOk 8 g.accts.length (KW y.1.1) y.2 }) (V := fun y => JE g.accts.length y.1.2) (LL := fun y => JR 48 (KW y.1.1.1) y.1.2) (T0 := []) (L0 := [Jbj rv g.accts.length g.ap, yP W g n p f]) (Rl := Jbj rv g.accts.length g.ap :: rpB rp W :: R) (E' := fun x => yP W g n p f :: Jbj rv g.accts.length g.ap :: JR 48 (KW x.1.1.1) x.1.2) (List.Perm.refl _) (fun x => List.perm_append_comm.trans (List.Perm.swap _ _ _)) rfl rfl rfl rfl rfl (enters_of Tryz.func73 (by kernel_rfl) rfl) (Jml hf (enters_of Tryz.func125 (by kernel_rfl) rfl) (Jsb hb hseg rv)) (fun q hq => by rcases List.mem_cons.1 hq with rfl | h; exact .inl (List.mem_cons_self ..); exact .inr h) (fun _ _ h => absurd h List.not_mem_nil) fun x => ?_
 obtain ⟨⟨ys, row⟩, hrow⟩ := x
 simp only at hrow ⊢
 have hyl := ys.2.1.length_eq
 rw [← hyl] at hrow; refine Wu (v' := KP ys.1.length (Vd row)) (by rw [← hyl]; exact (Xp _ _ (fun h => by subst h; exact hrow.1)).symm) ?_; refine Jn (k := 8) rfl rfl rfl rfl rfl (fun _ hS => (J0 rfl rfl rfl)) ?_
 refine Jn (k := 9) rfl rfl rfl rfl rfl (fun _ hS => (JD rfl rfl rfl)) ?_
 refine Jn (k := 10) rfl rfl rfl rfl rfl (fun _ hS => (JD rfl rfl rfl)) ?_; refine XW (k := 11) (q := 0) (off := 20) (cs' := (wkC g ys.1.length (Vd row) f).toArray) rfl rfl rfl rfl rfl rfl rfl rfl rfl rfl rfl (fun _ h => absurd h List.not_mem_nil) ?_; refine Ko ?_; refine JI 9 rfl ?_
 obtain ⟨x0⟩ := Jsg ys.1
 have hyl2 : ys.1.length ≤ 1000 := by omega
 have hsy : Seg (JR 48 (KW ys.1) row) ys.1.length (ys.1.flatMap AcL.cells) (Vd row) := KJ hrow (by decide)
 refine JL (yP W g ys.1.length (Vd row) f :: JR 48 (KW ys.1) row) [(0, .pure), (1, .pure), (2, .pure), (3, .pure), (4, .pure), (5, .grow (Qf x0 (fun x => JE ys.1.length x.1) (fun x => JR 48 (ys.1.flatMap AcL.cells) x.1))), (6, .pure), (7, .turn), (8, .pure), (9, .pure), (10, .pure), (11, .pure), (12, .pure), (13, .pure), (14, .pure), (15, .pure)] 16 [0, 1, 2, 3, 4, 6, 9, 10, 11, 12, 13, 14, 5, 7, 8, 15] (by kernel_rfl) (by kernel_rfl) (fun q hq => by rcases List.mem_cons.1 hq with rfl | h; exact List.mem_cons_self ..; exact List.mem_cons_of_mem _ (List.mem_cons_of_mem _ h)) ?_; refine Jn (k := 0) rfl rfl rfl rfl rfl (fun _ hS => (Jh rfl (Jy (k := 0) rfl) rfl rfl)) ?_; refine Jn (k := 1) rfl rfl rfl rfl rfl (fun _ hS => (J0 rfl rfl rfl)) ?_
 refine Jn (k := 2) rfl rfl rfl rfl rfl (fun _ hS => (JD rfl rfl rfl)) ?_
 refine Jn (k := 3) rfl rfl rfl rfl rfl (fun _ hS => (JD rfl rfl rfl)) ?_; refine Jn (k := 4) rfl rfl rfl rfl rfl (fun _ hS => (Jh rfl (.inl (hS _ (Jr (n := 0) rfl))) rfl rfl)) ?_; refine Jn (k := 6) rfl rfl rfl rfl rfl (fun _ hS => (Ji rfl)) ?_; refine Jn (k := 9) rfl rfl rfl rfl rfl (fun _ hS => (Jh rfl (Jy (k := 0) rfl) rfl rfl)) ?_; refine Jn (k := 10) rfl rfl rfl rfl rfl (fun _ hS => (J0 rfl rfl rfl)) ?_
 refine Jn (k := 11) rfl rfl rfl rfl rfl (fun _ hS => (JD rfl rfl rfl)) ?_
 refine Jn (k := 12) rfl rfl rfl rfl rfl (fun _ hS => (JD rfl rfl rfl)) ?_; refine Jn (k := 13) rfl rfl rfl rfl rfl (fun _ hS => (Jh rfl (.inl (hS _ (Jr (n := 0) rfl))) rfl rfl)) ?_; refine Jn (k := 14) rfl rfl rfl rfl rfl (fun _ hS => (JU rfl rfl)) ?_; refine KT (k := 5) rfl rfl rfl rfl rfl (enters_of Tryz.func79 (by kernel_rfl) rfl) (Jeo hyl2 hsy) (fun q hq => .inl (List.mem_cons_of_mem _ hq)) fun x2 => ?_
 obtain ⟨row2, hrow2⟩ := x2
 refine zU (k := 7) (α := CompR ys.1) (V := fun q => q.val) (LL := fun _ => []) (T0 := JR 48 (KW ys.1) row2) (Rl := []) (L0 := yP W g ys.1.length (Vd row) f :: Jbj rv g.accts.length g.ap :: JR 48 (KW ys.1) row) (E' := fun _ => yP W g ys.1.length (Vd row) f :: Jbj rv g.accts.length g.ap :: JR 48 (KW ys.1) row) (List.Perm.refl _) (fun x => List.Perm.refl _) rfl rfl rfl rfl rfl (enters_of Tryz.func78 (by kernel_rfl) rfl) (Jmj hyl2 hrow2 (enters_of Tryz.func77 (by kernel_rfl) rfl) Jwo) oN (fun _ => (fun q hq => by rcases List.mem_cons.1 hq with rfl | h; exact List.mem_cons_self ..; exact List.mem_cons_of_mem _ (List.mem_cons_of_mem _ h))) fun qq => ?_; refine Jn (k := 8) rfl rfl rfl rfl rfl (fun _ hS => (JU rfl rfl)) ?_; refine Jn (k := 15) rfl rfl rfl rfl rfl (fun _ hS => (J0 rfl rfl rfl)) ?_; refine Ko ?_; refine JI 2 rfl ?_; refine cD (fun h6 => ?_) fun h6 => ?_
 refine Kn 7 rfl ?_; refine pT rfl rfl rfl fun w1 hs1 => ?_
 (have ha : Ym (jU ys.1) = true := qq.2.1.1 (by omega)
  exact ⟨⟨ys, row, hrow⟩, by rw [Jg3, if_pos ha]; rfl, hs1.weakL (.cons₂ _ (.cons _ (List.Sublist.refl _)))⟩)
 ·refine JP 3 rfl ?_
  have hst := Je2 hg2 ⟨ys, row, hrow⟩
  refine Jo 1 rfl ?_; refine LR rfl (Jh rfl (Jy (k := 0) rfl) rfl rfl) ?_; refine Xj 3 [0] rfl rfl ?_; refine Jg rfl rfl rfl Jo0 (Yi hst) (fun q hq => (List.mem_append.1 hq).elim (fun h => .inl (List.mem_cons_of_mem _ (List.mem_cons_of_mem _ h))) .inr) ?_; refine Jx 4 rfl ?_; refine pT rfl rfl rfl fun w1 hs1 => ?_
  (have ha : ¬ Ym (jU ys.1) = true := fun ha => by
    have := qq.2.1.2 ha
    omega
   exact ⟨⟨ys, row, hrow⟩, by rw [Jg3, if_neg ha]; rfl, hs1.weakL (.cons₂ _ (.cons _ (List.Sublist.refl _)))⟩)
def leA (x y : AcE) : Bool := !Op.bytesLess y.addr x.addr
def Vr (l : List AcE) : List AcE := l.mergeSort leA
theorem zV (x y z : AcE) (h1 : leA x y = true) (h2 : leA y z = true) : leA x z = true := by
 simp only [leA, Bool.not_eq_true'] at h1 h2 ⊢
 rcases W7 x.addr z.addr with e | e | e
 ·rw [e]; exact Vu _
 ·exact WQ e
 ·rcases W7 x.addr y.addr with f | f | f
  ·rw [f] at e; rw [e] at h2; cases h2
  ·have := Qt e f; rw [this] at h2; cases h2
  ·rw [f] at h1; cases h1
theorem zX (x y : AcE) : (leA x y || leA y x) = true := by
 simp only [leA]
 rcases W7 x.addr y.addr with e | e | e
 ·rw [e, Vu]; rfl
 ·rw [WQ e]; rfl
 ·rw [WQ e]; simp
theorem yu {x y : AcE} (h1 : leA x y = true) (h2 : leA y x = true) : x.addr = y.addr := by
 simp only [leA, Bool.not_eq_true'] at h1 h2
 rcases W7 x.addr y.addr with e | e | e
 ·exact e
 ·rw [e] at h2; cases h2
 ·rw [e] at h1; cases h1
theorem SortR.pair {xs : List AcL} (ys : SortR xs) : (ys.1.map AcL.er).Pairwise fun x y => leA x y = true := by
 rw [List.pairwise_map]
 rw [List.pairwise_iff_getElem]
 intro i j hi hj hij
 simp only [leA, Bool.not_eq_true']
 exact ys.2.2 i j _ _ hij (List.getElem?_eq_getElem hi) (List.getElem?_eq_getElem hj)
theorem Jkc {l : List AcE} (hn : (l.map AcE.addr).Nodup) {x y : AcE} (hx : x ∈ l) (hy : y ∈ l) (h : x.addr = y.addr) : x = y := by
 induction l with
 | nil => cases hx
 | cons a l ih =>
  rw [List.map_cons, List.nodup_cons] at hn
  rcases List.mem_cons.1 hx with rfl | hx2
  ·rcases List.mem_cons.1 hy with rfl | hy2
   ·rfl
   ·exact absurd (h ▸ List.mem_map_of_mem hy2) hn.1
  ·rcases List.mem_cons.1 hy with rfl | hy2
   ·exact absurd (h ▸ List.mem_map_of_mem hx2) hn.1
   ·exact ih hn.2 hx2 hy2
theorem SortR.uniq {xs : List AcL} (ys : SortR xs) (hn : ((xs.map AcL.er).map AcE.addr).Nodup) : ys.1.map AcL.er = Vr (xs.map AcL.er) := by
 have hp : (ys.1.map AcL.er).Perm (xs.map AcL.er) := ys.2.1.map _
 have hp2 : (Vr (xs.map AcL.er)).Perm (xs.map AcL.er) := List.mergeSort_perm _ _
 have hs2 : (Vr (xs.map AcL.er)).Pairwise fun x y => leA x y = true := List.pairwise_mergeSort zV zX _
 exact List.Perm.eq_of_pairwise (fun x y hx hy h1 h2 => Jkc hn (hp.mem_iff.1 hx) (hp2.mem_iff.1 hy) (yu h1 h2)) ys.pair hs2 (hp.trans hp2.symm)
theorem zY : ∀ {l : List AcE}, l.Pairwise (fun x y => leA x y = true) → (Ym (l.map AcE.addr) = true ↔ ¬ (l.map AcE.addr).Nodup)
 | [], _ => by simp [Ym]
 | [x], _ => by simp [Ym]
 | x :: y :: l, h => by
  have ih := zY (List.pairwise_cons.1 h).2
  have e : Ym ((x :: y :: l).map AcE.addr) = (decide (x.addr = y.addr) || Ym ((y :: l).map AcE.addr)) := rfl
  rw [e, Bool.or_eq_true, decide_eq_true_eq, ih]
  have e2 : ((x :: y :: l).map AcE.addr).Nodup ↔ x.addr ∉ (y :: l).map AcE.addr ∧ ((y :: l).map AcE.addr).Nodup := List.nodup_cons
  rw [e2]
  constructor
  ·rintro (h1 | h1) ⟨h2, h3⟩
   ·exact h2 (by rw [h1]; exact List.mem_map_of_mem (List.mem_cons_self ..))
   ·exact h1 h3
  ·intro h1
   by_cases h2 : ((y :: l).map AcE.addr).Nodup
   ·left
    by_cases h3 : x.addr ∈ (y :: l).map AcE.addr
    ·obtain ⟨z, hz, hzx⟩ := List.mem_map.1 h3
     have hxy := (List.pairwise_cons.1 h).1 y (List.mem_cons_self ..)
     rcases List.mem_cons.1 hz with rfl | hz
     ·exact hzx.symm
     ·have hyz := (List.pairwise_cons.1 (List.pairwise_cons.1 h).2).1 z hz
      refine yu hxy ?_
      simp only [leA] at hyz ⊢
      rw [← hzx]; exact hyz
    ·exact absurd ⟨h3, h2⟩ h1
   ·exact .inr h2
def Vs (l : List AcE) : Int := if (l.map AcE.addr).Nodup then KR (Vr l) else 13
theorem Jbk {xs : List AcL} (ys : SortR xs) : Jg3 ys.1 = Vs (xs.map AcL.er) := by
 have ha : jU ys.1 = (ys.1.map AcL.er).map AcE.addr := by simp [jU, AcL.er]
 have hp : ((ys.1.map AcL.er).map AcE.addr).Perm ((xs.map AcL.er).map AcE.addr) := (ys.2.1.map _).map _
 have h := zY ys.pair
 rw [← ha] at h
 unfold Jg3 Vs
 by_cases hn : ((xs.map AcL.er).map AcE.addr).Nodup
 ·have : ¬ Ym (jU ys.1) = true := fun h2 => h.1 h2 (ha ▸ hp.nodup_iff.2 hn)
  rw [if_neg this, if_pos hn, ys.uniq hn]
 ·rw [if_neg hn, if_pos (h.2 fun h2 => hn (hp.nodup_iff.1 (ha ▸ h2)))]
def Vw (ts : List Nat) (t : Nat) (rc : Rec) (l : List AcE) : List AcE × Int × Int :=
 if (Qv ts t).2 ≠ 0 then ([], 0, (Qv ts t).2) else if Vs l ≠ 0 then ([], 0, Vs l) else
  if (KX (Qv ts t).1 (Vr l) rc).2 ≠ 0 then ([], 0, (KX (Qv ts t).1 (Vr l) rc).2) else ((KX (Qv ts t).1 (Vr l) rc).1, (Qv ts t).1, 0)
abbrev leL (a b : AcL) : Prop := Op.bytesLess b.addr a.addr = false
structure GenOk (ts : List Nat) (t : Nat) (rc : Rec) (l s : List AcE) (f : Int) : Prop where
  act : Qv ts t = (f, 0)
  nd : (l.map AcE.addr).Nodup
  chk : KR (Vr l) = 0
  wr : KX f (Vr l) rc = (s, 0)
theorem Jzz {ts : List Nat} {t : Nat} {rc : Rec} {l s : List AcE} {f : Int} (h : Vw ts t rc l = (s, f, 0)) : GenOk ts t rc l s f := by
 unfold Vw at h
 split at h
 ·rename_i h1; exact absurd (Prod.mk.inj (Prod.mk.inj h).2).2 h1
 rename_i h1
 split at h
 ·rename_i h2; exact absurd (Prod.mk.inj (Prod.mk.inj h).2).2 h2
 rename_i h2
 split at h
 ·rename_i h3; exact absurd (Prod.mk.inj (Prod.mk.inj h).2).2 h3
 rename_i h3
 have h1 := Decidable.not_not.1 h1
 have h2 := Decidable.not_not.1 h2
 have h3 := Decidable.not_not.1 h3
 obtain ⟨e1, e2⟩ := Prod.mk.inj h
 have e2 := (Prod.mk.inj e2).1
 unfold Vs at h2
 split at h2
 ·rename_i hn
  exact ⟨by rw [← e2, ← h1], hn, h2, by rw [← e1, ← e2, ← h3]⟩
 ·cases h2
structure Ov (f : Int) (s t : List AcE) : Prop where
  kept : Kept s t
  fee : ¬ (KE f 1).2 = true → Kj t A1 = Kj s A1
theorem yv {f g : Int} (hg : g ≤ f) (h : (KE g 1).2 = true) : (KE f 1).2 = true := by
 unfold KE at h ⊢
 rw [if_pos rfl] at h ⊢
 split at h
 ·rw [if_pos (by omega)]
 ·cases h
theorem Ov.of {f g : Int} {s t : List AcE} {r : Rec} (hg : g ≤ f) (W : Wrote g s t r) : Ov f s t := ⟨W.kept, fun hf => by
 have h := W.fee
 rw [if_neg fun h2 => hf (yv hg h2)] at h
 exact h⟩
theorem Ov.trans {f g : Int} {s t u : List AcE} (hg : g ≤ f) (h : Ov g s t) (k : Ov f t u) : Ov f s u := ⟨h.kept.trans k.kept, fun hf => (k.fee hf).trans (h.fee fun h2 => hf (yv hg h2))⟩
theorem Ov.mono {f g : Int} {s t : List AcE} (hg : g ≤ f) (h : Ov g s t) : Ov f s t := ⟨h.kept, fun hf => h.fee fun h2 => hf (yv hg h2)⟩
theorem J1x {f : Int} {s t u v : List AcE} {r : Rec} (h : Ov f s t) (h2 : KX f t r = (u, 0)) (h3 : KX f s r = (v, 0)) : u = v := by
 have W2 := qD h2
 have W3 := qD h3
 obtain ⟨c, c1, c2, c3, c4, c5, c6, c7, c8⟩ := W2.acct
 obtain ⟨d, d1, d2, d3, d4, d5, d6, d7, d8⟩ := W3.acct
 refine Jyd W2.new W3.new fun k => ?_
 by_cases k0 : k = A0
 ·subst k0
  rw [c1, d1]
  congr 1
  refine Joe c2 d2 (c3.trans d3.symm) ?_ ?_ (c6.trans d6.symm) fun k => ?_
  ·rw [c4, d4]; exact h.kept.nonce A0
  ·rw [c5, d5]; exact h.kept.bal A0
  ·by_cases hk : wj k
   ·obtain ⟨i, hi, rfl⟩ := hk
    rw [c7 i hi, d7 i hi]
   ·rw [c8 k hk, d8 k hk]; exact h.kept.slot A0 k fun _ => hk
 ·by_cases k1 : k = A1
  ·subst k1
   have f2 := W2.fee
   have f3 := W3.fee
   by_cases hf : (KE f 1).2 = true
   ·rw [if_pos hf] at f2 f3
    rw [f2, f3]
    congr 1
    refine Joe (Ys W2.new f2).2 (Ys W3.new f3).2 rfl ?_ ?_ rfl fun k => ?_
    ·exact h.kept.nonce A1
    ·exact h.kept.bal A1
    ·exact h.kept.slot A1 k fun e => absurd e k0
   ·rw [if_neg hf] at f2 f3
    rw [f2, f3, h.fee hf]
  ·rw [W2.others k k0 k1, W3.others k k0 k1, h.kept.others k k0 k1]
theorem zZ {s0 s : List AcE} : ∀ {n : Nat} {f : Int} {t m u : List AcE} {r : Rec}, VG f t = (r, 0) → r.ok → Ov f s t → j7 s0 (n + 1) f t = (m, 0) → KX (f + ((n + 1 : Nat) : Int)) s (W9 (n + 1) f r) = (u, 0) → m = u
 | n, f, t, m, u, r, hr, hok, ho, hm, hu => by
  rw [j7] at hm
  split at hm
  ·rename_i h1; exact absurd (Prod.mk.inj hm).2 h1
  rename_i h1
  obtain ⟨x, hx⟩ : ∃ x, Wy f t = (x, 0) := ⟨_, by rw [← Decidable.not_not.1 h1]⟩
  obtain ⟨k1, k2, k3, k4⟩ := Joh hx
  rw [hx] at hm
  rw [hr] at k3
  have hw : KX (f + 1) t (QT f r) = (x, 0) := by
   unfold Wy at hx
   split at hx
   ·cases (Prod.mk.inj hx).2
   split at hx
   ·rename_i h2; rw [hr] at h2; exact absurd rfl h2
   rw [hr] at hx; exact hx
  cases n with
  | zero =>
   rw [j7] at hm
   have hxm := (Prod.mk.inj hm).1
   rw [← hxm]
   exact J1x (ho.mono (by omega)) hw hu
  | succ n =>
   have e : f + ((n + 1 + 1 : Nat) : Int) = f + 1 + ((n + 1 : Nat) : Int) := by omega
   rw [e] at hu
   exact zZ k3 (vr hok) (ho.trans (show f ≤ f + 1 by omega) (Ov.of (Int.le_refl _) (qD hw))) hm hu
 termination_by n => n
theorem Jmm {a b : Int} {s x m u : List AcE} {rc r : Rec} (hok : rc.ok) (h1 : KX a s rc = (x, 0)) (h2 : Wd a b rc = (r, 0)) (h3 : xX a b x = (m, 0)) (h4 : KX b s r = (u, 0)) : m = u := by
 obtain ⟨b1, b2, b3⟩ := back hok h1
 obtain ⟨g1, g2, g3⟩ := Jtz h3
 have hr : W9 (b - a).toNat a rc = r := by
  unfold Wd at h2
  rw [if_neg (by simpa using g1), b3, if_neg (by simp)] at h2
  exact (Prod.mk.inj h2).1
 rcases hn : (b - a).toNat with _ | n
 ·rw [hn] at g3 hr
  rw [j7] at g3
  have e1 := (Prod.mk.inj g3).1
  have e2 : b = a := by unfold SL.Way at g1; omega
  subst e2
  rw [W9] at hr
  subst hr
  rw [h1] at h4
  rw [← e1]; exact (Prod.mk.inj h4).1
 ·rw [hn] at g3 hr
  have e : b = a + ((n + 1 : Nat) : Int) := by omega
  subst e
  rw [← hr] at h4
  exact zZ b2 hok (Ov.of (Int.le_refl _) (qD h1)) g3 h4
theorem Jbl {s : List AcE} (h : Kx AcE.addr s) : (s.map AcE.addr).Nodup := by
 unfold List.Nodup
 rw [List.pairwise_map]
 exact h.imp fun h => Y5 h
theorem Jxl : ∀ s : BS, wL (s.map ZV) = s.length
 | [] => by rw [List.map_nil, wL]; rfl
 | b :: s => by rw [List.map_cons, wL, Jxl s, List.length_cons]; show Y6 (.mk b.toNat 0 0 0 [] none [] none 0) + s.length = _; rw [Y6, wL]; simp; omega
theorem Jkd (s : BS) : Y6 (yN s) = 1 + s.length := by unfold yN KY; rw [Y6, Jxl]; simp
theorem Jsh : ∀ l : List (BS × BS), (∀ x ∈ l, x.1.length = 32 ∧ x.2.length = 32) → wL (l.map wU) = 67 * l.length
 | [], _ => by rw [List.map_nil, wL]; rfl
 | x :: l, h => by
  obtain ⟨h1, h2⟩ := h x List.mem_cons_self
  rw [List.map_cons, wL, Jsh l fun y hy => h y (List.mem_cons_of_mem _ hy), List.length_cons]
  unfold wU KY
  rw [Y6, wL, wL, wL, Jkd, Jkd, h1, h2]; simp; omega
def wA (a : AcE) : Nat := 26 + a.code.length + 67 * a.slots.length
theorem J1y {a : AcE} (h : Wj a = 0) : Y6 (acV a) = wA a := by
 obtain ⟨h1, h2, _⟩ := Q1 h
 unfold acV KY wA
 rw [Y6, wL, wL, wL, wL, wL, wL, Jkd, Jkd, Y6, Y6, Y6, wL, Jsh _ fun x hx => ⟨(h2 x hx).1, (h2 x hx).2.1⟩, h1]; simp; omega
def wS (l : List AcE) : Nat := (l.map wA).sum
theorem Jxm : ∀ l : List AcE, (∀ a ∈ l, Wj a = 0) → wL (l.map acV) = wS l
 | [], _ => by rw [List.map_nil, wL]; simp [wS]
 | a :: l, h => by
  have ih := Jxm l fun b hb => h b (List.mem_cons_of_mem _ hb)
  rw [List.map_cons, wL, J1y (h a List.mem_cons_self), ih]
  unfold wS
  rw [List.map_cons, List.sum_cons]
theorem Jsi {l : List AcE} (h : KR l = 0) : Y6 (Za l) = 1 + wS l := by
 unfold Za KY
 rw [Y6, Jxm l (W8.1 h).2.1]; simp
def slN (l : List AcE) : Nat := (l.map fun a => a.slots.length).sum
theorem Jsj {a : AcE} (h : XQ a = true) (h2 : a.code.length ≤ 512) : a.code.length ≤ 60 := by
 unfold XQ at h
 simp only [Bool.and_eq_true, Bool.not_eq_true', Bool.or_eq_false_iff, Bool.and_eq_false_iff, decide_eq_false_iff_not] at h
 omega
theorem Jsk : ∀ l : List AcE, (∀ a ∈ l, Wj a = 0 ∧ XQ a = true) → wS l ≤ 86 * l.length + 67 * slN l
 | [], _ => by simp [wS]
 | a :: l, h => by
  obtain ⟨h1, h2⟩ := h a List.mem_cons_self
  have ih := Jsk l fun b hb => h b (List.mem_cons_of_mem _ hb)
  have hc := Jsj h2 (Q1 h1).2.2.2.1
  unfold wS slN wA at ih ⊢
  rw [List.map_cons, List.sum_cons, List.map_cons, List.sum_cons, List.length_cons]
  omega
theorem Jke : ∀ (l : List AcE) (i : Nat) (n : Int), i + l.length ≤ 41 → (Z0 i n l).1 = true → (∀ a ∈ l, XQ a = true) ∧ (Z0 i n l).2 = n + (slN l : Int)
 | [], i, n, _, _ => ⟨fun a ha => (nomatch ha), by unfold Z0 slN; simp⟩
 | a :: l, i, n, hl, h => by
  rw [List.length_cons] at hl
  unfold Z0 at h ⊢
  rw [if_neg (by omega)] at h ⊢
  by_cases hf : XQ a = false
  ·rw [if_pos hf] at h; cases h
  ·rw [if_neg hf] at h ⊢
   obtain ⟨h1, h2⟩ := Jke l (i + 1) (n + (a.slots.length : Int)) (by omega) h
   refine ⟨fun b hb => ?_, ?_⟩
   ·rcases List.mem_cons.1 hb with rfl | hb
    ·simpa using hf
    ·exact h1 b hb
   ·rw [h2]; unfold slN; rw [List.map_cons, List.sum_cons]; omega
theorem Jkf {l : List AcE} (h : ZR l = true) : l.length ≤ 40 ∧ (∀ a ∈ l, XQ a = true) ∧ slN l ≤ 40 := by
 unfold ZR at h
 simp only [Bool.and_eq_true, decide_eq_true_eq] at h
 obtain ⟨h1, h2, h3⟩ := h
 obtain ⟨g1, g2⟩ := Jke l 0 0 (by omega) h1
 exact ⟨h2, g1, by omega⟩
theorem Jkg {l m : List AcE} (h : l.Perm m) : wS l = wS m := (h.map wA).sum_nat
theorem Jxn : ∀ {l m : List AcE}, l.Nodup → (∀ x ∈ l, x ∈ m) → wS l ≤ wS m
 | [], _, _, _ => by simp [wS]
 | x :: l, m, hn, h => by
  obtain ⟨h1, h2⟩ := List.nodup_cons.1 hn
  have ih := Jxn h2 (m := m.erase x) fun y hy => (List.mem_erase_of_ne (fun e => h1 (by rw [← e]; exact hy))).2 (h y (List.mem_cons_of_mem _ hy))
  have hp := Jkg (List.perm_cons_erase (h x List.mem_cons_self))
  rw [hp]
  unfold wS at ih ⊢
  rw [List.map_cons, List.sum_cons, List.map_cons, List.sum_cons]
  omega
theorem Jsl {a : AcE} (h : Wj a = 0) : wA a ≤ 1610 := by
 obtain ⟨_, _, _, h4, h5⟩ := Q1 h
 unfold wA; omega
theorem Jsm (s : List AcE) (hs : KR s = 0) (k : BS) : wA (Vq s k) ≤ 1610 := by
 unfold Vq
 cases h : Kj s k with
 | none => simp [wA, ac0]
 | some a => exact Jsl (Ys hs h).2
theorem Jsn {f : Int} {s t : List AcE} {r : Rec} (W : Wrote f s t r) : wS t ≤ wS s + 3220 := by
 have hs := (W8.1 W.new).2.2
 have hn : t.Nodup := by
  have := Jbl hs
  unfold List.Nodup at this ⊢
  rw [List.pairwise_map] at this
  exact this.imp fun h e => h (by rw [e])
 have h := Jxn (m := Vq t A0 :: Vq t A1 :: s) hn fun a ha => by
  have e2 : Kj t a.addr = some a := Zj hs ha
  by_cases h0 : a.addr = A0
  ·have : Vq t A0 = a := by unfold Vq; rw [← h0, e2]; rfl
   rw [this]; exact List.mem_cons_self
  by_cases h1 : a.addr = A1
  ·have : Vq t A1 = a := by unfold Vq; rw [← h1, e2]; rfl
   rw [this]; exact List.mem_cons_of_mem _ List.mem_cons_self
  rw [W.others a.addr h0 h1] at e2
  exact List.mem_cons_of_mem _ (List.mem_cons_of_mem _ (WZ e2).2)
 have g0 := Jsm t W.new A0
 have g1 := Jsm t W.new A1
 unfold wS at h ⊢
 rw [List.map_cons, List.sum_cons, List.map_cons, List.sum_cons] at h
 omega
theorem Jso {ts : List Nat} {t : Nat} {rc : Rec} {l s : List AcE} {f : Int} (h : GenOk ts t rc l s f) (hf : ZR l = true) : KR s = 0 ∧ Y6 (Za s) ≤ 20000 := by
 have W := qD h.wr
 obtain ⟨f1, f2, f3⟩ := Jkf hf
 obtain ⟨c1, c2, _⟩ := W8.1 h.chk
 have hp := List.mergeSort_perm l leA
 have hlk : ∀ a ∈ l, Wj a = 0 ∧ XQ a = true := fun a ha => ⟨c2 a (hp.mem_iff.2 ha), f2 a ha⟩
 have h1 := Jsk l hlk
 have h2 := Jsn W
 rw [show wS (Vr l) = wS l from Jkg hp] at h2
 have h3 := (W8.1 W.new).1
 exact ⟨W.new, by rw [Jsi W.new]; omega⟩
def WG (s : List AcE) : List AcE := [(Kj s A0).getD ac0]
theorem Jsp {f : Int} {s t : List AcE} {r : Rec} (W : Wrote f s t r) : KR (WG t) = 0 ∧ Y6 (Za (WG t)) ≤ 20000 := by
 obtain ⟨b, b1, b2, _⟩ := W.acct
 have e : WG t = [b] := by unfold WG; rw [b1]; rfl
 have hc : KR [b] = 0 := by rw [chk_one]; exact b2
 rw [e]
 refine ⟨hc, ?_⟩
 have := Jsl b2
 rw [Jsi hc]
 unfold wS
 simp only [List.map_cons, List.map_nil, List.sum_cons, List.sum_nil]
 omega
def yQ (f : Int) : Int := Jj4 (vl f 5)
def yw (ts : List Nat) (t : Nat) (rc : Rec) (l : List AcE) : BS × Int :=
 if (Vw ts t rc l).2.2 ≠ 0 then ([], (Vw ts t rc l).2.2) else (Xy t (Q3 (Vw ts t rc l).1).1, 0)
def Jbm (f : Int) (rc : Rec) : Nat := if yQ f = 1 then rc.number else 0
def ZS (ts : List Nat) (t : Nat) (rc : Rec) (l : List AcE) : BS × Int :=
 if (Vw ts t rc l).2.2 ≠ 0 then ([], (Vw ts t rc l).2.2) else
  Xx (yQ (Vw ts t rc l).2.1) [(Q3 (Vw ts t rc l).1).1, (Q3 (WG (Vw ts t rc l).1)).1, Xy t (Q3 (Vw ts t rc l).1).1] (Jbm (Vw ts t rc l).2.1 rc)
theorem Jz0 (f : Int) : yQ f = 0 ∨ yQ f = 1 := by
 unfold yQ Jj4
 by_cases h : (vl f 5) = []
 ·rw [h]; exact .inl rfl
 ·have hl : (vl f 5).length - 1 < (vl f 5).length := by have := List.length_pos_iff.2 h; omega
  have hm : (vl f 5).getD ((vl f 5).length - 1) 0 ∈ vl f 5 := by
   rw [List.getD_eq_getElem?_getD, List.getElem?_eq_getElem hl, Option.getD_some]; exact List.getElem_mem hl
  have hm2 := (List.mem_filter.1 hm).1
  simpa [qQ] using hm2
theorem xf {l : List AcE} (h : KR l = 0) (hn : ∀ a ∈ l, VK a.nonce) : (Q3 l).1.length = 32 ∧ (Q3 l).2 = 0 := by
 rw [Jes h (Jba h hn)]
 exact ⟨Xc _ _ 0 Jjk (Jba h hn), rfl⟩
theorem Jww {ts : List Nat} {t : Nat} (h : (Qv ts t).2 ≠ 0) : (Qv ts t).1 = 0 := by
 unfold Qv at h ⊢
 split
 ·rfl
 ·rename_i h1
  rw [if_neg h1] at h
  split
  ·rfl
  ·rename_i h2
   rw [if_neg h2] at h
   exact absurd rfl h
theorem Jg4 {ts : List Nat} {t : Nat} (h : (Qv ts t).2 = 0) : KA (Qv ts t).1 := by
 unfold Qv at h ⊢
 split at h
 ·rename_i h1; exact absurd h h1
 rename_i h1
 split at h
 ·cases h
 rename_i h2
 rw [if_neg h1, if_neg h2]
 have h3 := vD t ts
 have h4 : ts.length ≤ 6 := by
  have h1 := Decidable.not_not.1 h1
  unfold Jey at h1
  split at h1
  ·cases h1
  ·omega
 unfold KA
 simp only
 omega
theorem Jsq {f : Int} (h : KA f) : (KX f [] rec0).2 = 0 := by
 unfold KA at h
 rcases (show f = 0 ∨ f = 1 ∨ f = 2 ∨ f = 3 ∨ f = 4 ∨ f = 5 by omega) with rfl | rfl | rfl | rfl | rfl | rfl <;> decide +kernel
theorem Jmn (ts : List Nat) (t : Nat) : (Vw ts t rec0 []).2.1 = (Qv ts t).1 := by
 have e : Vr [] = [] := List.mergeSort_nil
 have e1 : Vs [] = 0 := by unfold Vs; rw [e, if_pos (show (List.map AcE.addr []).Nodup from List.nodup_nil)]; decide +kernel
 unfold Vw
 by_cases h : (Qv ts t).2 ≠ 0
 ·rw [if_pos h, Jww h]
 ·rw [if_neg h, e1, if_neg (by simp), e, Jsq (Jg4 (Decidable.not_not.1 h)), if_neg (by simp)]
def U1 : BS := [173, 50, 40, 182, 118, 247, 211, 205, 66, 132, 165, 68, 63, 23, 241, 150, 43, 54, 228, 145, 179, 10, 64, 178, 64, 88, 73, 229, 151, 186, 95, 181]
def U2 : BS := [180, 193, 25, 81, 149, 124, 111, 143, 100, 44, 74, 246, 28, 214, 178, 70, 64, 254, 198, 220, 127, 198, 7, 238, 130, 6, 169, 158, 146, 65, 13, 48]
def U3 : BS := [33, 221, 185, 163, 86, 129, 92, 63, 172, 16, 38, 182, 222, 197, 223, 49, 36, 175, 186, 219, 72, 92, 155, 165, 163, 227, 57, 138, 4, 183, 186, 133]
def U4 : BS := [229, 135, 105, 179, 42, 27, 234, 241, 234, 39, 55, 90, 68, 9, 90, 13, 31, 182, 100, 206, 45, 211, 88, 231, 252, 191, 183, 140, 38, 161, 147, 68]
def U5 : BS := [14, 176, 30, 191, 201, 237, 39, 80, 12, 212, 223, 201, 121, 39, 45, 31, 9, 19, 204, 159, 102, 84, 13, 126, 128, 5, 129, 17, 9, 225, 207, 45]
def Jwx : BS := [111, 110, 101, 0, 0, 0, 0, 0, 0, 0, 0, 0, 0, 0, 0, 0, 0, 0, 0, 0, 0, 0, 0, 0, 0, 0, 0, 0, 0, 0, 0, 0]
def UAd : BS := [66, 0, 0, 0, 0, 0, 0, 0, 0, 0, 0, 0, 0, 0, 0, 0, 0, 0, 0, 1, 0, 0, 0, 0, 0, 0, 0, 0, 0, 0, 0, 0]
def U6 : BS := [35, 243, 31, 87, 200, 20, 215, 123, 214, 192, 83, 67, 196, 40, 91, 130, 219, 75, 152, 38, 171, 132, 39, 130, 169, 132, 223, 125, 157, 106, 47, 69]
def U7 : BS := [131, 241, 113, 45, 226, 69, 37, 146, 43, 71, 20, 186, 3, 103, 171, 114, 46, 40, 106, 0, 255, 158, 222, 54, 24, 194, 237, 212, 173, 254, 220, 131]
def U8 : BS := [242, 186, 62, 27, 111, 140, 127, 23, 29, 217, 54, 77, 62, 57, 244, 120, 135, 65, 67, 42, 144, 41, 240, 241, 210, 153, 39, 8, 186, 55, 34, 213]
def U9 : BS := [33, 180, 236, 129, 209, 3, 231, 208, 120, 175, 195, 1, 158, 91, 71, 27, 49, 166, 79, 106, 42, 35, 105, 27, 30, 222, 120, 211, 167, 168, 139, 135]
def U10 : BS := [125, 225, 35, 91, 207, 235, 186, 242, 16, 196, 211, 228, 105, 77, 66, 123, 190, 229, 22, 9, 253, 235, 200, 196, 240, 97, 205, 75, 152, 210, 249, 126]
def U11 : BS := [50, 178, 115, 232, 148, 162, 253, 184, 200, 103, 108, 40, 44, 53, 250, 226, 67, 39, 85, 153, 173, 52, 25, 113, 190, 215, 6, 171, 166, 218, 61, 3]
def U12 : BS := [113, 204, 200, 86, 198, 253, 158, 85, 5, 131, 130, 73, 154, 154, 255, 0, 169, 41, 85, 96, 145, 202, 185, 51, 234, 104, 27, 232, 152, 96, 71, 248]
def U13 : BS := [132, 90, 164, 89, 164, 191, 80, 223, 178, 73, 159, 94, 140, 113, 233, 133, 102, 110, 174, 45, 34, 63, 195, 68, 238, 232, 104, 179, 81, 128, 234, 139]
def U14 : BS := [235, 114, 203, 217, 247, 64, 52, 193, 8, 30, 239, 190, 180, 198, 98, 176, 42, 249, 8, 173, 66, 240, 249, 56, 193, 75, 35, 171, 233, 208, 193, 195]
def U15 : BS := [164, 30, 190, 90, 41, 216, 190, 217, 85, 253, 216, 224, 7, 23, 171, 243, 88, 41, 83, 46, 207, 20, 69, 81, 243, 174, 71, 105, 10, 76, 147, 226]
def U16 : BS := [105, 102, 245, 27, 161, 222, 241, 181, 192, 86, 124, 98, 245, 190, 192, 54, 192, 63, 144, 3, 170, 4, 51, 225, 238, 10, 187, 77, 166, 236, 80, 115]
def U17 : BS := [10, 27, 235, 237, 66, 167, 30, 71, 6, 137, 246, 233, 78, 173, 243, 225, 156, 94, 59, 228, 197, 207, 199, 254, 209, 32, 79, 241, 25, 121, 182, 70]
def U18 : BS := [45, 63, 26, 239, 217, 230, 108, 101, 248, 231, 99, 101, 145, 158, 81, 76, 1, 45, 239, 215, 186, 35, 73, 247, 12, 176, 246, 235, 168, 152, 41, 208]
def U19 : BS := [83, 222, 232, 149, 76, 179, 109, 14, 136, 74, 190, 125, 178, 41, 59, 97, 160, 72, 246, 61, 180, 126, 236, 139, 6, 133, 137, 19, 179, 63, 187, 122]
def U20 : BS := [17, 238, 144, 76, 186, 158, 216, 91, 9, 196, 227, 243, 243, 253, 17, 83, 74, 68, 104, 161, 76, 150, 16, 48, 11, 32, 58, 250, 73, 27, 28, 188]
def U21 : BS := [220, 132, 225, 78, 18, 16, 82, 55, 250, 166, 171, 196, 184, 137, 66, 234, 243, 70, 30, 243, 118, 93, 157, 90, 173, 62, 193, 0, 44, 42, 179, 104]
def U22 : BS := [168, 203, 117, 212, 196, 131, 35, 196, 128, 0, 198, 72, 59, 250, 217, 105, 45, 64, 183, 82, 19, 160, 167, 124, 155, 84, 205, 96, 106, 220, 133, 188]
def U23 : BS := [226, 171, 200, 37, 18, 134, 109, 196, 173, 119, 38, 26, 229, 87, 194, 26, 95, 114, 197, 167, 124, 172, 103, 224, 254, 45, 15, 145, 239, 132, 203, 46]
def ULe : BS := [6, 0, 0, 0, 0, 0, 0, 0]
def U24 : BS := [42, 123, 160, 192, 217, 163, 200, 255, 136, 106, 193, 125, 8, 79, 43, 190, 169, 215, 147, 160, 73, 244, 233, 147, 58, 4, 119, 152, 128, 29, 116, 250]
def UHd : BS := [0, 0, 0, 0, 0, 0, 0, 0, 0, 0, 0, 0, 0, 0, 0, 0, 0, 0, 0, 0, 0, 0, 0, 0, 0, 0, 0, 0, 0, 0, 0, 0]
def U25 : BS := [156, 238, 190, 167, 74, 13, 235, 10, 52, 177, 34, 104, 132, 238, 41, 29, 152, 1, 252, 49, 101, 106, 191, 80, 101, 242, 97, 240, 51, 57, 169, 37]
theorem uq1 : W5 (z32 ++ z32) = U1 := by decide +kernel
theorem uq2 : W5 (U1 ++ U1) = U2 := by decide +kernel
theorem uq3 : W5 (U2 ++ U2) = U3 := by decide +kernel
theorem uq4 : W5 (U3 ++ U3) = U4 := by decide +kernel
theorem uq5 : W5 (U4 ++ U4) = U5 := by decide +kernel
theorem uq6 : W5 (Jwx ++ z32) = U6 := by decide +kernel
theorem uq7 : W5 (U6 ++ U1) = U7 := by decide +kernel
theorem uq8 : W5 (U7 ++ U2) = U8 := by decide +kernel
theorem uq9 : W5 (U8 ++ U3) = U9 := by decide +kernel
theorem J28 : Yx U9 3 = U10 := by decide +kernel
theorem J29 : Yx U4 0 = U11 := by decide +kernel
theorem J3a : W5 (UAd ++ z32) = U12 := by decide +kernel
theorem J3b : W5 (z32 ++ U10) = U13 := by decide +kernel
theorem J3c : W5 (U11 ++ z32) = U14 := by decide +kernel
theorem J3d : W5 (U12 ++ U13) = U15 := by decide +kernel
theorem J3e : W5 (U14 ++ U1) = U16 := by decide +kernel
theorem J3f : W5 (U15 ++ U16) = U17 := by decide +kernel
theorem J3g : W5 (U17 ++ z32) = U18 := by decide +kernel
theorem J3h : W5 (U18 ++ U1) = U19 := by decide +kernel
theorem J3i : W5 (U19 ++ U2) = U20 := by decide +kernel
theorem J3j : W5 (U20 ++ U3) = U21 := by decide +kernel
theorem J3k : W5 (U21 ++ U4) = U22 := by decide +kernel
theorem J3l : Yx U22 1 = U23 := by decide +kernel
theorem J3m : W5 (ULe ++ U23) = U24 := by decide +kernel
theorem J3n : W5 (UHd ++ [U23, U23, U24].flatten) = U25 := by decide +kernel
theorem jV (k : Nat) (a z : BS) : V4 (k + 1) [a] z = V4 k [W5 (a ++ z)] (W5 (z ++ z)) := rfl
theorem Jkh (k : Nat) (z : BS) : V4 (k + 1) [] z = V4 k [] (W5 (z ++ z)) := rfl
theorem J1z (k : Nat) (a b z : BS) : V4 (k + 1) [a, b] z = V4 k [W5 (a ++ b)] (W5 (z ++ z)) := by rw [V4]; simp [Qo, SL.pairUp]
theorem J10 (k : Nat) (a b c z : BS) : V4 (k + 1) [a, b, c] z = V4 k [W5 (a ++ b), W5 (c ++ z)] (W5 (z ++ z)) := by rw [V4]; simp [Qo, SL.pairUp]
theorem J11 (k : Nat) (a b c d e z : BS) : V4 (k + 1) [a, b, c, d, e] z = V4 k [W5 (a ++ b), W5 (c ++ d), W5 (e ++ z)] (W5 (z ++ z)) := by rw [V4]; simp [Qo, SL.pairUp]
theorem Jsr (a z : BS) : V4 0 [a] z = a := rfl
theorem J12 (z : BS) : V4 0 [] z = z := rfl
theorem xg {l : List Vl} {x : Ty} {n : Int} (hx : Xv x = false) : KS (KY l 0) (.mk 4 n none [x]) = Yx (Ve (Ka l 4 0 [x] 0) n.toNat) l.length := by
 unfold KY
 rw [Xw, if_neg (by decide), if_pos rfl]
 unfold WS
 rw [if_neg (by decide), if_neg (by rw [show [x].getD 0 default = x from rfl, hx]; decide)]
theorem Jss {l : List Vl} {ins : List Ty} : KS (KY l 0) (.mk 7 0 none ins) = Ve (Ka l 7 0 ins 0) ins.length := by
 unfold KY
 rw [Xw, if_neg (by decide), if_neg (by decide), if_neg (by decide), if_neg (by decide), if_neg (by decide)]
 unfold WS
 rw [if_pos rfl]
def b25 : AcE := ⟨A0, 0, w40, cOne, []⟩
theorem Jmp : KS (yN cOne) (X0 4 512) = U10 := by
 have e1 : WS 4 512 [byT] (cOne.map ZV) (Ka (cOne.map ZV) 4 0 [byT] 0) = Ve [Jwx] 16 := by
  unfold WS
  rw [if_neg (by decide), if_pos (by decide +kernel), show Y0 (WR (cOne.map ZV) ([byT].getD 0 default)) = [Jwx] by decide +kernel, show ((512 : Int).toNat * (KV ([byT].getD 0 default)).toNat + 31) / 32 = 16 by decide +kernel]
 have e2 : Ve [Jwx] 16 = U9 := by
  rw [← jB (by decide), show lg 16 = 4 by decide +kernel, jV, uq6, uq1, jV, uq7, uq2, jV, uq8, uq3, jV, uq9, uq4, Jsr]
 unfold yN KY X0
 rw [Xw, if_neg (by decide), if_pos rfl]
 show Yx (WS 4 512 [byT] (cOne.map ZV) (Ka (cOne.map ZV) 4 0 [byT] 0)) 3 = _
 rw [e1, e2, J28]
theorem Jst : KS (yN A0) (X0 3 20) = UAd := by decide +kernel
theorem Jg6 : KS (KY [] 0) (.mk 4 16 none [Jau]) = U11 := by
 rw [xg (by decide +kernel)]
 show Yx (Ve [] 16) 0 = _
 rw [← jB (by decide), show lg 16 = 4 by decide +kernel, Jkh, uq1, Jkh, uq2, Jkh, uq3, Jkh, uq4, J12, J29]
theorem Jwy : KS (acV b25) acT = U17 := by
 unfold acV acT
 rw [Jss]
 show Ve [KS (yN A0) (X0 3 20), KS (.mk 0 0 0 0 [] none [] none 0) (.mk 1 8 none []), KS (.mk 0 0 0 0 [] none [] none 0) (.mk 1 32 none []), KS (yN cOne) (X0 4 512), KS (KY [] 0) (.mk 4 16 none [Jau])] 5 = _
 rw [Jst, Jmp, Jg6, show KS (.mk 0 0 0 0 [] none [] none 0) (.mk 1 8 none []) = z32 by decide +kernel, show KS (.mk 0 0 0 0 [] none [] none 0) (.mk 1 32 none []) = z32 by decide +kernel, ← jB (by decide), show lg 5 = 3 by decide +kernel, J11, J3a, J3b, J3c, uq1, J10, J3d, J3e, uq2, J1z, J3f, Jsr]
theorem Jsu : KS (Za [b25]) qp = U23 := by
 unfold Za qp
 rw [xg (by decide +kernel)]
 show Yx (Ve [KS (acV b25) acT] 32) 1 = _
 rw [Jwy, ← jB (by decide), show lg 32 = 5 by decide +kernel, jV, J3g, uq1, jV, J3h, uq2, jV, J3i, uq3, jV, J3j, uq4, jV, J3k, uq5, Jsr, J3l]
theorem J13 : KR [b25] = 0 := by decide +kernel
theorem J14 : Q3 [b25] = (U23, 0) := by rw [Jes J13 (by decide +kernel), Jsu]
theorem J15 : Xy 6 U23 = U24 := by
 unfold Xy
 rw [show (yI 6 8).1 = ULe by decide +kernel, J3m]
theorem J3o : yQ 0 = 0 := by decide +kernel
theorem J3p : Xx 0 [U23, U23, U24] 0 = (U25, 0) := by
 have e : W1 0 [U23, U23, U24] 0 = (UHd ++ [U23, U23, U24].flatten, 0) := by decide +kernel
 unfold Xx
 rw [e, if_pos rfl, J3n]
theorem J3q : U24 ≠ U25 := by decide +kernel
theorem Je3 {l m : List AcE} (h : m.Perm l) (hp : m.Pairwise fun x y => leA x y = true) (hn : (l.map AcE.addr).Nodup) : Vr l = m := by
 have h1 : (Vr l).Perm l := List.mergeSort_perm _ _
 exact List.Perm.eq_of_pairwise (fun x y hx hy a b => Jkc hn (h1.mem_iff.1 hx) (h.mem_iff.1 hy) (yu a b)) (List.pairwise_mergeSort zV zX _) hp (h1.trans h.symm)
def yC (b : BS) : AcE := ⟨b, 0, w40, [], []⟩
def yx : BS := List.replicate 20 0
def m25 : BS := 98 :: List.replicate 19 0
theorem Jz1 : Vw [5, 9] 6 rec0 [] = ([b25], 0, 0) := by
 have e : Vr [] = [] := Je3 (List.Perm.refl _) List.Pairwise.nil List.nodup_nil
 have e1 : Vs [] = 0 := by unfold Vs; rw [e]; decide +kernel
 unfold Vw
 rw [e1, e, show Qv [5, 9] 6 = (0, 0) by decide +kernel, show KX 0 [] rec0 = ([b25], 0) by decide +kernel]
 rfl
theorem J3r : Vw [5, 9] 6 rec0 [yC m25, yC yx] = ([yC yx, b25, yC m25], 0, 0) := by
 have hn : ([yC m25, yC yx].map AcE.addr).Nodup := by decide +kernel
 have e : Vr [yC m25, yC yx] = [yC yx, yC m25] := Je3 (List.Perm.swap _ _ _) (by decide +kernel) hn
 have e1 : Vs [yC m25, yC yx] = 0 := by unfold Vs; rw [if_pos hn, e]; decide +kernel
 unfold Vw
 rw [e1, e, show Qv [5, 9] 6 = (0, 0) by decide +kernel, show KX 0 [yC yx, yC m25] rec0 = ([yC yx, b25, yC m25], 0) by decide +kernel]
 rfl
theorem J3s : Vw [5, 9] 6 rec0 [yC m25, yC yx, yC yx] = ([], 0, 13) := by
 have e1 : Vs [yC m25, yC yx, yC yx] = 13 := by unfold Vs; rw [if_neg (by decide +kernel)]
 unfold Vw
 rw [e1, show Qv [5, 9] 6 = (0, 0) by decide +kernel]
 rfl
theorem J3t (l : List AcE) : Vw [5, 9] 4 rec0 l = ([], 0, 10) := by
 unfold Vw
 rw [show Qv [5, 9] 4 = (0, 10) by decide +kernel]
 rfl
theorem J3u : yw [5, 9] 6 rec0 [] = (U24, 0) := by
 unfold yw
 rw [Jz1]
 show (if (0 : Int) ≠ 0 then _ else (Xy 6 (Q3 [b25]).1, 0)) = _
 rw [if_neg (by simp), J14, J15]
theorem J3v : ZS [5, 9] 6 rec0 [] = (U25, 0) := by
 have e : WG [b25] = [b25] := by decide +kernel
 unfold ZS
 rw [Jz1]
 show (if (0 : Int) ≠ 0 then _ else Xx (yQ 0) [(Q3 [b25]).1, (Q3 (WG [b25])).1, Xy 6 (Q3 [b25]).1] (Jbm 0 rec0)) = _
 rw [if_neg (by simp), e, J14, J3o, J15, show Jbm 0 rec0 = 0 by decide +kernel]
 exact J3p
structure BldR (R : Jm) (e : List AcE × Int × Int) : Type where
  s : StL
  f : Int
  err : Int
  L : Jm
  ok : s.In (L ++ R)
  eq : (s.er, f, err) = e
def BldR.val {R : Jm} {e : List AcE × Int × Int} (x : BldR R e) : Value := .tuple #[x.s.val, .int .i64 x.f, .int .i64 x.err]
structure BSt : Type where
  i : Nat
  n : Nat
  p : Pl
  f : Int
  L : Jm
def BSt.ok (R : Jm) (g : GenL) (b : BSt) : Prop :=
 (b.i = 0 ∧ b.n = 0 ∧ b.p = none ∧ b.f = 0 ∧ b.L = []) ∨
 (b.i = 1 ∧ b.n = 0 ∧ b.p = none ∧ b.f = (Qv g.ts g.time).1 ∧ (Qv g.ts g.time).2 = 0 ∧ b.L = []) ∨
 (b.i = 2 ∧ b.f = (Qv g.ts g.time).1 ∧ (Qv g.ts g.time).2 = 0 ∧ ∃ x : Step2R g, Jg3 x.ys.1 = 0 ∧ b.n = x.ys.1.length ∧ b.p = Vd x.row ∧ b.L = x.L) ∨
 (b.i = 3 ∧ b.f = (Qv g.ts g.time).1 ∧ (Qv g.ts g.time).2 = 0 ∧ Vs (g.accts.map AcL.er) = 0 ∧ ∃ s : StL, s.In (b.L ++ R) ∧ b.n = s.accts.length ∧ b.p = s.p ∧ (s.er, (0 : Int)) = KX b.f (Vr (g.accts.map AcL.er)) g.rc)
theorem Jz2 {ts : List Nat} {t : Nat} {rc : Rec} {l : List AcE} (h : (Qv ts t).2 = 0) (h2 : Vs l ≠ 0) : Vw ts t rc l = ([], 0, Vs l) := by unfold Vw; rw [if_neg (by simpa using h), if_pos h2]
theorem Jsv {ts : List Nat} {t : Nat} {rc : Rec} {l : List AcE} (h : (Qv ts t).2 = 0) (h2 : Vs l = 0) : Vw ts t rc l = if (KX (Qv ts t).1 (Vr l) rc).2 ≠ 0 then ([], 0, (KX (Qv ts t).1 (Vr l) rc).2) else ((KX (Qv ts t).1 (Vr l) rc).1, (Qv ts t).1, 0) := by
 unfold Vw; rw [if_neg (by simpa using h), if_neg (by simpa using h2)]
structure BStep (R : Jm) (g : GenL) (b : BSt) : Type where
  n : Nat
  p : Pl
  f : Int
  err : Int
  L : Jm
  ok : err = 0 → BSt.ok R g ⟨b.i + 1, n, p, f, L ++ b.L⟩
  bad : err ≠ 0 → Vw g.ts g.time g.rc g.ac = ([], 0, err)
def fnN (i : Nat) : FuncId := if i = 0 then 70 else if i = 1 then 72 else 80
theorem Jg7 (i : Nat) : Enters Tryz.prog (fnN i) := by
 unfold fnN
 split
 ·exact enters_of Tryz.func70 (by kernel_rfl) rfl
 ·split
  ·exact enters_of Tryz.func72 (by kernel_rfl) rfl
  ·exact enters_of Tryz.func80 (by kernel_rfl) rfl
theorem Jsw {l : List AcE} (h : Vs l = 0) : (l.map AcE.addr).Nodup := by
 unfold Vs at h
 split at h
 ·assumption
 ·cases h
theorem Jwz {R : Jm} {g : GenL} (hg : g.In R) (hf : g.accts.length ≤ 1000) {b : BSt} (hb : b.ok R g) (hi : b.i < 3) (rp W : Nat) :
  PureT (α := BStep R g b) Tryz.prog (fnN b.i) [Qd rp 0].toArray (fun y => .int .i64 y.err) [yP W g b.n b.p b.f] (fun y => yP W g y.n y.p y.f :: y.L) (rpB rp W :: (b.L ++ R)) := by
 obtain ⟨i, n, p, f, L⟩ := b
 rcases hb with ⟨h1, h2, h3, h4, h5⟩ | ⟨h1, h2, h3, h4, h5, h6⟩ | ⟨h1, h2, h3, x, h4, h5, h6, h7⟩ | ⟨h1, _⟩
 ·simp only at h1 h2 h3 h4 h5
  subst h1 h2 h3 h4 h5; exact (Jwt hg rp W 0 none 0).map (fun _ => ⟨0, none, (Qv g.ts g.time).1, (Qv g.ts g.time).2, [], fun h => .inr (.inl ⟨rfl, rfl, rfl, rfl, h, rfl⟩), fun h => by unfold Vw; rw [if_pos h]⟩) (fun _ => rfl) fun _ => List.Sublist.refl _
 ·simp only at h1 h2 h3 h4 h6
  subst h1 h2 h3 h4 h6
  exact (Jwv hg hf rp W 0 none _).map (fun x => ⟨x.ys.1.length, Vd x.row, (Qv g.ts g.time).1, Jg3 x.ys.1, x.L, fun h => .inr (.inr (.inl ⟨rfl, rfl, h5, x, h, rfl, rfl, List.append_nil _⟩)), fun h => by
   have h2 : Vs g.ac ≠ 0 := by rw [Jbk] at h; exact h
   rw [Jbk]; exact Jz2 h5 h2⟩) (fun _ => rfl) fun _ => List.Sublist.refl _
 ·simp only at h1 h2 h5 h6 h7
  subst h1 h2 h5 h6 h7
  have he : Vs g.ac = 0 := by rw [← h4, Jbk]; rfl
  have hs : x.st.er = Vr g.ac := x.ys.uniq (Jsw he)
  have hq : KX (Qv g.ts g.time).1 x.st.er g.rc = KX (Qv g.ts g.time).1 (Vr g.ac) g.rc := by rw [hs]
  exact (Jwu (hg.mono fun q hq => List.mem_append_right _ hq) (Je2 hg x) rp W _).map (fun y => ⟨y.s.accts.length, y.s.p, (Qv g.ts g.time).1, y.err, y.L, fun h => .inr (.inr (.inr ⟨rfl, rfl, h3, he, y.s, by
    show y.s.In (y.L ++ x.L ++ R)
    rw [List.append_assoc]; exact y.ok, rfl, rfl, by
    have e := y.eq.trans hq
    rw [h] at e; exact e⟩)), fun h => by
   have e := y.eq.trans hq
   rw [Jsv h3 he, ← e, if_pos h]⟩) (fun _ => rfl) fun _ => List.Sublist.refl _
 ·simp only at h1 hi; omega
def Jsx (rq rp : Nat) : Nat × Obj := (rq, .cells #[.func (.func 70) #[] #[Qd rp 0], .func (.func 72) #[] #[Qd rp 0], .func (.func 80) #[] #[Qd rp 0]] 73 (0, 0))
theorem WV {R : Jm} {g : GenL} (hg : g.In R) (hf : g.accts.length ≤ 1000) : PureT (α := BldR R (Vw g.ts g.time g.rc g.ac)) Tryz.prog 11 [g.val].toArray (fun x => x.val) [] (fun x => x.L) R := by
 refine Jt Tryz.func11 rfl rfl fun w => ?_; refine J8 ?_; refine Jo 2 rfl ?_; refine JS (cs := g.cells.toArray) rfl rfl rfl rfl fun r1 => ?_; refine LN rfl fun r2 => ?_; refine JC 6 rfl ?_; refine LR rfl (Jb (xs := g.cells) (n := 20) rfl (kn 1 rfl) rfl rfl rfl) ?_; refine LR rfl (Js (r := [_, _, _, _, _, _, _, _, _, _, _, _, _, _, _, _, _, _, _, _, _, _]) rfl rfl) ?_; refine JS (cs := (wkC g 0 none 0).toArray) rfl rfl rfl rfl fun W => ?_; refine JC 7 rfl ?_; refine JJ rfl rfl rfl (enters_of Tryz.func30 (by kernel_rfl) rfl) (Jwp W) fun pp => ?_
 obtain ⟨rp, rq⟩ := pp
 change HL _ _ _ (Jsx rq rp :: rpB rp W :: yP W g 0 none 0 :: (r2, _) :: (r1, _) :: []) _ _ _ _; refine LR rfl (JU rfl rfl) ?_; refine JI 4 rfl ?_; refine J1 (σ := BSt) (fun b => b.ok R g ∧ b.i ≤ 3) (fun b => [(2, Qd r2 0), (3, .int .i64 0), (4, .int .i64 0), (5, Qd W 0), (13, .slice (some ⟨rq, 0, none⟩) 3 3), (14, .int .i64 3), (15, .int .i64 (b.i : Int))]) (fun b => Jsx rq rp :: rpB rp W :: yP W g b.n b.p b.f :: (r2, .cells #[KP 0 none] 36 (0, 0)) :: (r1, .cells g.cells.toArray 32 (0, 0)) :: b.L) (fun _ _ _ => True) (fun b => 3 - b.i) ⟨0, 0, none, 0, []⟩ ⟨.inl ⟨rfl, rfl, rfl, rfl, rfl⟩, Nat.zero_le _⟩ (lK rfl) (List.Sublist.refl _) (fun _ _ h => h) ?_; rintro b ⟨hok, hi1⟩; refine JP 6 rfl ?_; refine cD (fun h7 => ?_) fun h7 => ?_
 ·refine JP 5 rfl ?_
  have hb3 : b.i < 3 := by omega
  have hi3 : b.i = 0 ∨ b.i = 1 ∨ b.i = 2 := by omega
  refine Jo 1 rfl ?_; refine LR rfl (JH (j := b.i) (m := 1) (off' := b.i) rfl rfl rfl rfl rfl hb3 (by omega)) ?_
  refine LR rfl (Jh (v := .func (.func (fnN b.i)) #[] #[Qd rp 0]) rfl (kn 0 rfl) rfl (by rcases hi3 with h | h | h <;> rw [h] <;> rfl)) ?_; refine JC 6 rfl ?_; refine Qh (T := [yP W g b.n b.p b.f]) (L0 := Jsx rq rp :: rpB rp W :: (r2, _) :: (r1, _) :: b.L) (Rl := rpB rp W :: (b.L ++ R)) (List.perm_middle (l₁ := [_, _])) rfl rfl rfl (Jg7 b.i) (Jwz hg hf hok hb3 rp W) (fun q hq => (List.mem_cons.1 hq).elim (fun h => .inl (by rw [h]; exact List.mem_cons_of_mem _ List.mem_cons_self)) fun hq => (List.mem_append.1 hq).elim (fun h => .inl (List.mem_cons_of_mem _ (List.mem_cons_of_mem _ (List.mem_cons_of_mem _ (List.mem_cons_of_mem _ h))))) .inr) fun y => ?_; refine JY (((QD y.L [_, _, _, _] b.L).cons _).trans (List.perm_middle (l₁ := [_, _])).symm) ?_; change HL _ _ _ (Jsx rq rp :: rpB rp W :: yP W g y.n y.p y.f :: (r2, _) :: (r1, _) :: (y.L ++ b.L)) _ _ _ _; refine JI 9 rfl ?_; refine cD (fun h12 => ?_) fun h12 => ?_
  refine Jo 2 rfl ?_; refine LR rfl (Js (r := [_]) rfl rfl) ?_; refine Qx rfl ?_
  refine LT 3 rfl rfl ?_; refine Jx 10 rfl ?_; refine Jf rfl rfl (.cons (Jq (vs := [_]) rfl (kn 3 rfl) rfl rfl) (.cons (Jj rfl) (.cons (Jj rfl) .nil))) (fun w1 hs1 => ?_)
  (have hbad := y.bad (by omega)
   exact ⟨⟨st0L, 0, y.err, [], Jfx, hbad.symm⟩, rfl, hs1.weakL (List.nil_sublist _)⟩)
  refine Jo 5 rfl ?_; refine Je (by omega) (by omega) ?_; refine Jx 2 rfl ?_; refine Jz ?_; exact Jv ⟨b.i + 1, y.n, y.p, y.f, y.L ++ b.L⟩ ⟨y.ok (by omega), by show b.i + 1 ≤ 3; omega⟩ (by show 3 - (b.i + 1) < 3 - b.i; omega) (lK rfl) (List.Sublist.refl _) (fun _ _ h => h)
 ·refine JP 6 rfl ?_; refine JL [yP W g b.n b.p b.f] [(0, .pure), (1, .pure), (2, .pure), (3, .pure), (4, .pure), (5, .pure), (6, .pure), (7, .pure), (8, .turn), (9, .pure), (10, .pure)] 11 [0, 1, 2, 3, 4, 5, 6, 7, 8, 9, 10] (by kernel_rfl) (by kernel_rfl) (fun q hq => by rw [List.mem_singleton.1 hq]; exact List.mem_cons_of_mem _ (List.mem_cons_of_mem _ List.mem_cons_self)) ?_; refine Jn (k := 0) rfl rfl rfl rfl rfl (fun _ hS => (Ji rfl)) ?_; refine Jn (k := 1) rfl rfl rfl rfl rfl (fun _ hS => (J0 rfl rfl rfl)) ?_
  refine Jn (k := 2) rfl rfl rfl rfl rfl (fun _ hS => (JD rfl rfl rfl)) ?_; refine Jn (k := 3) rfl rfl rfl rfl rfl (fun _ hS => (Jp (vs := [_]) rfl (.inl (hS _ (Jr (n := 0) rfl))) rfl rfl rfl rfl)) ?_; refine Jn (k := 4) rfl rfl rfl rfl rfl (fun _ hS => (Ji rfl)) ?_; refine Jn (k := 5) rfl rfl rfl rfl rfl (fun _ hS => (J0 rfl rfl rfl)) ?_
  refine Jn (k := 6) rfl rfl rfl rfl rfl (fun _ hS => (JD rfl rfl rfl)) ?_; refine Jn (k := 7) rfl rfl rfl rfl rfl (fun _ hS => (Jh rfl (.inl (hS _ (Jr (n := 0) rfl))) rfl rfl)) ?_; refine zO (k := 8) (q := 3) (n := 1) (off := 0) (vs := #[KP b.n b.p]) (E' := Jsx rq rp :: rpB rp W :: yP W g b.n b.p b.f :: (r2, _) :: (r1, _) :: b.L) (cs' := #[KP b.n b.p]) rfl rfl rfl rfl rfl rfl rfl rfl rfl (by exact Nat.le_of_ble_eq_true rfl) rfl rfl (fun q hq => by rw [List.mem_singleton.1 hq]; exact List.mem_cons_of_mem _ (List.mem_cons_of_mem _ List.mem_cons_self)) ?_; refine Jn (k := 9) rfl rfl rfl rfl rfl (fun _ hS => (J9 rfl)) ?_; refine Jn (k := 10) rfl rfl rfl rfl rfl (fun _ hS => (J9 rfl)) ?_; refine Ko ?_; refine Jx 3 rfl ?_; refine Jf rfl rfl (.cons (Jq (vs := [_]) rfl (kn 3 rfl) rfl rfl) (.cons (Jj rfl) (.cons (Jj rfl) .nil))) (fun w1 hs1 => ?_)
  (rcases hok with ⟨h1, _⟩ | ⟨h1, _⟩ | ⟨h1, _⟩ | ⟨h1, h2, h3, h4, s, h5, h6, h7, h8⟩
   omega
   omega
   omega
   ·refine ⟨⟨s, b.f, 0, b.L, h5, ?_⟩, ?_, hs1.weakL (List.sublist_append_right [_, _, _, _, _] _)⟩
    have h9 : (s.er, (0 : Int)) = KX b.f (Vr g.ac) g.rc := h8
    have h10 : Vs g.ac = 0 := h4
    rw [Jsv h3 h10, ← h2, ← h9, if_neg (by simp)]
    ·rw [h6, h7]; rfl)
theorem yy {R : Jm} {s : StL} (hs : s.In R) : ∀ a ∈ s.er, VK a.nonce := fun a ha => by
 obtain ⟨b, hb, rfl⟩ := List.mem_map.1 ha
 exact (hs.accts b hb).nonce
theorem Jbn {R : Jm} {ts : List Nat} {t : Nat} {rc : Rec} {l : List AcE} (x : BldR R (Vw ts t rc l)) (h : x.err = 0) : GenOk ts t rc l x.s.er x.f := Jzz (x.eq.symm.trans (by rw [h]))
theorem yz {g : GenL} (hf : ZR g.ac = true) : g.accts.length ≤ 40 := by
 have := (Jkf hf).1
 unfold GenL.ac at this
 rwa [List.length_map] at this
theorem Jbo {l : List AcE} (h : KR l = 0) (hn : ∀ a ∈ l, VK a.nonce) : ∃ s : BS, Q3 l = (s, 0) ∧ s.length = 32 := ⟨(Q3 l).1, Prod.ext rfl (xf h hn).2, (xf h hn).1⟩
theorem xh {ts : List Nat} {t : Nat} {rc : Rec} {l s : List AcE} {f e : Int} (h : (s, f, e) = Vw ts t rc l) (he : e ≠ 0) : yw ts t rc l = ([], e) ∧ ZS ts t rc l = ([], e) := by
 constructor
 ·unfold yw; rw [← h, if_pos he]
 ·unfold ZS; rw [← h, if_pos he]
theorem Jsy {ts : List Nat} {t : Nat} {rc : Rec} {l s : List AcE} {f e : Int} (h : (s, f, e) = Vw ts t rc l) (he : e = 0) {rt : BS} (hr : Q3 s = (rt, 0)) : yw ts t rc l = (Xy t rt, 0) := by
 unfold yw; rw [← h, if_neg (by simpa using he)]
 show (Xy t (Q3 s).1, (0 : Int)) = _
 rw [hr]
theorem Jmr {ts : List Nat} {t : Nat} {rc : Rec} {l s : List AcE} {f e : Int} (h : (s, f, e) = Vw ts t rc l) (he : e = 0) {rt st : BS} (hr : Q3 s = (rt, 0)) (hs : Q3 (WG s) = (st, 0)) : ZS ts t rc l = Xx (yQ f) [rt, st, Xy t rt] (Jbm f rc) := by
 unfold ZS; rw [← h, if_neg (by simpa using he)]
 show Xx (yQ f) [(Q3 s).1, (Q3 (WG s)).1, Xy t (Q3 s).1] (Jbm f rc) = _
 rw [hr, hs]
theorem yA (s : StL) (rv : Nat) : StL.er ⟨[Kt s A0], some (⟨rv, 0, none⟩, 1)⟩ = WG s.er := by
 show [(Kt s A0).er] = WG s.er
 unfold WG
 rw [j9]
theorem Jz3 {R : Jm} {g : GenL} (hg : g.In R) (hf : ZR g.ac = true) : PureR Tryz.prog 14 [g.val].toArray (Zy (yw g.ts g.time g.rc g.ac)) R := by
 have hl := yz hf
 refine Ja Tryz.func14 rfl rfl fun w => ?_; refine J8 ?_; refine Jo 2 rfl ?_; refine JS (cs := g.cells.toArray) rfl rfl rfl rfl fun r1 => ?_; refine JC 6 rfl ?_; refine LR rfl (Jb (xs := g.cells) (n := 20) rfl (kn 0 rfl) rfl rfl rfl) ?_; refine Ke rfl rfl rfl Jae (WV hg (by omega)) oR fun x => ?_; refine JY List.perm_append_comm ?_; change HL _ _ ((10, .tuple #[x.s.val, .int .i64 x.f, .int .i64 x.err]) :: _) ((r1, _) :: x.L) _ _ _ _; refine LS 4 [] rfl rfl ?_; refine LN rfl fun r4 => ?_; refine Jc (k := 0) (n := 1) (ys := x.s.cells) rfl rfl rfl rfl rfl rfl rfl rfl rfl ?_; refine JI 11 rfl ?_; refine cD (fun h5 => ?_) fun h5 => ?_
 refine JP 1 rfl ?_
 have hbad := xh x.eq (by omega)
 refine Kn 8 rfl ?_; refine Jf rfl rfl (.cons (Jj rfl) (.cons (Jj rfl) .nil)) (fun w1 hs1 => ?_)
 (refine ⟨?_, hs1.keep⟩
  rw [hbad.1]; rfl)
 ·refine JP 3 rfl ?_
  have he : x.err = 0 := by omega
  obtain ⟨hck, hw⟩ := Jso (Jbn x he) hf
  obtain ⟨rt, hrt, hrl⟩ := Jbo hck (yy x.ok)
  have hG := Jsy x.eq he hrt
  refine Jo 1 rfl ?_; refine LR rfl (Jb (xs := x.s.cells) (n := 1) rfl (kn 0 rfl) rfl rfl rfl) ?_; refine Jg rfl rfl rfl Jyi (yi (R := x.L ++ R) x.ok (fun _ => hw)) (fun q hq => (List.mem_append.1 hq).elim (fun h => Or.inl (List.mem_cons_of_mem _ (List.mem_cons_of_mem _ h))) (fun hq => Or.inr hq)) ?_; refine J2 (congrArg Zy hrt) ?_; refine Xj 12 [1] rfl rfl ?_; refine Jl rfl rfl rfl Jyj (Jbi (root := rt) hg.time (by omega)) ?_; refine Jx 6 rfl ?_; refine Jf rfl rfl (.cons (Jj rfl) (.cons (Jj rfl) .nil)) (fun w1 hs1 => ?_)
  (refine ⟨?_, hs1.keep⟩
   rw [hG]; rfl)
theorem Jw0 {R : Jm} {g : GenL} (hg : g.In R) (hf : ZR g.ac = true) : PureR Tryz.prog 16 [g.val].toArray (Zy (ZS g.ts g.time g.rc g.ac)) R := by
 have hl := yz hf
 have hn0 : g.rc.number < 18446744073709551616 := hg.rc.1
 refine Ja Tryz.func16 rfl rfl fun w => ?_; refine J8 ?_; refine Jo 2 rfl ?_; refine JS (cs := g.cells.toArray) rfl rfl rfl rfl fun r1 => ?_; refine JC 6 rfl ?_; refine LR rfl (Jb (xs := g.cells) (n := 20) rfl (kn 0 rfl) rfl rfl rfl) ?_; refine Ke rfl rfl rfl Jae (WV hg (by omega)) oR fun x => ?_; refine JY List.perm_append_comm ?_; change HL _ _ ((18, .tuple #[x.s.val, .int .i64 x.f, .int .i64 x.err]) :: _) ((r1, _) :: x.L) _ _ _ _; refine LS 4 [] rfl rfl ?_; refine LN rfl fun r4 => ?_; refine Jc (k := 0) (n := 1) (ys := x.s.cells) rfl rfl rfl rfl rfl rfl rfl rfl rfl ?_; refine JI 11 rfl ?_; refine cD (fun h5 => ?_) fun h5 => ?_
 refine JP 1 rfl ?_
 have hbad := xh x.eq (by omega)
 refine Kn 8 rfl ?_; refine Jf rfl rfl (.cons (Jj rfl) (.cons (Jj rfl) .nil)) (fun w1 hs1 => ?_)
 (refine ⟨?_, hs1.keep⟩
  rw [hbad.2]; rfl)
 ·refine JP 3 rfl ?_
  have he : x.err = 0 := by omega
  have hok := Jbn x he
  obtain ⟨hck, hw⟩ := Jso hok hf
  obtain ⟨hck2, hw2⟩ := Jsp (qD hok.wr)
  obtain ⟨rt, hrt, hrl⟩ := Jbo hck (yy x.ok)
  obtain ⟨st, hst, hsl⟩ := Jbo hck2 (by rw [← yA x.s 0]; exact yy (Jrp (jA x.ok A0) 0))
  have hC := Jmr x.eq he hrt hst
  obtain ⟨v, hv⟩ : ∃ v, v = yQ x.f := ⟨_, rfl⟩
  have hv01 := Jz0 x.f
  rw [← hv] at hC hv01; refine Jo 1 rfl ?_; refine LR rfl (Jb (xs := x.s.cells) (n := 1) rfl (kn 0 rfl) rfl rfl rfl) ?_; refine Jg rfl rfl rfl Jyi (yi (R := x.L ++ R) x.ok (fun _ => hw)) (fun q hq => (List.mem_append.1 hq).elim (fun h => Or.inl (List.mem_cons_of_mem _ (List.mem_cons_of_mem _ h))) (fun hq => Or.inr hq)) ?_; refine J2 (congrArg Zy hrt) ?_; refine JI 8 rfl ?_
  refine JL [] [(3, .pure), (4, .pure), (5, .pure), (6, .grow (V2 qU (.cells #[.string ⟨#[]⟩, .int .u64 0, .int .u64 0, .int .u64 0, .int .u64 0, .int .u64 0, .string ⟨#[]⟩, .slice none 0 0] 48 (0, 0)))), (7, .turn), (8, .pure)] 9 [0, 1, 2, 3, 4, 5, 6, 7, 8] (by kernel_rfl) (by kernel_rfl) (by first | exact (fun _ h => absurd h List.not_mem_nil) | simp [SubS] | (intro p hp; simp [hp])) ?_; refine KB (k := 0) rfl rfl rfl rfl rfl (Jb (xs := x.s.cells) (n := 1) rfl (kn 0 rfl) rfl rfl rfl) ?_; refine KH (k := 1) rfl rfl rfl rfl rfl Jli (P_Addr0.toR) (fun q hq => .inr hq) ?_; refine KH (k := 2) rfl rfl rfl rfl rfl Joz (wX (R := x.L ++ R) x.ok A0) (fun q hq => (List.mem_append.1 hq).elim (fun h => Or.inl (List.mem_cons_of_mem _ (List.mem_cons_of_mem _ h))) (fun hq => Or.inr hq)) ?_; refine Jn (k := 3) rfl rfl rfl rfl rfl (fun _ hS => (Ji rfl)) ?_; refine Jn (k := 4) rfl rfl rfl rfl rfl (fun _ hS => (JM rfl rfl)) ?_; refine Jn (k := 5) rfl rfl rfl rfl rfl (fun _ hS => (JM rfl rfl)) ?_; refine VL (k := 6) (cs := #[_, _, _, _, _, _, _, _]) rfl rfl rfl rfl rfl rfl fun r9 => ?_; refine QI (k := 7) (q := 0) (n := 8) (ys := (Kt x.s A0).cells) rfl rfl rfl rfl rfl rfl rfl rfl rfl rfl rfl (fun _ h => absurd h List.not_mem_nil) ?_; refine Jn (k := 8) rfl rfl rfl rfl rfl (fun _ hS => (J9 rfl)) ?_; refine Ko ?_; refine JC 4 rfl ?_; refine LR rfl (Jb (xs := (Kt x.s A0).cells) (n := 8) rfl (kn 0 rfl) rfl rfl rfl) ?_; refine JN (n := 1) (sz := 8) (vs := [_]) (zs := [_, _, _, _, _, _, _, _]) (r := (Kt x.s A0).cells) rfl rfl rfl rfl rfl rfl rfl rfl rfl (by rw [Ky]; exact rfl) rfl fun rv => ?_; refine LR rfl (Js (r := [_]) rfl rfl) ?_; refine Jg (v := Zy (Q3 (StL.er ⟨[Kt x.s A0], some (⟨rv, 0, none⟩, 1)⟩))) rfl rfl rfl Jyi (yi (Jrp (jA x.ok A0) rv) (fun _ => by rw [yA]; exact hw2)) (fun q hq => (List.mem_cons.1 hq).elim (fun h => .inl (by rw [h]; exact List.mem_cons_self)) fun hq => (List.mem_append.1 hq).elim (fun h => Or.inl (List.mem_cons_of_mem _ (List.mem_cons_of_mem _ (List.mem_cons_of_mem _ (List.mem_cons_of_mem _ h))))) (fun hq => Or.inr hq)) ?_; refine J2 (congrArg Zy ((congrArg Q3 (yA x.s rv)).trans hst)) ?_; refine JC 10 rfl ?_; refine Jl rfl rfl rfl (enters_of Tryz.func21 (by kernel_rfl) rfl) (J1u x.f 5) ?_; refine J2 (show _ = Value.tuple #[.int .i64 v, .int .i64 (Jr1 (vl x.f 5))] from by rw [hv]; rfl) ?_; refine Goc 22 [3] rfl rfl ?_; refine cD (fun h14 => ?_) fun h14 => ?_
  refine X6 12 [3] rfl rfl ?_; refine Jl rfl rfl rfl Jyj (Jbi (root := rt) hg.time (by omega)) ?_; refine LR rfl (Js (r := [_, _, _]) rfl rfl) ?_; refine Qx rfl ?_
  first | (refine Jl rfl rfl rfl Jud (Y4 (p := [rt, st, Xy g.time rt]) rfl (n := 0) (by decide) v) ?_) | (refine Jl rfl rfl rfl Jud (Y4 (p := [rt, st, Xy g.time rt]) rfl (n := g.rc.number) hn0 v) ?_)
  refine Jx 7 rfl ?_; refine Jf rfl rfl (.cons (Jj rfl) (.cons (Jj rfl) .nil)) (fun w1 hs1 => ?_)
  (refine ⟨?_, hs1.keep⟩
   rw [hC, show Jbm x.f g.rc = 0 from by unfold Jbm; rw [← hv, if_neg (by omega)]]; rfl)
  ·refine X6 10 [3] rfl rfl ?_; refine Jl rfl rfl rfl Jyj (Jbi (root := rt) hg.time (by omega)) ?_; refine LR rfl (Js (r := [_, _, _]) rfl rfl) ?_; refine Qx rfl ?_
   first | (refine Jl rfl rfl rfl Jud (Y4 (p := [rt, st, Xy g.time rt]) rfl (n := 0) (by decide) v) ?_) | (refine Jl rfl rfl rfl Jud (Y4 (p := [rt, st, Xy g.time rt]) rfl (n := g.rc.number) hn0 v) ?_)
   refine Jx 7 rfl ?_; refine Jf rfl rfl (.cons (Jj rfl) (.cons (Jj rfl) .nil)) (fun w1 hs1 => ?_)
   (refine ⟨?_, hs1.keep⟩
    rw [hC, show Jbm x.f g.rc = g.rc.number from by unfold Jbm; rw [← hv, if_pos (by omega)]]; rfl)
def VQ (fs : Array Field) (i : Nat) : Option (TypeId × Nat) := (fs[i]?).map (fun f => (f.type, f.offset))
section
variable {H : Type} {enc : TypeId × Value → H} {P : Program} {w : World} {base : Nat} {sp : Nat → Bool} {held : Bool}
theorem Jms {tR tW tu tI fuel : Nat} {fa : Array Field} (ha : P.underlying tR = some (.struct fa)) (hA : P.cellsOf tR = 17) (a0 : VQ fa 0 = some (tI, 0)) (a1 : VQ fa 1 = some (tI, 1)) (a2 : VQ fa 2 = some (tW, 2)) (a3 : VQ fa 3 = some (tW, 6)) (a4 : VQ fa 4 = some (tW, 10))
  (a5 : VQ fa 5 = some (tI, 14)) (a6 : VQ fa 6 = some (tI, 15)) (a7 : VQ fa 7 = some (tI, 16))
  (hI : P.underlying tI = some (.int .u64)) (hIc : P.cellsOf tI = 1) (hW : P.underlying tW = some (.array 4 tu)) (hWc : P.cellsOf tW = 4) (hu : P.underlying tu = some (.int .u64)) (huc : P.cellsOf tu = 1)
  {cs : List Value} {x : DataW H × List MemPlace} (h : DataW.trod enc P w base sp held fuel tR cs = some x) : ∃ s : Rec, cs = s.cells ∧ s.ok := by
 have hl := Zk ha hA h
 match cs, hl with
 | [c0, c1, c2, c3, c4, c5, c6, c7, c8, c9, c10, c11, c12, c13, c14, c15, c16], _ =>
  obtain ⟨n0, y0, _, e0⟩ := Ki ha a0 hIc h
  obtain ⟨n1, y1, _, e1⟩ := Ki ha a1 hIc h
  obtain ⟨n2, y2, _, e2⟩ := Ki ha a2 hWc h
  obtain ⟨n3, y3, _, e3⟩ := Ki ha a3 hWc h
  obtain ⟨n4, y4, _, e4⟩ := Ki ha a4 hWc h
  obtain ⟨n5, y5, _, e5⟩ := Ki ha a5 hIc h
  obtain ⟨n6, y6, _, e6⟩ := Ki ha a6 hIc h
  obtain ⟨n7, y7, _, e7⟩ := Ki ha a7 hIc h
  obtain ⟨x0, f0, g0⟩ := Wx hI e0
  obtain ⟨x1, f1, g1⟩ := Wx hI e1
  obtain ⟨u0, u1, u2, u3, f2, k0, k1, k2, k3⟩ := vq hW hWc huc hu e2
  obtain ⟨v0, v1, v2, v3, f3, l0, l1, l2, l3⟩ := vq hW hWc huc hu e3
  obtain ⟨w0, w1, w2, w3, f4, m0, m1, m2, m3⟩ := vq hW hWc huc hu e4
  obtain ⟨x5, f5, g5⟩ := Wx hI e5
  obtain ⟨x6, f6, g6⟩ := Wx hI e6
  obtain ⟨x7, f7, g7⟩ := Wx hI e7
  obtain rfl : c0 = uV x0 := by simpa using f0
  obtain rfl : c1 = uV x1 := by simpa using f1
  obtain ⟨rfl, rfl, rfl, rfl⟩ : c2 = uV u0 ∧ c3 = uV u1 ∧ c4 = uV u2 ∧ c5 = uV u3 := by simpa using f2
  obtain ⟨rfl, rfl, rfl, rfl⟩ : c6 = uV v0 ∧ c7 = uV v1 ∧ c8 = uV v2 ∧ c9 = uV v3 := by simpa using f3
  obtain ⟨rfl, rfl, rfl, rfl⟩ : c10 = uV w0 ∧ c11 = uV w1 ∧ c12 = uV w2 ∧ c13 = uV w3 := by simpa using f4
  obtain rfl : c14 = uV x5 := by simpa using f5
  obtain rfl : c15 = uV x6 := by simpa using f6
  obtain rfl : c16 = uV x7 := by simpa using f7
  exact ⟨⟨x0, x1, ⟨u0, u1, u2, u3⟩, ⟨v0, v1, v2, v3⟩, ⟨w0, w1, w2, w3⟩, x5, x6, x7⟩, rfl, ⟨g0, g1, ⟨k0, k1, k2, k3⟩, ⟨l0, l1, l2, l3⟩, ⟨m0, m1, m2, m3⟩, g5, g6, g7⟩⟩
theorem Je4 {α β : Type} (f : α → β) : ∀ l : List α, l.flatMap (fun x => [f x]) = l.map f
 | [] => rfl
 | x :: l => by rw [List.flatMap_cons, Je4 f l]; rfl
theorem open_gen {tG tC tN tR tX tA tT tS tL tW tu tI : Nat} {fg fc fr fs fa : Array Field} (ht : P.underlying tT = some (.struct fs)) (hT : P.cellsOf tT = 2) (h0 : VQ fs 0 = some (tS, 0)) (h1 : VQ fs 1 = some (tS, 1)) (hS : P.underlying tS = some .string) (hSc : P.cellsOf tS = 1)
  (ha : P.underlying tA = some (.struct fa)) (hA : P.cellsOf tA = 8) (a0 : VQ fa 0 = some (tS, 0)) (a1 : VQ fa 1 = some (tI, 1)) (a2 : VQ fa 2 = some (tW, 2)) (a3 : VQ fa 3 = some (tS, 6)) (a4 : VQ fa 4 = some (tL, 7))
  (hI : P.underlying tI = some (.int .u64)) (hIc : P.cellsOf tI = 1) (hW : P.underlying tW = some (.array 4 tu)) (hWc : P.cellsOf tW = 4) (hu : P.underlying tu = some (.int .u64)) (huc : P.cellsOf tu = 1) (hL : P.underlying tL = some (.slice tT)) (hLc : P.cellsOf tL = 1)
  (hX : P.underlying tX = some (.slice tA)) (hXc : P.cellsOf tX = 1)
  (hr : P.underlying tR = some (.struct fr)) (hRc : P.cellsOf tR = 17) (r0 : VQ fr 0 = some (tI, 0)) (r1 : VQ fr 1 = some (tI, 1)) (r2 : VQ fr 2 = some (tW, 2)) (r3 : VQ fr 3 = some (tW, 6)) (r4 : VQ fr 4 = some (tW, 10))
  (r5 : VQ fr 5 = some (tI, 14)) (r6 : VQ fr 6 = some (tI, 15)) (r7 : VQ fr 7 = some (tI, 16))
  (hc : P.underlying tC = some (.struct fc)) (hCc : P.cellsOf tC = 1) (c0 : VQ fc 0 = some (tN, 0)) (hN : P.underlying tN = some (.slice tI)) (hNc : P.cellsOf tN = 1)
  (hg : P.underlying tG = some (.struct fg)) (hGc : P.cellsOf tG = 20) (g0 : VQ fg 0 = some (tC, 0)) (g1 : VQ fg 1 = some (tI, 1)) (g2 : VQ fg 2 = some (tR, 2)) (g3 : VQ fg 3 = some (tX, 19))
  {r : Reach} {b0 : Nat} {v : Value} {d : DataW H} {ps : List MemPlace} (hval : Value.okWide P w r b0 tG v) (hd : DataW.Trod enc P w base sp held tG v d ps) : ∃ g : GenL, v = g.val ∧ g.In (Jfi w) := by
 obtain ⟨fuel, h⟩ := hd
 have hl := Zk hg hGc h
 generalize hcs : v.cells.toList = cs at h hl
 obtain ⟨n0, y0, _, e0⟩ := Ki hg g0 hCc h
 obtain ⟨n1, y1, _, e1⟩ := Ki hg g1 hIc h
 obtain ⟨n2, y2, _, e2⟩ := Ki hg g2 hRc h
 obtain ⟨n3, y3, _, e3⟩ := Ki hg g3 hXc h
 obtain ⟨m0, z0, _, k0⟩ := Ki hc c0 hNc e0
 obtain ⟨ts, tp, ets, tsg, tlen, tok⟩ := YE (f := fun n => [uV n]) (ok := VK) (by decide) (fun _ => rfl) hN hIc (fun m hm cs x hx => Wx hI hx) k0
 obtain ⟨t, et, tu64⟩ := Wx hI e1
 obtain ⟨rc, erc, hrc⟩ := Jms hr hRc r0 r1 r2 r3 r4 r5 r6 r7 hI hIc hW hWc hu huc e2
 obtain ⟨l, p, ep, hsg, hlen, hok⟩ := YE (f := AcL.cells) (ok := AcL.In (Jfi w)) (by decide) AcL.len hX hA (fun m hm cs x hx => Jtv ht hT h0 h1 hS hSc ha hA a0 a1 a2 a3 a4 hI hIc hW hWc hu huc hL hLc hx) e3
 rw [Je4] at tsg
 refine ⟨⟨ts, tp, t, rc, l, p⟩, Jc2 hg hval (hcs.trans ?_), ⟨tlen, tsg, tok, tu64, hrc, ⟨hlen, hsg, hok⟩⟩⟩
 rw [GenL.cells_eq]
 have q0 : cs.take 1 = [KP ts.length tp] := by rw [← ets]; simp [List.take_take]
 have q3 : cs.drop 19 = [KP l.length p] := by
  rw [← ep, List.take_of_length_le]; rw [List.length_drop, hl]; decide
 have s1 : cs = cs.take 1 ++ ((cs.drop 1).take 1 ++ ((cs.drop 2).take 17 ++ cs.drop 19)) := by
  have a : ∀ (k n : Nat), cs.drop k = (cs.drop k).take n ++ cs.drop (k + n) := fun k n => by rw [← List.drop_drop, List.take_append_drop]
  rw [← a 2 17, ← a 1 1, List.take_append_drop]
 rw [s1, q0, et, erc, q3]
 rfl
end
theorem J16 {a b : Bool} (h : a = b) : Value.bool a = .bool b := congrArg _ h
theorem J17 {a b : BS} (h : a ≠ b) : (!decide (a = b)) = true := by simp [h]
theorem Jsz {s : BS} {n : Nat} (h : s.length = n) : Value.int .i64 (s.length : Int) = .int .i64 (n : Int) := by rw [h]
def g25 (r t : Nat) (l : List AcL) (p : Pl) : GenL := ⟨[5, 9], some (⟨r, 0, none⟩, 2), t, rec0, l, p⟩
def tB (r : Nat) : Nat × Obj := (r, .cells #[uV 5, uV 9] 25 (0, 0))
theorem Jbp {R : Jm} {r t : Nat} {l : List AcL} {p : Pl} (h : tB r ∈ R) (ht : VK t) (hs : StL.In R ⟨l, p⟩) : (g25 r t l p).In R := by
 refine ⟨show (2 : Nat) ≤ YF by decide, ?_, ?_, ht, Zl, hs⟩
 ·exact (KJ (row := some (r, 2, [])) (sz := 1) (n := 2) (e := 25) (cs := [uV 5, uV 9]) ⟨rfl, rfl⟩ (by decide)).mono fun q hq => by rw [List.mem_singleton.1 hq]; exact h
 ·intro x hx
  rcases List.mem_cons.1 hx with rfl | hx
  ·exact qu (by decide)
  ·rw [List.mem_singleton.1 hx]; exact qu (by decide)
def xL (b : BS) : AcL := ⟨b, 0, w40, [], [], none⟩
theorem Je5 {R : Jm} {b : BS} (h : b.length ≤ YF) : (xL b).In R := ⟨h, QP, w40_ok, Nat.zero_le _, Nat.zero_le _, rfl, by simp [xL]⟩
def l25 : List AcL := [xL m25, xL yx]
def k25 : List AcL := [xL m25, xL yx, xL yx]
theorem Jz4 {R : Jm} : ∀ a ∈ l25, a.In R := fun a ha => by
 rcases List.mem_cons.1 ha with rfl | ha
 ·exact Je5 (by decide)
 ·rw [List.mem_singleton.1 ha]; exact Je5 (by decide)
theorem Jz5 {R : Jm} : ∀ a ∈ k25, a.In R := fun a ha => by
 rcases List.mem_cons.1 ha with rfl | ha
 ·exact Je5 (by decide)
 rcases List.mem_cons.1 ha with rfl | ha
 ·exact Je5 (by decide)
 ·rw [List.mem_singleton.1 ha]; exact Je5 (by decide)
def aB (rv : Nat) : Nat × Obj := (rv, .cells (KW l25).toArray 48 (0, 0))
theorem J18 (r rv : Nat) : StL.In [tB r, aB rv] ⟨l25, some (⟨rv, 0, none⟩, 2)⟩ :=
 ⟨show (2 : Nat) ≤ YF by decide, (KJ (row := some (rv, 2, [])) (sz := 8) (n := 2) (e := 48) (cs := KW l25) ⟨rfl, rfl⟩ (by decide)).mono fun q hq => by rw [List.mem_singleton.1 hq]; exact List.mem_cons_of_mem _ (List.mem_singleton.2 (by simp [aB])), Jz4⟩
def cB (ra : Nat) (sp : List Value) : Nat × Obj := (ra, .cells (KW l25 ++ (xL yx).cells ++ sp).toArray 48 (0, 0))
theorem Jxp {r ra cap : Nat} {sp : List Value} (h : rowOk 8 3 (KW l25 ++ (xL yx).cells) (some (ra, cap, sp))) : StL.In [tB r, cB ra sp] ⟨k25, some (⟨ra, 0, none⟩, cap)⟩ :=
 ⟨show (3 : Nat) ≤ YF by decide, (KJ (n := 3) (e := 48) (cs := KW l25 ++ (xL yx).cells) h (by decide)).mono fun q hq => by rw [List.mem_singleton.1 hq]; exact List.mem_cons_of_mem _ (List.mem_singleton.2 rfl), Jz5⟩
set_option maxHeartbeats 2000000 in
theorem Jmt {R : Jm} : PureR Tryz.prog 9 #[] (.bool true) R := by
 have hH := J3u
 have hK := J3v
 have hne := J3q
 have hl1 : U24.length = 32 := by decide
 have hl2 : U25.length = 32 := by decide
 generalize U24 = hh at hH hne hl1
 generalize U25 = cc at hK hne hl2
 refine Ja Tryz.func9 rfl rfl fun w => ?_; refine J8 ?_; refine Jo 7 rfl ?_; refine JN (n := 2) (sz := 1) (vs := [_, _]) (zs := [_, _]) (r := [uV 5, uV 9]) rfl rfl rfl rfl rfl rfl rfl rfl rfl (by rw [Ky]; exact rfl) rfl fun r1 => ?_; refine LR rfl (Js (r := [_]) rfl rfl) ?_; refine LR rfl (Js (r := [_, _, _, _, _, _, _, _, _, _, _, _, _, _, _, _, _, _, _, _]) rfl rfl) ?_; refine LN rfl fun r2 => ?_; refine Jc (k := 0) (n := 20) (ys := ((g25 r1 6 [] none)).cells) rfl rfl rfl rfl rfl rfl rfl rfl rfl ?_
 have hg1 : GenL.In [tB r1] (g25 r1 6 [] none) := Jbp (List.mem_singleton.2 rfl) (qu (by decide)) Jfx
 refine JC 4 rfl ?_; refine LR rfl (Jb (xs := (g25 r1 6 [] none).cells) (n := 20) rfl (kn 0 rfl) rfl rfl rfl) ?_; refine Ke rfl rfl rfl Jae (WV (R := [tB r1]) hg1 (Nat.zero_le _)) (fun q hq => by rw [List.mem_singleton.1 hq]; exact .inl (List.mem_cons_of_mem _ List.mem_cons_self)) fun x => ?_; refine JY List.perm_append_comm ?_; change HL _ _ ((24, .tuple #[x.s.val, .int .i64 x.f, .int .i64 x.err]) :: _) ((r2, _) :: (r1, _) :: x.L) _ _ _ _
 obtain ⟨hx1, hx2⟩ := Prod.mk.inj (x.eq.trans Jz1)
 obtain ⟨hx2, hx3⟩ := Prod.mk.inj hx2
 rw [hx2, hx3]; refine LS 4 [] rfl rfl ?_; refine LN rfl fun r3 => ?_; refine Jc (k := 0) (n := 1) (ys := x.s.cells) rfl rfl rfl rfl rfl rfl rfl rfl rfl ?_; refine JC 6 rfl ?_; refine LR rfl (Jb (xs := (g25 r1 6 [] none).cells) (n := 20) rfl (kn 1 rfl) rfl rfl rfl) ?_; refine Jg rfl rfl rfl (enters_of Tryz.func14 (by kernel_rfl) rfl) (Jz3 (R := [tB r1]) hg1 (show ZR [] = true by decide)) (fun q hq => by rw [List.mem_singleton.1 hq]; exact .inl (List.mem_cons_of_mem _ (List.mem_cons_of_mem _ List.mem_cons_self))) ?_; refine J2 (congrArg Zy hH) ?_; refine JC 9 rfl ?_; refine LR rfl (Jb (xs := (g25 r1 6 [] none).cells) (n := 20) rfl (kn 1 rfl) rfl rfl rfl) ?_; refine Jg rfl rfl rfl (enters_of Tryz.func16 (by kernel_rfl) rfl) (Jw0 (R := [tB r1]) hg1 (show ZR [] = true by decide)) (fun q hq => by rw [List.mem_singleton.1 hq]; exact .inl (List.mem_cons_of_mem _ (List.mem_cons_of_mem _ List.mem_cons_self))) ?_; refine J2 (congrArg Zy hK) ?_; refine JC 9 rfl ?_; refine WN (n := 20) (b := 1) rfl rfl rfl rfl rfl rfl rfl rfl rfl (by decide) (by decide) fun rk => ?_; rw [show List.replicate 20 (Value.int .u8 0) = (yx).map bV from rfl]; refine LR rfl (Q4 (b := yx) (row := some (rk, 20, [])) (e := 5) (show _ = some (JE (List.length yx) _) from rfl) ⟨rfl, rfl⟩ (fun p hp => .inl (by rw [List.mem_singleton.1 hp, List.append_nil]; exact List.mem_cons_self)) rfl rfl rfl) ?_; refine JC 6 rfl ?_; refine LR rfl (jZ (kl := some (.i64, 1)) (kh := none) (m := 1) (n := 20) rfl rfl rfl rfl rfl rfl (by decide) (by decide) (show _ = List.replicate 19 0 from rfl)) ?_; refine LR rfl (QC (a := [98]) (b := List.replicate 19 0) rfl rfl (by decide)) ?_; refine J2 (show _ = J5 m25 from rfl) ?_; refine LR rfl (Js (r := [_, _, _, _, _, _, _, _]) rfl rfl) ?_; refine Qx rfl (LR rfl (Js (r := [_, _, _, _, _, _, _, _]) rfl rfl) ?_); refine JN (n := 2) (sz := 8) (vs := [_, _]) (zs := [_, _, _, _, _, _, _, _, _, _, _, _, _, _, _, _]) (r := KW l25) rfl rfl rfl rfl rfl rfl rfl rfl rfl (by rw [Ky]; exact rfl) rfl fun rv => ?_
 refine LS 1 [] rfl rfl ?_; refine KC (k := 3) (cs' := ((g25 r1 6 l25 (some (⟨rv, 0, none⟩, 2)))).cells.toArray) rfl rfl rfl rfl rfl rfl rfl rfl rfl rfl ?_
 have hg2 : GenL.In [tB r1, aB rv] (g25 r1 6 l25 (some (⟨rv, 0, none⟩, 2))) := Jbp List.mem_cons_self (qu (by decide)) (J18 r1 rv)
 refine JC 4 rfl ?_; refine LR rfl (Jb (xs := (g25 r1 6 l25 (some (⟨rv, 0, none⟩, 2))).cells) (n := 20) rfl (kn 3 rfl) rfl rfl rfl) ?_; refine Ke rfl rfl rfl Jae (WV (R := [tB r1, aB rv]) hg2 (show (2 : Nat) ≤ 1000 by decide)) (fun q hq => (List.mem_cons.1 hq).elim (fun h => .inl (by rw [h]; exact (List.mem_cons_of_mem _ (List.mem_cons_of_mem _ (List.mem_cons_of_mem _ (List.mem_cons_of_mem _ List.mem_cons_self)))))) fun h => .inl (by rw [List.mem_singleton.1 h]; exact List.mem_cons_self)) fun y => ?_; refine JY (QD y.L [_, _, _, _, _] (x.L)) ?_; change HL _ _ ((50, .tuple #[y.s.val, .int .i64 y.f, .int .i64 y.err]) :: _) ((rv, _) :: (rk, _) :: (r3, _) :: (r2, _) :: (r1, _) :: (y.L ++ (x.L))) _ _ _ _
 obtain ⟨hy1, hy2⟩ := Prod.mk.inj (y.eq.trans J3r)
 obtain ⟨hy2, hy3⟩ := Prod.mk.inj hy2
 rw [hy2, hy3]; refine LS 4 [] rfl rfl ?_; refine LN rfl fun r10 => ?_; refine Jc (k := 0) (n := 1) (ys := y.s.cells) rfl rfl rfl rfl rfl rfl rfl rfl rfl ?_; refine Xj 9 [4] rfl rfl ?_; refine LR rfl (Js (r := [_, _, _, _, _, _, _, _]) rfl rfl) ?_; refine JN (n := 1) (sz := 8) (vs := [_]) (zs := [_, _, _, _, _, _, _, _]) (r := (xL yx).cells) rfl rfl rfl rfl rfl rfl rfl rfl rfl (by rw [Ky]; exact rfl) rfl fun rw1 => ?_; refine KL (L0 := _ :: _ :: _ :: _ :: _ :: _ :: (y.L ++ x.L)) (xs := KW l25) (row := some (rv, 2, [])) (n := 2) (sz := 8) (b := 96) (news := (xL yx).cells) (List.perm_middle (l₁ := [_, _])) rfl rfl rfl rfl (kn 0 rfl) rfl rfl rfl rfl rfl (by decide) rfl rfl rfl (by decide) ⟨rfl, rfl⟩ (by decide) (by decide) fun ra cap sp hra => ?_
 refine LS 1 [] rfl rfl ?_; refine KC (k := 5) (cs' := ((g25 r1 6 k25 (some (⟨ra, 0, none⟩, cap)))).cells.toArray) rfl rfl rfl rfl rfl rfl rfl rfl rfl rfl ?_
 have hg3 : GenL.In [tB r1, cB ra sp] (g25 r1 6 k25 (some (⟨ra, 0, none⟩, cap))) := Jbp List.mem_cons_self (qu (by decide)) (Jxp hra)
 have hg4 : GenL.In [tB r1, cB ra sp] (g25 r1 4 k25 (some (⟨ra, 0, none⟩, cap))) := Jbp List.mem_cons_self (qu (by decide)) (Jxp hra)
 refine JC 4 rfl ?_; refine LR rfl (Jb (xs := (g25 r1 6 k25 (some (⟨ra, 0, none⟩, cap))).cells) (n := 20) rfl (kn 5 rfl) rfl rfl rfl) ?_; refine Ke rfl rfl rfl Jae (WV (R := [tB r1, cB ra sp]) hg3 (show (3 : Nat) ≤ 1000 by decide)) (fun q hq => (List.mem_cons.1 hq).elim (fun h => .inl (by rw [h]; exact (List.mem_cons_of_mem _ (List.mem_cons_of_mem _ (List.mem_cons_of_mem _ (List.mem_cons_of_mem _ (List.mem_cons_of_mem _ (List.mem_cons_of_mem _ List.mem_cons_self)))))))) fun h => .inl (by rw [List.mem_singleton.1 h]; exact List.mem_cons_self)) fun z => ?_; refine JY (QD z.L [_, _, _, _, _, _, _] (y.L ++ x.L)) ?_; change HL _ _ ((63, .tuple #[z.s.val, .int .i64 z.f, .int .i64 z.err]) :: _) ((ra, _) :: (rw1, _) :: (r10, _) :: (rk, _) :: (r3, _) :: (r2, _) :: (r1, _) :: (z.L ++ (y.L ++ x.L))) _ _ _ _
 obtain ⟨hz1, hz2⟩ := Prod.mk.inj (z.eq.trans J3s)
 obtain ⟨hz2, hz3⟩ := Prod.mk.inj hz2
 rw [hz2, hz3]; refine LS 4 [] rfl rfl ?_; refine LN rfl fun r13 => ?_; refine Jc (k := 0) (n := 1) (ys := z.s.cells) rfl rfl rfl rfl rfl rfl rfl rfl rfl ?_; refine JC 7 rfl ?_; refine KC (k := 6) (cs' := ((g25 r1 4 k25 (some (⟨ra, 0, none⟩, cap)))).cells.toArray) rfl rfl rfl rfl rfl rfl rfl rfl rfl rfl ?_; refine JC 4 rfl ?_; refine LR rfl (Jb (xs := (g25 r1 4 k25 (some (⟨ra, 0, none⟩, cap))).cells) (n := 20) rfl (kn 6 rfl) rfl rfl rfl) ?_; refine Ke rfl rfl rfl Jae (WV (R := [tB r1, cB ra sp]) hg4 (show (3 : Nat) ≤ 1000 by decide)) (fun q hq => (List.mem_cons.1 hq).elim (fun h => .inl (by rw [h]; exact (List.mem_cons_of_mem _ (List.mem_cons_of_mem _ (List.mem_cons_of_mem _ (List.mem_cons_of_mem _ (List.mem_cons_of_mem _ (List.mem_cons_of_mem _ (List.mem_cons_of_mem _ List.mem_cons_self))))))))) fun h => .inl (by rw [List.mem_singleton.1 h]; exact (List.mem_cons_of_mem _ List.mem_cons_self))) fun u => ?_; refine JY (QD u.L [_, _, _, _, _, _, _, _] (z.L ++ (y.L ++ x.L))) ?_; change HL _ _ ((70, .tuple #[u.s.val, .int .i64 u.f, .int .i64 u.err]) :: _) ((r13, _) :: (ra, _) :: (rw1, _) :: (r10, _) :: (rk, _) :: (r3, _) :: (r2, _) :: (r1, _) :: (u.L ++ (z.L ++ (y.L ++ x.L)))) _ _ _ _
 obtain ⟨hu1, hu2⟩ := Prod.mk.inj (u.eq.trans (J3t _))
 obtain ⟨hu2, hu3⟩ := Prod.mk.inj hu2
 rw [hu2, hu3]; refine LS 4 [] rfl rfl ?_; refine LN rfl fun r16 => ?_; refine Jc (k := 0) (n := 1) (ys := u.s.cells) rfl rfl rfl rfl rfl rfl rfl rfl rfl ?_; refine Xj 8 [6] rfl rfl ?_; refine LR rfl (J3 rfl x.ok.seg rfl) ?_; refine J2 (Jrn (show _ = (1 : Int) by rw [← x.s.er_len, hx1]; rfl)) ?_; refine LS 11 [] rfl rfl ?_; refine LR rfl (vM rfl rfl rfl) ?_; refine J2 (show _ = Value.int .i64 32 from Jsz hl1) ?_; refine LS 8 [] rfl rfl ?_; refine LR rfl (vM rfl rfl rfl) ?_; refine J2 (show _ = Value.int .i64 32 from Jsz hl2) ?_; refine LS 5 [] rfl rfl ?_; refine LR rfl (jo (a := cc) (b := hh) rfl rfl) ?_; refine J2 (J16 (J17 hne.symm)) ?_; refine Xj 8 [4] rfl rfl ?_; refine LR rfl (J3 rfl y.ok.seg rfl) ?_; refine J2 (Jrn (show _ = (3 : Int) by rw [← y.s.er_len, hy1]; rfl)) ?_; refine Jx 22 rfl ?_; refine pT rfl rfl rfl fun w1 hs1 => ?_; exact ⟨rfl, hs1.keep⟩
end Go.Proofs.YtfaagelglpgpkaaGreatDoor
