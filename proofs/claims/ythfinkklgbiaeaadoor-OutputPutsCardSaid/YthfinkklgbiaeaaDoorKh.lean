import Derived.Test.YthfinkklgbiaeaaDoorKg
namespace Go.Proofs.YthfinkklgbiaeaaDoor
set_option linter.all false
open Go.SL Go.RowKit Go.Shelf
def tXY : Nat → Nat × Nat
  | 0 => (1, 0)
  | t + 1 => ((tXY t).2, (2 * (tXY t).1 + 3 * (tXY t).2) % 5)
def tX (t : Nat) : Nat := (tXY t).1
def tY (t : Nat) : Nat := (tXY t).2
theorem tXY_lt : ∀ t, tX t < 5 ∧ tY t < 5
  | 0 => by decide
  | t + 1 => ⟨(tXY_lt t).2, Nat.mod_lt _ (by decide)⟩
def tS (a : List Nat) : Nat → List Nat
  | 0 => a
  | t + 1 => (tS a t).set (tX t + 5 * tY t) (rotN ((tS a t).getD (tX t + 5 * tY t) 0) ((t + 1) * (t + 2) / 2))
theorem tS_ok {a : List Nat} (h : SOk 25 a) : ∀ t, SOk 25 (tS a t)
  | 0 => h
  | t + 1 => (tS_ok h t).set _ (rotN_lt ((tS_ok h t).get _) _)
def bS (a : List Nat) : Nat → List Nat
  | 0 => z25
  | i + 1 => (bS a i).set (i / 5 + 5 * ((2 * (i % 5) + 3 * (i / 5)) % 5)) (a.getD i 0)
theorem bS_ok {a : List Nat} (h : SOk 25 a) : ∀ i, SOk 25 (bS a i)
  | 0 => z25_ok
  | i + 1 => (bS_ok h i).set _ (h.get _)
theorem lanes {a : List Nat} (h : a.length = 25) : ∃ a0 a1 a2 a3 a4 a5 a6 a7 a8 a9 a10 a11 a12 a13 a14 a15 a16 a17 a18 a19 a20 a21 a22 a23 a24, a = [a0, a1, a2, a3, a4, a5, a6, a7, a8, a9, a10, a11, a12, a13, a14, a15, a16, a17, a18, a19, a20, a21, a22, a23, a24] := by
  match a, h with
  | [a0, a1, a2, a3, a4, a5, a6, a7, a8, a9, a10, a11, a12, a13, a14, a15, a16, a17, a18, a19, a20, a21, a22, a23, a24], _ => exact ⟨_, _, _, _, _, _, _, _, _, _, _, _, _, _, _, _, _, _, _, _, _, _, _, _, _, rfl⟩
set_option maxRecDepth 20000 in
theorem rot_lanes (a0 a1 a2 a3 a4 a5 a6 a7 a8 a9 a10 a11 a12 a13 a14 a15 a16 a17 a18 a19 a20 a21 a22 a23 a24 : Nat) : rS [a0, a1, a2, a3, a4, a5, a6, a7, a8, a9, a10, a11, a12, a13, a14, a15, a16, a17, a18, a19, a20, a21, a22, a23, a24] turnsL 25 = [rotN a0 0, rotN a6 44, rotN a12 43, rotN a18 21, rotN a24 14, rotN a3 28, rotN a9 20, rotN a10 3, rotN a16 45, rotN a22 61, rotN a1 1, rotN a7 6, rotN a13 25, rotN a19 8, rotN a20 18, rotN a4 27, rotN a5 36, rotN a11 10, rotN a17 15, rotN a23 56, rotN a2 62, rotN a8 55, rotN a14 39, rotN a15 41, rotN a21 2] := by kernel_rfl
set_option maxRecDepth 20000 in
theorem turn_lanes (a0 a1 a2 a3 a4 a5 a6 a7 a8 a9 a10 a11 a12 a13 a14 a15 a16 a17 a18 a19 a20 a21 a22 a23 a24 : Nat) : tS [a0, a1, a2, a3, a4, a5, a6, a7, a8, a9, a10, a11, a12, a13, a14, a15, a16, a17, a18, a19, a20, a21, a22, a23, a24] 24 = [a0, rotN a1 1, rotN a2 190, rotN a3 28, rotN a4 91, rotN a5 36, rotN a6 300, rotN a7 6, rotN a8 55, rotN a9 276, rotN a10 3, rotN a11 10, rotN a12 171, rotN a13 153, rotN a14 231, rotN a15 105, rotN a16 45, rotN a17 15, rotN a18 21, rotN a19 136, rotN a20 210, rotN a21 66, rotN a22 253, rotN a23 120, rotN a24 78] := by
  have h1 : tS [a0, a1, a2, a3, a4, a5, a6, a7, a8, a9, a10, a11, a12, a13, a14, a15, a16, a17, a18, a19, a20, a21, a22, a23, a24] 1 = [a0, rotN a1 1, a2, a3, a4, a5, a6, a7, a8, a9, a10, a11, a12, a13, a14, a15, a16, a17, a18, a19, a20, a21, a22, a23, a24] := by
    show (tS [a0, a1, a2, a3, a4, a5, a6, a7, a8, a9, a10, a11, a12, a13, a14, a15, a16, a17, a18, a19, a20, a21, a22, a23, a24] 0).set (tX 0 + 5 * tY 0) (rotN ((tS [a0, a1, a2, a3, a4, a5, a6, a7, a8, a9, a10, a11, a12, a13, a14, a15, a16, a17, a18, a19, a20, a21, a22, a23, a24] 0).getD (tX 0 + 5 * tY 0) 0) ((0 + 1) * (0 + 2) / 2)) = _
    rw [show tS [a0, a1, a2, a3, a4, a5, a6, a7, a8, a9, a10, a11, a12, a13, a14, a15, a16, a17, a18, a19, a20, a21, a22, a23, a24] 0 = [a0, a1, a2, a3, a4, a5, a6, a7, a8, a9, a10, a11, a12, a13, a14, a15, a16, a17, a18, a19, a20, a21, a22, a23, a24] from rfl, show tX 0 + 5 * tY 0 = 1 from rfl]; rfl
  have h2 : tS [a0, a1, a2, a3, a4, a5, a6, a7, a8, a9, a10, a11, a12, a13, a14, a15, a16, a17, a18, a19, a20, a21, a22, a23, a24] 2 = [a0, rotN a1 1, a2, a3, a4, a5, a6, a7, a8, a9, rotN a10 3, a11, a12, a13, a14, a15, a16, a17, a18, a19, a20, a21, a22, a23, a24] := by
    show (tS [a0, a1, a2, a3, a4, a5, a6, a7, a8, a9, a10, a11, a12, a13, a14, a15, a16, a17, a18, a19, a20, a21, a22, a23, a24] 1).set (tX 1 + 5 * tY 1) (rotN ((tS [a0, a1, a2, a3, a4, a5, a6, a7, a8, a9, a10, a11, a12, a13, a14, a15, a16, a17, a18, a19, a20, a21, a22, a23, a24] 1).getD (tX 1 + 5 * tY 1) 0) ((1 + 1) * (1 + 2) / 2)) = _
    rw [h1, show tX 1 + 5 * tY 1 = 10 from rfl]; rfl
  have h3 : tS [a0, a1, a2, a3, a4, a5, a6, a7, a8, a9, a10, a11, a12, a13, a14, a15, a16, a17, a18, a19, a20, a21, a22, a23, a24] 3 = [a0, rotN a1 1, a2, a3, a4, a5, a6, rotN a7 6, a8, a9, rotN a10 3, a11, a12, a13, a14, a15, a16, a17, a18, a19, a20, a21, a22, a23, a24] := by
    show (tS [a0, a1, a2, a3, a4, a5, a6, a7, a8, a9, a10, a11, a12, a13, a14, a15, a16, a17, a18, a19, a20, a21, a22, a23, a24] 2).set (tX 2 + 5 * tY 2) (rotN ((tS [a0, a1, a2, a3, a4, a5, a6, a7, a8, a9, a10, a11, a12, a13, a14, a15, a16, a17, a18, a19, a20, a21, a22, a23, a24] 2).getD (tX 2 + 5 * tY 2) 0) ((2 + 1) * (2 + 2) / 2)) = _
    rw [h2, show tX 2 + 5 * tY 2 = 7 from rfl]; rfl
  have h4 : tS [a0, a1, a2, a3, a4, a5, a6, a7, a8, a9, a10, a11, a12, a13, a14, a15, a16, a17, a18, a19, a20, a21, a22, a23, a24] 4 = [a0, rotN a1 1, a2, a3, a4, a5, a6, rotN a7 6, a8, a9, rotN a10 3, rotN a11 10, a12, a13, a14, a15, a16, a17, a18, a19, a20, a21, a22, a23, a24] := by
    show (tS [a0, a1, a2, a3, a4, a5, a6, a7, a8, a9, a10, a11, a12, a13, a14, a15, a16, a17, a18, a19, a20, a21, a22, a23, a24] 3).set (tX 3 + 5 * tY 3) (rotN ((tS [a0, a1, a2, a3, a4, a5, a6, a7, a8, a9, a10, a11, a12, a13, a14, a15, a16, a17, a18, a19, a20, a21, a22, a23, a24] 3).getD (tX 3 + 5 * tY 3) 0) ((3 + 1) * (3 + 2) / 2)) = _
    rw [h3, show tX 3 + 5 * tY 3 = 11 from rfl]; rfl
  have h5 : tS [a0, a1, a2, a3, a4, a5, a6, a7, a8, a9, a10, a11, a12, a13, a14, a15, a16, a17, a18, a19, a20, a21, a22, a23, a24] 5 = [a0, rotN a1 1, a2, a3, a4, a5, a6, rotN a7 6, a8, a9, rotN a10 3, rotN a11 10, a12, a13, a14, a15, a16, rotN a17 15, a18, a19, a20, a21, a22, a23, a24] := by
    show (tS [a0, a1, a2, a3, a4, a5, a6, a7, a8, a9, a10, a11, a12, a13, a14, a15, a16, a17, a18, a19, a20, a21, a22, a23, a24] 4).set (tX 4 + 5 * tY 4) (rotN ((tS [a0, a1, a2, a3, a4, a5, a6, a7, a8, a9, a10, a11, a12, a13, a14, a15, a16, a17, a18, a19, a20, a21, a22, a23, a24] 4).getD (tX 4 + 5 * tY 4) 0) ((4 + 1) * (4 + 2) / 2)) = _
    rw [h4, show tX 4 + 5 * tY 4 = 17 from rfl]; rfl
  have h6 : tS [a0, a1, a2, a3, a4, a5, a6, a7, a8, a9, a10, a11, a12, a13, a14, a15, a16, a17, a18, a19, a20, a21, a22, a23, a24] 6 = [a0, rotN a1 1, a2, a3, a4, a5, a6, rotN a7 6, a8, a9, rotN a10 3, rotN a11 10, a12, a13, a14, a15, a16, rotN a17 15, rotN a18 21, a19, a20, a21, a22, a23, a24] := by
    show (tS [a0, a1, a2, a3, a4, a5, a6, a7, a8, a9, a10, a11, a12, a13, a14, a15, a16, a17, a18, a19, a20, a21, a22, a23, a24] 5).set (tX 5 + 5 * tY 5) (rotN ((tS [a0, a1, a2, a3, a4, a5, a6, a7, a8, a9, a10, a11, a12, a13, a14, a15, a16, a17, a18, a19, a20, a21, a22, a23, a24] 5).getD (tX 5 + 5 * tY 5) 0) ((5 + 1) * (5 + 2) / 2)) = _
    rw [h5, show tX 5 + 5 * tY 5 = 18 from rfl]; rfl
  have h7 : tS [a0, a1, a2, a3, a4, a5, a6, a7, a8, a9, a10, a11, a12, a13, a14, a15, a16, a17, a18, a19, a20, a21, a22, a23, a24] 7 = [a0, rotN a1 1, a2, rotN a3 28, a4, a5, a6, rotN a7 6, a8, a9, rotN a10 3, rotN a11 10, a12, a13, a14, a15, a16, rotN a17 15, rotN a18 21, a19, a20, a21, a22, a23, a24] := by
    show (tS [a0, a1, a2, a3, a4, a5, a6, a7, a8, a9, a10, a11, a12, a13, a14, a15, a16, a17, a18, a19, a20, a21, a22, a23, a24] 6).set (tX 6 + 5 * tY 6) (rotN ((tS [a0, a1, a2, a3, a4, a5, a6, a7, a8, a9, a10, a11, a12, a13, a14, a15, a16, a17, a18, a19, a20, a21, a22, a23, a24] 6).getD (tX 6 + 5 * tY 6) 0) ((6 + 1) * (6 + 2) / 2)) = _
    rw [h6, show tX 6 + 5 * tY 6 = 3 from rfl]; rfl
  have h8 : tS [a0, a1, a2, a3, a4, a5, a6, a7, a8, a9, a10, a11, a12, a13, a14, a15, a16, a17, a18, a19, a20, a21, a22, a23, a24] 8 = [a0, rotN a1 1, a2, rotN a3 28, a4, rotN a5 36, a6, rotN a7 6, a8, a9, rotN a10 3, rotN a11 10, a12, a13, a14, a15, a16, rotN a17 15, rotN a18 21, a19, a20, a21, a22, a23, a24] := by
    show (tS [a0, a1, a2, a3, a4, a5, a6, a7, a8, a9, a10, a11, a12, a13, a14, a15, a16, a17, a18, a19, a20, a21, a22, a23, a24] 7).set (tX 7 + 5 * tY 7) (rotN ((tS [a0, a1, a2, a3, a4, a5, a6, a7, a8, a9, a10, a11, a12, a13, a14, a15, a16, a17, a18, a19, a20, a21, a22, a23, a24] 7).getD (tX 7 + 5 * tY 7) 0) ((7 + 1) * (7 + 2) / 2)) = _
    rw [h7, show tX 7 + 5 * tY 7 = 5 from rfl]; rfl
  have h9 : tS [a0, a1, a2, a3, a4, a5, a6, a7, a8, a9, a10, a11, a12, a13, a14, a15, a16, a17, a18, a19, a20, a21, a22, a23, a24] 9 = [a0, rotN a1 1, a2, rotN a3 28, a4, rotN a5 36, a6, rotN a7 6, a8, a9, rotN a10 3, rotN a11 10, a12, a13, a14, a15, rotN a16 45, rotN a17 15, rotN a18 21, a19, a20, a21, a22, a23, a24] := by
    show (tS [a0, a1, a2, a3, a4, a5, a6, a7, a8, a9, a10, a11, a12, a13, a14, a15, a16, a17, a18, a19, a20, a21, a22, a23, a24] 8).set (tX 8 + 5 * tY 8) (rotN ((tS [a0, a1, a2, a3, a4, a5, a6, a7, a8, a9, a10, a11, a12, a13, a14, a15, a16, a17, a18, a19, a20, a21, a22, a23, a24] 8).getD (tX 8 + 5 * tY 8) 0) ((8 + 1) * (8 + 2) / 2)) = _
    rw [h8, show tX 8 + 5 * tY 8 = 16 from rfl]; rfl
  have h10 : tS [a0, a1, a2, a3, a4, a5, a6, a7, a8, a9, a10, a11, a12, a13, a14, a15, a16, a17, a18, a19, a20, a21, a22, a23, a24] 10 = [a0, rotN a1 1, a2, rotN a3 28, a4, rotN a5 36, a6, rotN a7 6, rotN a8 55, a9, rotN a10 3, rotN a11 10, a12, a13, a14, a15, rotN a16 45, rotN a17 15, rotN a18 21, a19, a20, a21, a22, a23, a24] := by
    show (tS [a0, a1, a2, a3, a4, a5, a6, a7, a8, a9, a10, a11, a12, a13, a14, a15, a16, a17, a18, a19, a20, a21, a22, a23, a24] 9).set (tX 9 + 5 * tY 9) (rotN ((tS [a0, a1, a2, a3, a4, a5, a6, a7, a8, a9, a10, a11, a12, a13, a14, a15, a16, a17, a18, a19, a20, a21, a22, a23, a24] 9).getD (tX 9 + 5 * tY 9) 0) ((9 + 1) * (9 + 2) / 2)) = _
    rw [h9, show tX 9 + 5 * tY 9 = 8 from rfl]; rfl
  have h11 : tS [a0, a1, a2, a3, a4, a5, a6, a7, a8, a9, a10, a11, a12, a13, a14, a15, a16, a17, a18, a19, a20, a21, a22, a23, a24] 11 = [a0, rotN a1 1, a2, rotN a3 28, a4, rotN a5 36, a6, rotN a7 6, rotN a8 55, a9, rotN a10 3, rotN a11 10, a12, a13, a14, a15, rotN a16 45, rotN a17 15, rotN a18 21, a19, a20, rotN a21 66, a22, a23, a24] := by
    show (tS [a0, a1, a2, a3, a4, a5, a6, a7, a8, a9, a10, a11, a12, a13, a14, a15, a16, a17, a18, a19, a20, a21, a22, a23, a24] 10).set (tX 10 + 5 * tY 10) (rotN ((tS [a0, a1, a2, a3, a4, a5, a6, a7, a8, a9, a10, a11, a12, a13, a14, a15, a16, a17, a18, a19, a20, a21, a22, a23, a24] 10).getD (tX 10 + 5 * tY 10) 0) ((10 + 1) * (10 + 2) / 2)) = _
    rw [h10, show tX 10 + 5 * tY 10 = 21 from rfl]; rfl
  have h12 : tS [a0, a1, a2, a3, a4, a5, a6, a7, a8, a9, a10, a11, a12, a13, a14, a15, a16, a17, a18, a19, a20, a21, a22, a23, a24] 12 = [a0, rotN a1 1, a2, rotN a3 28, a4, rotN a5 36, a6, rotN a7 6, rotN a8 55, a9, rotN a10 3, rotN a11 10, a12, a13, a14, a15, rotN a16 45, rotN a17 15, rotN a18 21, a19, a20, rotN a21 66, a22, a23, rotN a24 78] := by
    show (tS [a0, a1, a2, a3, a4, a5, a6, a7, a8, a9, a10, a11, a12, a13, a14, a15, a16, a17, a18, a19, a20, a21, a22, a23, a24] 11).set (tX 11 + 5 * tY 11) (rotN ((tS [a0, a1, a2, a3, a4, a5, a6, a7, a8, a9, a10, a11, a12, a13, a14, a15, a16, a17, a18, a19, a20, a21, a22, a23, a24] 11).getD (tX 11 + 5 * tY 11) 0) ((11 + 1) * (11 + 2) / 2)) = _
    rw [h11, show tX 11 + 5 * tY 11 = 24 from rfl]; rfl
  have h13 : tS [a0, a1, a2, a3, a4, a5, a6, a7, a8, a9, a10, a11, a12, a13, a14, a15, a16, a17, a18, a19, a20, a21, a22, a23, a24] 13 = [a0, rotN a1 1, a2, rotN a3 28, rotN a4 91, rotN a5 36, a6, rotN a7 6, rotN a8 55, a9, rotN a10 3, rotN a11 10, a12, a13, a14, a15, rotN a16 45, rotN a17 15, rotN a18 21, a19, a20, rotN a21 66, a22, a23, rotN a24 78] := by
    show (tS [a0, a1, a2, a3, a4, a5, a6, a7, a8, a9, a10, a11, a12, a13, a14, a15, a16, a17, a18, a19, a20, a21, a22, a23, a24] 12).set (tX 12 + 5 * tY 12) (rotN ((tS [a0, a1, a2, a3, a4, a5, a6, a7, a8, a9, a10, a11, a12, a13, a14, a15, a16, a17, a18, a19, a20, a21, a22, a23, a24] 12).getD (tX 12 + 5 * tY 12) 0) ((12 + 1) * (12 + 2) / 2)) = _
    rw [h12, show tX 12 + 5 * tY 12 = 4 from rfl]; rfl
  have h14 : tS [a0, a1, a2, a3, a4, a5, a6, a7, a8, a9, a10, a11, a12, a13, a14, a15, a16, a17, a18, a19, a20, a21, a22, a23, a24] 14 = [a0, rotN a1 1, a2, rotN a3 28, rotN a4 91, rotN a5 36, a6, rotN a7 6, rotN a8 55, a9, rotN a10 3, rotN a11 10, a12, a13, a14, rotN a15 105, rotN a16 45, rotN a17 15, rotN a18 21, a19, a20, rotN a21 66, a22, a23, rotN a24 78] := by
    show (tS [a0, a1, a2, a3, a4, a5, a6, a7, a8, a9, a10, a11, a12, a13, a14, a15, a16, a17, a18, a19, a20, a21, a22, a23, a24] 13).set (tX 13 + 5 * tY 13) (rotN ((tS [a0, a1, a2, a3, a4, a5, a6, a7, a8, a9, a10, a11, a12, a13, a14, a15, a16, a17, a18, a19, a20, a21, a22, a23, a24] 13).getD (tX 13 + 5 * tY 13) 0) ((13 + 1) * (13 + 2) / 2)) = _
    rw [h13, show tX 13 + 5 * tY 13 = 15 from rfl]; rfl
  have h15 : tS [a0, a1, a2, a3, a4, a5, a6, a7, a8, a9, a10, a11, a12, a13, a14, a15, a16, a17, a18, a19, a20, a21, a22, a23, a24] 15 = [a0, rotN a1 1, a2, rotN a3 28, rotN a4 91, rotN a5 36, a6, rotN a7 6, rotN a8 55, a9, rotN a10 3, rotN a11 10, a12, a13, a14, rotN a15 105, rotN a16 45, rotN a17 15, rotN a18 21, a19, a20, rotN a21 66, a22, rotN a23 120, rotN a24 78] := by
    show (tS [a0, a1, a2, a3, a4, a5, a6, a7, a8, a9, a10, a11, a12, a13, a14, a15, a16, a17, a18, a19, a20, a21, a22, a23, a24] 14).set (tX 14 + 5 * tY 14) (rotN ((tS [a0, a1, a2, a3, a4, a5, a6, a7, a8, a9, a10, a11, a12, a13, a14, a15, a16, a17, a18, a19, a20, a21, a22, a23, a24] 14).getD (tX 14 + 5 * tY 14) 0) ((14 + 1) * (14 + 2) / 2)) = _
    rw [h14, show tX 14 + 5 * tY 14 = 23 from rfl]; rfl
  have h16 : tS [a0, a1, a2, a3, a4, a5, a6, a7, a8, a9, a10, a11, a12, a13, a14, a15, a16, a17, a18, a19, a20, a21, a22, a23, a24] 16 = [a0, rotN a1 1, a2, rotN a3 28, rotN a4 91, rotN a5 36, a6, rotN a7 6, rotN a8 55, a9, rotN a10 3, rotN a11 10, a12, a13, a14, rotN a15 105, rotN a16 45, rotN a17 15, rotN a18 21, rotN a19 136, a20, rotN a21 66, a22, rotN a23 120, rotN a24 78] := by
    show (tS [a0, a1, a2, a3, a4, a5, a6, a7, a8, a9, a10, a11, a12, a13, a14, a15, a16, a17, a18, a19, a20, a21, a22, a23, a24] 15).set (tX 15 + 5 * tY 15) (rotN ((tS [a0, a1, a2, a3, a4, a5, a6, a7, a8, a9, a10, a11, a12, a13, a14, a15, a16, a17, a18, a19, a20, a21, a22, a23, a24] 15).getD (tX 15 + 5 * tY 15) 0) ((15 + 1) * (15 + 2) / 2)) = _
    rw [h15, show tX 15 + 5 * tY 15 = 19 from rfl]; rfl
  have h17 : tS [a0, a1, a2, a3, a4, a5, a6, a7, a8, a9, a10, a11, a12, a13, a14, a15, a16, a17, a18, a19, a20, a21, a22, a23, a24] 17 = [a0, rotN a1 1, a2, rotN a3 28, rotN a4 91, rotN a5 36, a6, rotN a7 6, rotN a8 55, a9, rotN a10 3, rotN a11 10, a12, rotN a13 153, a14, rotN a15 105, rotN a16 45, rotN a17 15, rotN a18 21, rotN a19 136, a20, rotN a21 66, a22, rotN a23 120, rotN a24 78] := by
    show (tS [a0, a1, a2, a3, a4, a5, a6, a7, a8, a9, a10, a11, a12, a13, a14, a15, a16, a17, a18, a19, a20, a21, a22, a23, a24] 16).set (tX 16 + 5 * tY 16) (rotN ((tS [a0, a1, a2, a3, a4, a5, a6, a7, a8, a9, a10, a11, a12, a13, a14, a15, a16, a17, a18, a19, a20, a21, a22, a23, a24] 16).getD (tX 16 + 5 * tY 16) 0) ((16 + 1) * (16 + 2) / 2)) = _
    rw [h16, show tX 16 + 5 * tY 16 = 13 from rfl]; rfl
  have h18 : tS [a0, a1, a2, a3, a4, a5, a6, a7, a8, a9, a10, a11, a12, a13, a14, a15, a16, a17, a18, a19, a20, a21, a22, a23, a24] 18 = [a0, rotN a1 1, a2, rotN a3 28, rotN a4 91, rotN a5 36, a6, rotN a7 6, rotN a8 55, a9, rotN a10 3, rotN a11 10, rotN a12 171, rotN a13 153, a14, rotN a15 105, rotN a16 45, rotN a17 15, rotN a18 21, rotN a19 136, a20, rotN a21 66, a22, rotN a23 120, rotN a24 78] := by
    show (tS [a0, a1, a2, a3, a4, a5, a6, a7, a8, a9, a10, a11, a12, a13, a14, a15, a16, a17, a18, a19, a20, a21, a22, a23, a24] 17).set (tX 17 + 5 * tY 17) (rotN ((tS [a0, a1, a2, a3, a4, a5, a6, a7, a8, a9, a10, a11, a12, a13, a14, a15, a16, a17, a18, a19, a20, a21, a22, a23, a24] 17).getD (tX 17 + 5 * tY 17) 0) ((17 + 1) * (17 + 2) / 2)) = _
    rw [h17, show tX 17 + 5 * tY 17 = 12 from rfl]; rfl
  have h19 : tS [a0, a1, a2, a3, a4, a5, a6, a7, a8, a9, a10, a11, a12, a13, a14, a15, a16, a17, a18, a19, a20, a21, a22, a23, a24] 19 = [a0, rotN a1 1, rotN a2 190, rotN a3 28, rotN a4 91, rotN a5 36, a6, rotN a7 6, rotN a8 55, a9, rotN a10 3, rotN a11 10, rotN a12 171, rotN a13 153, a14, rotN a15 105, rotN a16 45, rotN a17 15, rotN a18 21, rotN a19 136, a20, rotN a21 66, a22, rotN a23 120, rotN a24 78] := by
    show (tS [a0, a1, a2, a3, a4, a5, a6, a7, a8, a9, a10, a11, a12, a13, a14, a15, a16, a17, a18, a19, a20, a21, a22, a23, a24] 18).set (tX 18 + 5 * tY 18) (rotN ((tS [a0, a1, a2, a3, a4, a5, a6, a7, a8, a9, a10, a11, a12, a13, a14, a15, a16, a17, a18, a19, a20, a21, a22, a23, a24] 18).getD (tX 18 + 5 * tY 18) 0) ((18 + 1) * (18 + 2) / 2)) = _
    rw [h18, show tX 18 + 5 * tY 18 = 2 from rfl]; rfl
  have h20 : tS [a0, a1, a2, a3, a4, a5, a6, a7, a8, a9, a10, a11, a12, a13, a14, a15, a16, a17, a18, a19, a20, a21, a22, a23, a24] 20 = [a0, rotN a1 1, rotN a2 190, rotN a3 28, rotN a4 91, rotN a5 36, a6, rotN a7 6, rotN a8 55, a9, rotN a10 3, rotN a11 10, rotN a12 171, rotN a13 153, a14, rotN a15 105, rotN a16 45, rotN a17 15, rotN a18 21, rotN a19 136, rotN a20 210, rotN a21 66, a22, rotN a23 120, rotN a24 78] := by
    show (tS [a0, a1, a2, a3, a4, a5, a6, a7, a8, a9, a10, a11, a12, a13, a14, a15, a16, a17, a18, a19, a20, a21, a22, a23, a24] 19).set (tX 19 + 5 * tY 19) (rotN ((tS [a0, a1, a2, a3, a4, a5, a6, a7, a8, a9, a10, a11, a12, a13, a14, a15, a16, a17, a18, a19, a20, a21, a22, a23, a24] 19).getD (tX 19 + 5 * tY 19) 0) ((19 + 1) * (19 + 2) / 2)) = _
    rw [h19, show tX 19 + 5 * tY 19 = 20 from rfl]; rfl
  have h21 : tS [a0, a1, a2, a3, a4, a5, a6, a7, a8, a9, a10, a11, a12, a13, a14, a15, a16, a17, a18, a19, a20, a21, a22, a23, a24] 21 = [a0, rotN a1 1, rotN a2 190, rotN a3 28, rotN a4 91, rotN a5 36, a6, rotN a7 6, rotN a8 55, a9, rotN a10 3, rotN a11 10, rotN a12 171, rotN a13 153, rotN a14 231, rotN a15 105, rotN a16 45, rotN a17 15, rotN a18 21, rotN a19 136, rotN a20 210, rotN a21 66, a22, rotN a23 120, rotN a24 78] := by
    show (tS [a0, a1, a2, a3, a4, a5, a6, a7, a8, a9, a10, a11, a12, a13, a14, a15, a16, a17, a18, a19, a20, a21, a22, a23, a24] 20).set (tX 20 + 5 * tY 20) (rotN ((tS [a0, a1, a2, a3, a4, a5, a6, a7, a8, a9, a10, a11, a12, a13, a14, a15, a16, a17, a18, a19, a20, a21, a22, a23, a24] 20).getD (tX 20 + 5 * tY 20) 0) ((20 + 1) * (20 + 2) / 2)) = _
    rw [h20, show tX 20 + 5 * tY 20 = 14 from rfl]; rfl
  have h22 : tS [a0, a1, a2, a3, a4, a5, a6, a7, a8, a9, a10, a11, a12, a13, a14, a15, a16, a17, a18, a19, a20, a21, a22, a23, a24] 22 = [a0, rotN a1 1, rotN a2 190, rotN a3 28, rotN a4 91, rotN a5 36, a6, rotN a7 6, rotN a8 55, a9, rotN a10 3, rotN a11 10, rotN a12 171, rotN a13 153, rotN a14 231, rotN a15 105, rotN a16 45, rotN a17 15, rotN a18 21, rotN a19 136, rotN a20 210, rotN a21 66, rotN a22 253, rotN a23 120, rotN a24 78] := by
    show (tS [a0, a1, a2, a3, a4, a5, a6, a7, a8, a9, a10, a11, a12, a13, a14, a15, a16, a17, a18, a19, a20, a21, a22, a23, a24] 21).set (tX 21 + 5 * tY 21) (rotN ((tS [a0, a1, a2, a3, a4, a5, a6, a7, a8, a9, a10, a11, a12, a13, a14, a15, a16, a17, a18, a19, a20, a21, a22, a23, a24] 21).getD (tX 21 + 5 * tY 21) 0) ((21 + 1) * (21 + 2) / 2)) = _
    rw [h21, show tX 21 + 5 * tY 21 = 22 from rfl]; rfl
  have h23 : tS [a0, a1, a2, a3, a4, a5, a6, a7, a8, a9, a10, a11, a12, a13, a14, a15, a16, a17, a18, a19, a20, a21, a22, a23, a24] 23 = [a0, rotN a1 1, rotN a2 190, rotN a3 28, rotN a4 91, rotN a5 36, a6, rotN a7 6, rotN a8 55, rotN a9 276, rotN a10 3, rotN a11 10, rotN a12 171, rotN a13 153, rotN a14 231, rotN a15 105, rotN a16 45, rotN a17 15, rotN a18 21, rotN a19 136, rotN a20 210, rotN a21 66, rotN a22 253, rotN a23 120, rotN a24 78] := by
    show (tS [a0, a1, a2, a3, a4, a5, a6, a7, a8, a9, a10, a11, a12, a13, a14, a15, a16, a17, a18, a19, a20, a21, a22, a23, a24] 22).set (tX 22 + 5 * tY 22) (rotN ((tS [a0, a1, a2, a3, a4, a5, a6, a7, a8, a9, a10, a11, a12, a13, a14, a15, a16, a17, a18, a19, a20, a21, a22, a23, a24] 22).getD (tX 22 + 5 * tY 22) 0) ((22 + 1) * (22 + 2) / 2)) = _
    rw [h22, show tX 22 + 5 * tY 22 = 9 from rfl]; rfl
  have h24 : tS [a0, a1, a2, a3, a4, a5, a6, a7, a8, a9, a10, a11, a12, a13, a14, a15, a16, a17, a18, a19, a20, a21, a22, a23, a24] 24 = [a0, rotN a1 1, rotN a2 190, rotN a3 28, rotN a4 91, rotN a5 36, rotN a6 300, rotN a7 6, rotN a8 55, rotN a9 276, rotN a10 3, rotN a11 10, rotN a12 171, rotN a13 153, rotN a14 231, rotN a15 105, rotN a16 45, rotN a17 15, rotN a18 21, rotN a19 136, rotN a20 210, rotN a21 66, rotN a22 253, rotN a23 120, rotN a24 78] := by
    show (tS [a0, a1, a2, a3, a4, a5, a6, a7, a8, a9, a10, a11, a12, a13, a14, a15, a16, a17, a18, a19, a20, a21, a22, a23, a24] 23).set (tX 23 + 5 * tY 23) (rotN ((tS [a0, a1, a2, a3, a4, a5, a6, a7, a8, a9, a10, a11, a12, a13, a14, a15, a16, a17, a18, a19, a20, a21, a22, a23, a24] 23).getD (tX 23 + 5 * tY 23) 0) ((23 + 1) * (23 + 2) / 2)) = _
    rw [h23, show tX 23 + 5 * tY 23 = 6 from rfl]; rfl
  exact h24
set_option maxRecDepth 20000 in
theorem move_lanes (a0 a1 a2 a3 a4 a5 a6 a7 a8 a9 a10 a11 a12 a13 a14 a15 a16 a17 a18 a19 a20 a21 a22 a23 a24 : Nat) : bS [a0, a1, a2, a3, a4, a5, a6, a7, a8, a9, a10, a11, a12, a13, a14, a15, a16, a17, a18, a19, a20, a21, a22, a23, a24] 25 = [a0, a6, a12, a18, a24, a3, a9, a10, a16, a22, a1, a7, a13, a19, a20, a4, a5, a11, a17, a23, a2, a8, a14, a15, a21] := by kernel_rfl
theorem turn_move {a : List Nat} (h : SOk 25 a) : bS (tS a 24) 25 = rS a turnsL 25 := by
  obtain ⟨a0, a1, a2, a3, a4, a5, a6, a7, a8, a9, a10, a11, a12, a13, a14, a15, a16, a17, a18, a19, a20, a21, a22, a23, a24, rfl⟩ := lanes h.1
  rw [rot_lanes, turn_lanes, move_lanes, rotN_0 (h.2 a0 List.mem_cons_self) rfl]; rfl
set_option maxRecDepth 20000 in
theorem xS_lanes (b : List Nat) (a0 a1 a2 a3 a4 a5 a6 a7 a8 a9 a10 a11 a12 a13 a14 a15 a16 a17 a18 a19 a20 a21 a22 a23 a24 : Nat) : xS b [a0, a1, a2, a3, a4, a5, a6, a7, a8, a9, a10, a11, a12, a13, a14, a15, a16, a17, a18, a19, a20, a21, a22, a23, a24] 25 = [chiN b 0, chiN b 1, chiN b 2, chiN b 3, chiN b 4, chiN b 5, chiN b 6, chiN b 7, chiN b 8, chiN b 9, chiN b 10, chiN b 11, chiN b 12, chiN b 13, chiN b 14, chiN b 15, chiN b 16, chiN b 17, chiN b 18, chiN b 19, chiN b 20, chiN b 21, chiN b 22, chiN b 23, chiN b 24] := by kernel_rfl
theorem xS_base {a a' : List Nat} (b : List Nat) (h : a.length = 25) (h' : a'.length = 25) : xS b a 25 = xS b a' 25 := by
  obtain ⟨_, _, _, _, _, _, _, _, _, _, _, _, _, _, _, _, _, _, _, _, _, _, _, _, _, rfl⟩ := lanes h
  obtain ⟨_, _, _, _, _, _, _, _, _, _, _, _, _, _, _, _, _, _, _, _, _, _, _, _, _, rfl⟩ := lanes h'
  rw [xS_lanes, xS_lanes]
end Go.Proofs.YthfinkklgbiaeaaDoor
