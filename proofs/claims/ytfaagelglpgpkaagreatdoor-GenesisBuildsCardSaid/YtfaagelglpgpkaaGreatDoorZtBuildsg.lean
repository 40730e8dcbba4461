import Derived.Test.YtfaagelglpgpkaaGreatDoorZtBuildsf
set_option maxRecDepth 100000
namespace Go.Proofs.YtfaagelglpgpkaaGreatDoor
set_option linter.all false
open Go.SL Go.RowKit Go.Shelf
def U1 : BS := [173, 50, 40, 182, 118, 247, 211, 205, 66, 132, 165, 68, 63, 23, 241, 150, 43, 54, 228, 145, 179, 10, 64, 178, 64, 88, 73, 229, 151, 186, 95, 181]
def U2 : BS := [180, 193, 25, 81, 149, 124, 111, 143, 100, 44, 74, 246, 28, 214, 178, 70, 64, 254, 198, 220, 127, 198, 7, 238, 130, 6, 169, 158, 146, 65, 13, 48]
def U3 : BS := [33, 221, 185, 163, 86, 129, 92, 63, 172, 16, 38, 182, 222, 197, 223, 49, 36, 175, 186, 219, 72, 92, 155, 165, 163, 227, 57, 138, 4, 183, 186, 133]
def U4 : BS := [229, 135, 105, 179, 42, 27, 234, 241, 234, 39, 55, 90, 68, 9, 90, 13, 31, 182, 100, 206, 45, 211, 88, 231, 252, 191, 183, 140, 38, 161, 147, 68]
def U5 : BS := [14, 176, 30, 191, 201, 237, 39, 80, 12, 212, 223, 201, 121, 39, 45, 31, 9, 19, 204, 159, 102, 84, 13, 126, 128, 5, 129, 17, 9, 225, 207, 45]
def Jwi : BS := [111, 110, 101, 0, 0, 0, 0, 0, 0, 0, 0, 0, 0, 0, 0, 0, 0, 0, 0, 0, 0, 0, 0, 0, 0, 0, 0, 0, 0, 0, 0, 0]
def UAd : BS := [66, 0, 0, 0, 0, 0, 0, 0, 0, 0, 0, 0, 0, 0, 0, 0, 0, 0, 0, 1, 0, 0, 0, 0, 0, 0, 0, 0, 0, 0, 0, 0]
def U6 : BS := [35, 243, 31, 87, 200, 20, 215, 123, 214, 192, 83, 67, 196, 40, 91, 130, 219, 75, 152, 38, 171, 132, 39, 130, 169, 132, 223, 125, 157, 106, 47, 69]
def U7 : BS := [131, 241, 113, 45, 226, 69, 37, 146, 43, 71, 20, 186, 3, 103, 171, 114, 46, 40, 106, 0, 255, 158, 222, 54, 24, 194, 237, 212, 173, 254, 220, 131]
def U8 : BS := [242, 186, 62, 27, 111, 140, 127, 23, 29, 217, 54, 77, 62, 57, 244, 120, 135, 65, 67, 42, 144, 41, 240, 241, 210, 153, 39, 8, 186, 55, 34, 213]
def U9 : BS := [33, 180, 236, 129, 209, 3, 231, 208, 120, 175, 195, 1, 158, 91, 71, 27, 49, 166, 79, 106, 42, 35, 105, 27, 30, 222, 120, 211, 167, 168, 139, 135]
def U10 : BS := [125, 225, 35, 91, 207, 235, 186, 242, 16, 196, 211, 228, 105, 77, 66, 123, 190, 229, 22, 9, 253, 235, 200, 196, 240, 97, 205, 75, 152, 210, 249, 126]
def U11 : BS := [50, 178, 115, 232, 148, 162, 253, 184, 200, 103, 108, 40, 44, 53, 250, 226, 67, 39, 85, 153, 173, 52, 25, 113, 190, 215, 6, 171, 166, 218, 61, 3]
def U12 : BS := [113, 204, 200, 86, 198, 253, 158, 85, 5, 131, 130, 73, 154, 154, 255, 0, 169, 41, 85, 96, 145, 202, 185, 51, 234, 104, 27, 232, 152, 96, 71, 248]
def U13 : BS := [132, 90, 164, 89, 164, 191, 80, 223, 178, 73, 159, 94, 140, 113, 233, 133, 102, 110, 174, 45, 34, 63, 195, 68, 238, 232, 104, 179, 81, 128, 234, 139]
def U14 : BS := [235, 114, 203, 217, 247, 64, 52, 193, 8, 30, 239, 190, 180, 198, 98, 176, 42, 249, 8, 173, 66, 240, 249, 56, 193, 75, 35, 171, 233, 208, 193, 195]
def U15 : BS := [164, 30, 190, 90, 41, 216, 190, 217, 85, 253, 216, 224, 7, 23, 171, 243, 88, 41, 83, 46, 207, 20, 69, 81, 243, 174, 71, 105, 10, 76, 147, 226]
def U16 : BS := [105, 102, 245, 27, 161, 222, 241, 181, 192, 86, 124, 98, 245, 190, 192, 54, 192, 63, 144, 3, 170, 4, 51, 225, 238, 10, 187, 77, 166, 236, 80, 115]
def U17 : BS := [10, 27, 235, 237, 66, 167, 30, 71, 6, 137, 246, 233, 78, 173, 243, 225, 156, 94, 59, 228, 197, 207, 199, 254, 209, 32, 79, 241, 25, 121, 182, 70]
def U18 : BS := [45, 63, 26, 239, 217, 230, 108, 101, 248, 231, 99, 101, 145, 158, 81, 76, 1, 45, 239, 215, 186, 35, 73, 247, 12, 176, 246, 235, 168, 152, 41, 208]
def U19 : BS := [83, 222, 232, 149, 76, 179, 109, 14, 136, 74, 190, 125, 178, 41, 59, 97, 160, 72, 246, 61, 180, 126, 236, 139, 6, 133, 137, 19, 179, 63, 187, 122]
def U20 : BS := [17, 238, 144, 76, 186, 158, 216, 91, 9, 196, 227, 243, 243, 253, 17, 83, 74, 68, 104, 161, 76, 150, 16, 48, 11, 32, 58, 250, 73, 27, 28, 188]
def U21 : BS := [220, 132, 225, 78, 18, 16, 82, 55, 250, 166, 171, 196, 184, 137, 66, 234, 243, 70, 30, 243, 118, 93, 157, 90, 173, 62, 193, 0, 44, 42, 179, 104]
def U22 : BS := [168, 203, 117, 212, 196, 131, 35, 196, 128, 0, 198, 72, 59, 250, 217, 105, 45, 64, 183, 82, 19, 160, 167, 124, 155, 84, 205, 96, 106, 220, 133, 188]
def U23 : BS := [226, 171, 200, 37, 18, 134, 109, 196, 173, 119, 38, 26, 229, 87, 194, 26, 95, 114, 197, 167, 124, 172, 103, 224, 254, 45, 15, 145, 239, 132, 203, 46]
def ULe : BS := [6, 0, 0, 0, 0, 0, 0, 0]
def U24 : BS := [42, 123, 160, 192, 217, 163, 200, 255, 136, 106, 193, 125, 8, 79, 43, 190, 169, 215, 147, 160, 73, 244, 233, 147, 58, 4, 119, 152, 128, 29, 116, 250]
def UHd : BS := [0, 0, 0, 0, 0, 0, 0, 0, 0, 0, 0, 0, 0, 0, 0, 0, 0, 0, 0, 0, 0, 0, 0, 0, 0, 0, 0, 0, 0, 0, 0, 0]
def U25 : BS := [156, 238, 190, 167, 74, 13, 235, 10, 52, 177, 34, 104, 132, 238, 41, 29, 152, 1, 252, 49, 101, 106, 191, 80, 101, 242, 97, 240, 51, 57, 169, 37]
theorem uq1 : W8 (z32 ++ z32) = U1 := by decide +kernel
theorem uq2 : W8 (U1 ++ U1) = U2 := by decide +kernel
theorem uq3 : W8 (U2 ++ U2) = U3 := by decide +kernel
theorem uq4 : W8 (U3 ++ U3) = U4 := by decide +kernel
theorem uq5 : W8 (U4 ++ U4) = U5 := by decide +kernel
theorem uq6 : W8 (Jwi ++ z32) = U6 := by decide +kernel
theorem uq7 : W8 (U6 ++ U1) = U7 := by decide +kernel
theorem uq8 : W8 (U7 ++ U2) = U8 := by decide +kernel
theorem uq9 : W8 (U8 ++ U3) = U9 := by decide +kernel
theorem J2j : Yz U9 3 = U10 := by decide +kernel
theorem J2k : Yz U4 0 = U11 := by decide +kernel
theorem J2l : W8 (UAd ++ z32) = U12 := by decide +kernel
theorem J2m : W8 (z32 ++ U10) = U13 := by decide +kernel
theorem J2n : W8 (U11 ++ z32) = U14 := by decide +kernel
theorem J2o : W8 (U12 ++ U13) = U15 := by decide +kernel
theorem J2p : W8 (U14 ++ U1) = U16 := by decide +kernel
theorem J2q : W8 (U15 ++ U16) = U17 := by decide +kernel
theorem J2r : W8 (U17 ++ z32) = U18 := by decide +kernel
theorem J2s : W8 (U18 ++ U1) = U19 := by decide +kernel
theorem J2t : W8 (U19 ++ U2) = U20 := by decide +kernel
theorem J2u : W8 (U20 ++ U3) = U21 := by decide +kernel
theorem J2v : W8 (U21 ++ U4) = U22 := by decide +kernel
theorem J2w : Yz U22 1 = U23 := by decide +kernel
theorem J2x : W8 (ULe ++ U23) = U24 := by decide +kernel
theorem J2y : W8 (UHd ++ [U23, U23, U24].flatten) = U25 := by decide +kernel
theorem jT (k : Nat) (a z : BS) : V7 (k + 1) [a] z = V7 k [W8 (a ++ z)] (W8 (z ++ z)) := rfl
theorem Jj8 (k : Nat) (z : BS) : V7 (k + 1) [] z = V7 k [] (W8 (z ++ z)) := rfl
theorem J05 (k : Nat) (a b z : BS) : V7 (k + 1) [a, b] z = V7 k [W8 (a ++ b)] (W8 (z ++ z)) := by rw [V7]; simp [Qp, SL.pairUp]
theorem J06 (k : Nat) (a b c z : BS) : V7 (k + 1) [a, b, c] z = V7 k [W8 (a ++ b), W8 (c ++ z)] (W8 (z ++ z)) := by rw [V7]; simp [Qp, SL.pairUp]
theorem J07 (k : Nat) (a b c d e z : BS) : V7 (k + 1) [a, b, c, d, e] z = V7 k [W8 (a ++ b), W8 (c ++ d), W8 (e ++ z)] (W8 (z ++ z)) := by rw [V7]; simp [Qp, SL.pairUp]
theorem Jsi (a z : BS) : V7 0 [a] z = a := rfl
theorem J08 (z : BS) : V7 0 [] z = z := rfl
theorem xg {l : List Vl} {x : Ty} {n : Int} (hx : Xu x = false) : KT (KY l 0) (.mk 4 n none [x]) = Yz (Vj (Ki l 4 0 [x] 0) n.toNat) l.length := by
 unfold KY
 rw [Xv, if_neg (by decide), if_pos rfl]
 unfold WS
 rw [if_neg (by decide), if_neg (by rw [show [x].getD 0 default = x from rfl, hx]; decide)]
theorem Jsj {l : List Vl} {ins : List Ty} : KT (KY l 0) (.mk 7 0 none ins) = Vj (Ki l 7 0 ins 0) ins.length := by
 unfold KY
 rw [Xv, if_neg (by decide), if_neg (by decide), if_neg (by decide), if_neg (by decide), if_neg (by decide)]
 unfold WS
 rw [if_pos rfl]
def b25 : AcE := ⟨A0, 0, w40, cOne, []⟩
theorem Jmg : KT (yN cOne) (X6 4 512) = U10 := by
 have e1 : WS 4 512 [byT] (cOne.map ZW) (Ki (cOne.map ZW) 4 0 [byT] 0) = Vj [Jwi] 16 := by
  unfold WS
  rw [if_neg (by decide), if_pos (by decide +kernel), show Y2 (WR (cOne.map ZW) ([byT].getD 0 default)) = [Jwi] by decide +kernel, show ((512 : Int).toNat * (KW ([byT].getD 0 default)).toNat + 31) / 32 = 16 by decide +kernel]
 have e2 : Vj [Jwi] 16 = U9 := by
  rw [← jC (by decide), show lg 16 = 4 by decide +kernel, jT, uq6, uq1, jT, uq7, uq2, jT, uq8, uq3, jT, uq9, uq4, Jsi]
 unfold yN KY X6
 rw [Xv, if_neg (by decide), if_pos rfl]
 show Yz (WS 4 512 [byT] (cOne.map ZW) (Ki (cOne.map ZW) 4 0 [byT] 0)) 3 = _
 rw [e1, e2, J2j]
theorem Jsk : KT (yN A0) (X6 3 20) = UAd := by decide +kernel
theorem Jg3 : KT (KY [] 0) (.mk 4 16 none [Jaw]) = U11 := by
 rw [xg (by decide +kernel)]
 show Yz (Vj [] 16) 0 = _
 rw [← jC (by decide), show lg 16 = 4 by decide +kernel, Jj8, uq1, Jj8, uq2, Jj8, uq3, Jj8, uq4, J08, J2k]
theorem Jwj : KT (acV b25) acT = U17 := by
 unfold acV acT
 rw [Jsj]
 show Vj [KT (yN A0) (X6 3 20), KT (.mk 0 0 0 0 [] none [] none 0) (.mk 1 8 none []), KT (.mk 0 0 0 0 [] none [] none 0) (.mk 1 32 none []), KT (yN cOne) (X6 4 512), KT (KY [] 0) (.mk 4 16 none [Jaw])] 5 = _
 rw [Jsk, Jmg, Jg3, show KT (.mk 0 0 0 0 [] none [] none 0) (.mk 1 8 none []) = z32 by decide +kernel, show KT (.mk 0 0 0 0 [] none [] none 0) (.mk 1 32 none []) = z32 by decide +kernel, ← jC (by decide), show lg 5 = 3 by decide +kernel, J07, J2l, J2m, J2n, uq1, J06, J2o, J2p, uq2, J05, J2q, Jsi]
theorem Jsl : KT (Zf [b25]) qv = U23 := by
 unfold Zf qv
 rw [xg (by decide +kernel)]
 show Yz (Vj [KT (acV b25) acT] 32) 1 = _
 rw [Jwj, ← jC (by decide), show lg 32 = 5 by decide +kernel, jT, J2r, uq1, jT, J2s, uq2, jT, J2t, uq3, jT, J2u, uq4, jT, J2v, uq5, Jsi, J2w]
theorem J09 : KC [b25] = 0 := by decide +kernel
theorem J1a : QB [b25] = (U23, 0) := by rw [Jep J09 (by decide +kernel), Jsl]
theorem J1b : Xy 6 U23 = U24 := by
 unfold Xy
 rw [show (yI 6 8).1 = ULe by decide +kernel, J2x]
theorem J2z : yS 0 = 0 := by decide +kernel
theorem J20 : Xx 0 [U23, U23, U24] 0 = (U25, 0) := by
 have e : W7 0 [U23, U23, U24] 0 = (UHd ++ [U23, U23, U24].flatten, 0) := by decide +kernel
 unfold Xx
 rw [e, if_pos rfl, J2y]
theorem J21 : U24 ≠ U25 := by decide +kernel
theorem Jey {l m : List AcE} (h : m.Perm l) (hp : m.Pairwise fun x y => yR x y = true) (hn : (l.map AcE.addr).Nodup) : Vb l = m := by
 have h1 : (Vb l).Perm l := List.mergeSort_perm _ _
 exact List.Perm.eq_of_pairwise (fun x y hx hy a b => Jj3 hn (h1.mem_iff.1 hx) (h.mem_iff.1 hy) (yw a b)) (List.pairwise_mergeSort q8 zT _) hp (h1.trans h.symm)
def yD (b : BS) : AcE := ⟨b, 0, w40, [], []⟩
def yC : BS := List.replicate 20 0
def m25 : BS := 98 :: List.replicate 19 0
theorem Jzh : Vv [5, 9] 6 rec0 [] = ([b25], 0, 0) := by
 have e : Vb [] = [] := Jey (List.Perm.refl _) List.Pairwise.nil List.nodup_nil
 have e1 : Vc [] = 0 := by unfold Vc; rw [e]; decide +kernel
 unfold Vv
 rw [e1, e, show Qq [5, 9] 6 = (0, 0) by decide +kernel, show Q5 0 [] rec0 = ([b25], 0) by decide +kernel]
 rfl
theorem J22 : Vv [5, 9] 6 rec0 [yD m25, yD yC] = ([yD yC, b25, yD m25], 0, 0) := by
 have hn : ([yD m25, yD yC].map AcE.addr).Nodup := by decide +kernel
 have e : Vb [yD m25, yD yC] = [yD yC, yD m25] := Jey (List.Perm.swap _ _ _) (by decide +kernel) hn
 have e1 : Vc [yD m25, yD yC] = 0 := by unfold Vc; rw [if_pos hn, e]; decide +kernel
 unfold Vv
 rw [e1, e, show Qq [5, 9] 6 = (0, 0) by decide +kernel, show Q5 0 [yD yC, yD m25] rec0 = ([yD yC, b25, yD m25], 0) by decide +kernel]
 rfl
theorem J23 : Vv [5, 9] 6 rec0 [yD m25, yD yC, yD yC] = ([], 0, 13) := by
 have e1 : Vc [yD m25, yD yC, yD yC] = 13 := by unfold Vc; rw [if_neg (by decide +kernel)]
 unfold Vv
 rw [e1, show Qq [5, 9] 6 = (0, 0) by decide +kernel]
 rfl
theorem J24 (l : List AcE) : Vv [5, 9] 4 rec0 l = ([], 0, 10) := by
 unfold Vv
 rw [show Qq [5, 9] 4 = (0, 10) by decide +kernel]
 rfl
theorem J25 : yy [5, 9] 6 rec0 [] = (U24, 0) := by
 unfold yy
 rw [Jzh]
 show (if (0 : Int) ≠ 0 then _ else (Xy 6 (QB [b25]).1, 0)) = _
 rw [if_neg (by simp), J1a, J1b]
theorem J26 : ZS [5, 9] 6 rec0 [] = (U25, 0) := by
 have e : WG [b25] = [b25] := by decide +kernel
 unfold ZS
 rw [Jzh]
 show (if (0 : Int) ≠ 0 then _ else Xx (yS 0) [(QB [b25]).1, (QB (WG [b25])).1, Xy 6 (QB [b25]).1] (Jbn 0 rec0)) = _
 rw [if_neg (by simp), e, J1a, J2z, J1b, show Jbn 0 rec0 = 0 by decide +kernel]
 exact J20
def VZ (fs : Array Field) (i : Nat) : Option (TypeId × Nat) := (fs[i]?).map (fun f => (f.type, f.offset))
section
variable {H : Type} {enc : TypeId × Value → H} {P : Program} {w : World} {base : Nat} {sp : Nat → Bool} {held : Bool}
theorem Jmi {tR tW tu tI fuel : Nat} {fa : Array Field} (ha : P.underlying tR = some (.struct fa)) (hA : P.cellsOf tR = 17) (a0 : VZ fa 0 = some (tI, 0)) (a1 : VZ fa 1 = some (tI, 1)) (a2 : VZ fa 2 = some (tW, 2)) (a3 : VZ fa 3 = some (tW, 6)) (a4 : VZ fa 4 = some (tW, 10))
  (a5 : VZ fa 5 = some (tI, 14)) (a6 : VZ fa 6 = some (tI, 15)) (a7 : VZ fa 7 = some (tI, 16))
  (hI : P.underlying tI = some (.int .u64)) (hIc : P.cellsOf tI = 1) (hW : P.underlying tW = some (.array 4 tu)) (hWc : P.cellsOf tW = 4) (hu : P.underlying tu = some (.int .u64)) (huc : P.cellsOf tu = 1)
  {cs : List Value} {x : DataW H × List MemPlace} (h : DataW.trod enc P w base sp held fuel tR cs = some x) : ∃ s : Rec, cs = s.cells ∧ s.ok := by
 have hl := Zm ha hA h
 match cs, hl with
 | [c0, c1, c2, c3, c4, c5, c6, c7, c8, c9, c10, c11, c12, c13, c14, c15, c16], _ =>
  obtain ⟨n0, y0, _, e0⟩ := Kl ha a0 hIc h
  obtain ⟨n1, y1, _, e1⟩ := Kl ha a1 hIc h
  obtain ⟨n2, y2, _, e2⟩ := Kl ha a2 hWc h
  obtain ⟨n3, y3, _, e3⟩ := Kl ha a3 hWc h
  obtain ⟨n4, y4, _, e4⟩ := Kl ha a4 hWc h
  obtain ⟨n5, y5, _, e5⟩ := Kl ha a5 hIc h
  obtain ⟨n6, y6, _, e6⟩ := Kl ha a6 hIc h
  obtain ⟨n7, y7, _, e7⟩ := Kl ha a7 hIc h
  obtain ⟨x0, f0, g0⟩ := W0 hI e0
  obtain ⟨x1, f1, g1⟩ := W0 hI e1
  obtain ⟨u0, u1, u2, u3, f2, k0, k1, k2, k3⟩ := vx hW hWc huc hu e2
  obtain ⟨v0, v1, v2, v3, f3, l0, l1, l2, l3⟩ := vx hW hWc huc hu e3
  obtain ⟨w0, w1, w2, w3, f4, m0, m1, m2, m3⟩ := vx hW hWc huc hu e4
  obtain ⟨x5, f5, g5⟩ := W0 hI e5
  obtain ⟨x6, f6, g6⟩ := W0 hI e6
  obtain ⟨x7, f7, g7⟩ := W0 hI e7
  obtain rfl : c0 = uV x0 := by simpa using f0
  obtain rfl : c1 = uV x1 := by simpa using f1
  obtain ⟨rfl, rfl, rfl, rfl⟩ : c2 = uV u0 ∧ c3 = uV u1 ∧ c4 = uV u2 ∧ c5 = uV u3 := by simpa using f2
  obtain ⟨rfl, rfl, rfl, rfl⟩ : c6 = uV v0 ∧ c7 = uV v1 ∧ c8 = uV v2 ∧ c9 = uV v3 := by simpa using f3
  obtain ⟨rfl, rfl, rfl, rfl⟩ : c10 = uV w0 ∧ c11 = uV w1 ∧ c12 = uV w2 ∧ c13 = uV w3 := by simpa using f4
  obtain rfl : c14 = uV x5 := by simpa using f5
  obtain rfl : c15 = uV x6 := by simpa using f6
  obtain rfl : c16 = uV x7 := by simpa using f7
  exact ⟨⟨x0, x1, ⟨u0, u1, u2, u3⟩, ⟨v0, v1, v2, v3⟩, ⟨w0, w1, w2, w3⟩, x5, x6, x7⟩, rfl, ⟨g0, g1, ⟨k0, k1, k2, k3⟩, ⟨l0, l1, l2, l3⟩, ⟨m0, m1, m2, m3⟩, g5, g6, g7⟩⟩
theorem Jez {α β : Type} (f : α → β) : ∀ l : List α, l.flatMap (fun x => [f x]) = l.map f
 | [] => rfl
 | x :: l => by rw [List.flatMap_cons, Jez f l]; rfl
theorem open_gen {tG tC tN tR tX tA tT tS tL tW tu tI : Nat} {fg fc fr fs fa : Array Field} (ht : P.underlying tT = some (.struct fs)) (hT : P.cellsOf tT = 2) (h0 : VZ fs 0 = some (tS, 0)) (h1 : VZ fs 1 = some (tS, 1)) (hS : P.underlying tS = some .string) (hSc : P.cellsOf tS = 1)
  (ha : P.underlying tA = some (.struct fa)) (hA : P.cellsOf tA = 8) (a0 : VZ fa 0 = some (tS, 0)) (a1 : VZ fa 1 = some (tI, 1)) (a2 : VZ fa 2 = some (tW, 2)) (a3 : VZ fa 3 = some (tS, 6)) (a4 : VZ fa 4 = some (tL, 7))
  (hI : P.underlying tI = some (.int .u64)) (hIc : P.cellsOf tI = 1) (hW : P.underlying tW = some (.array 4 tu)) (hWc : P.cellsOf tW = 4) (hu : P.underlying tu = some (.int .u64)) (huc : P.cellsOf tu = 1) (hL : P.underlying tL = some (.slice tT)) (hLc : P.cellsOf tL = 1)
  (hX : P.underlying tX = some (.slice tA)) (hXc : P.cellsOf tX = 1)
  (hr : P.underlying tR = some (.struct fr)) (hRc : P.cellsOf tR = 17) (r0 : VZ fr 0 = some (tI, 0)) (r1 : VZ fr 1 = some (tI, 1)) (r2 : VZ fr 2 = some (tW, 2)) (r3 : VZ fr 3 = some (tW, 6)) (r4 : VZ fr 4 = some (tW, 10))
  (r5 : VZ fr 5 = some (tI, 14)) (r6 : VZ fr 6 = some (tI, 15)) (r7 : VZ fr 7 = some (tI, 16))
  (hc : P.underlying tC = some (.struct fc)) (hCc : P.cellsOf tC = 1) (c0 : VZ fc 0 = some (tN, 0)) (hN : P.underlying tN = some (.slice tI)) (hNc : P.cellsOf tN = 1)
  (hg : P.underlying tG = some (.struct fg)) (hGc : P.cellsOf tG = 20) (g0 : VZ fg 0 = some (tC, 0)) (g1 : VZ fg 1 = some (tI, 1)) (g2 : VZ fg 2 = some (tR, 2)) (g3 : VZ fg 3 = some (tX, 19))
  {r : Reach} {b0 : Nat} {v : Value} {d : DataW H} {ps : List MemPlace} (hval : Value.okWide P w r b0 tG v) (hd : DataW.Trod enc P w base sp held tG v d ps) : ∃ g : GenL, v = g.val ∧ g.In (Jfe w) := by
 obtain ⟨fuel, h⟩ := hd
 have hl := Zm hg hGc h
 generalize hcs : v.cells.toList = cs at h hl
 obtain ⟨n0, y0, _, e0⟩ := Kl hg g0 hCc h
 obtain ⟨n1, y1, _, e1⟩ := Kl hg g1 hIc h
 obtain ⟨n2, y2, _, e2⟩ := Kl hg g2 hRc h
 obtain ⟨n3, y3, _, e3⟩ := Kl hg g3 hXc h
 obtain ⟨m0, z0, _, k0⟩ := Kl hc c0 hNc e0
 obtain ⟨ts, tp, ets, tsg, tlen, tok⟩ := YR (f := fun n => [uV n]) (ok := VV) (by decide) (fun _ => rfl) hN hIc (fun m hm cs x hx => W0 hI hx) k0
 obtain ⟨t, et, tu64⟩ := W0 hI e1
 obtain ⟨rc, erc, hrc⟩ := Jmi hr hRc r0 r1 r2 r3 r4 r5 r6 r7 hI hIc hW hWc hu huc e2
 obtain ⟨l, p, ep, hsg, hlen, hok⟩ := YR (f := AcL.cells) (ok := AcL.In (Jfe w)) (by decide) AcL.len hX hA (fun m hm cs x hx => Jtn ht hT h0 h1 hS hSc ha hA a0 a1 a2 a3 a4 hI hIc hW hWc hu huc hL hLc hx) e3
 rw [Jez] at tsg
 refine ⟨⟨ts, tp, t, rc, l, p⟩, Jcx hg hval (hcs.trans ?_), ⟨tlen, tsg, tok, tu64, hrc, ⟨hlen, hsg, hok⟩⟩⟩
 rw [GenL.cells_eq]
 have q0 : cs.take 1 = [KB ts.length tp] := by rw [← ets]; simp [List.take_take]
 have q3 : cs.drop 19 = [KB l.length p] := by
  rw [← ep, List.take_of_length_le]; rw [List.length_drop, hl]; decide
 have s1 : cs = cs.take 1 ++ ((cs.drop 1).take 1 ++ ((cs.drop 2).take 17 ++ cs.drop 19)) := by
  have a : ∀ (k n : Nat), cs.drop k = (cs.drop k).take n ++ cs.drop (k + n) := fun k n => by rw [← List.drop_drop, List.take_append_drop]
  rw [← a 2 17, ← a 1 1, List.take_append_drop]
 rw [s1, q0, et, erc, q3]
 rfl
end
theorem J1c {a b : Bool} (h : a = b) : Value.bool a = .bool b := congrArg _ h
theorem J1d {a b : BS} (h : a ≠ b) : (!decide (a = b)) = true := by simp [h]
theorem Jsm {s : BS} {n : Nat} (h : s.length = n) : Value.int .i64 (s.length : Int) = .int .i64 (n : Int) := by rw [h]
def g25 (r t : Nat) (l : List AcL) (p : Pl) : GenL := ⟨[5, 9], some (⟨r, 0, none⟩, 2), t, rec0, l, p⟩
def tB (r : Nat) : Nat × Obj := (r, .cells #[uV 5, uV 9] 25 (0, 0))
theorem Jbp {R : Jm} {r t : Nat} {l : List AcL} {p : Pl} (h : tB r ∈ R) (ht : VV t) (hs : StL.In R ⟨l, p⟩) : (g25 r t l p).In R := by
 refine ⟨show (2 : Nat) ≤ YU by decide, ?_, ?_, ht, Jtk, hs⟩
 ·exact (Km (row := some (r, 2, [])) (sz := 1) (n := 2) (e := 25) (cs := [uV 5, uV 9]) ⟨rfl, rfl⟩ (by decide)).mono fun q hq => by rw [List.mem_singleton.1 hq]; exact h
 ·intro x hx
  rcases List.mem_cons.1 hx with rfl | hx
  ·exact qy (by decide)
  ·rw [List.mem_singleton.1 hx]; exact qy (by decide)
def xL (b : BS) : AcL := ⟨b, 0, w40, [], [], none⟩
theorem Je0 {R : Jm} {b : BS} (h : b.length ≤ YU) : (xL b).In R := ⟨h, QC, w40_ok, Nat.zero_le _, Nat.zero_le _, rfl, by simp [xL]⟩
def l25 : List AcL := [xL m25, xL yC]
def k25 : List AcL := [xL m25, xL yC, xL yC]
theorem Jzi {R : Jm} : ∀ a ∈ l25, a.In R := fun a ha => by
 rcases List.mem_cons.1 ha with rfl | ha
 ·exact Je0 (by decide)
 ·rw [List.mem_singleton.1 ha]; exact Je0 (by decide)
theorem Jzj {R : Jm} : ∀ a ∈ k25, a.In R := fun a ha => by
 rcases List.mem_cons.1 ha with rfl | ha
 ·exact Je0 (by decide)
 rcases List.mem_cons.1 ha with rfl | ha
 ·exact Je0 (by decide)
 ·rw [List.mem_singleton.1 ha]; exact Je0 (by decide)
def aB (rv : Nat) : Nat × Obj := (rv, .cells (KA l25).toArray 48 (0, 0))
theorem J1e (r rv : Nat) : StL.In [tB r, aB rv] ⟨l25, some (⟨rv, 0, none⟩, 2)⟩ :=
 ⟨show (2 : Nat) ≤ YU by decide, (Km (row := some (rv, 2, [])) (sz := 8) (n := 2) (e := 48) (cs := KA l25) ⟨rfl, rfl⟩ (by decide)).mono fun q hq => by rw [List.mem_singleton.1 hq]; exact List.mem_cons_of_mem _ (List.mem_singleton.2 (by simp [aB])), Jzi⟩
def cB (ra : Nat) (sp : List Value) : Nat × Obj := (ra, .cells (KA l25 ++ (xL yC).cells ++ sp).toArray 48 (0, 0))
theorem Jxc {r ra cap : Nat} {sp : List Value} (h : rowOk 8 3 (KA l25 ++ (xL yC).cells) (some (ra, cap, sp))) : StL.In [tB r, cB ra sp] ⟨k25, some (⟨ra, 0, none⟩, cap)⟩ :=
 ⟨show (3 : Nat) ≤ YU by decide, (Km (n := 3) (e := 48) (cs := KA l25 ++ (xL yC).cells) h (by decide)).mono fun q hq => by rw [List.mem_singleton.1 hq]; exact List.mem_cons_of_mem _ (List.mem_singleton.2 rfl), Jzj⟩
set_option maxHeartbeats 2000000 in
theorem Jmj {R : Jm} : PureR Tryz.prog 9 #[] (.bool true) R := by
 have hH := J25
 have hK := J26
 have hne := J21
 have hl1 : U24.length = 32 := by decide
 have hl2 : U25.length = 32 := by decide
 generalize U24 = hh at hH hne hl1
 generalize U25 = cc at hK hne hl2
 refine Jb Tryz.func9 rfl rfl fun w => ?_; refine JD ?_; refine Jq 7 rfl ?_; refine J4 (n := 2) (sz := 1) (vs := [_, _]) (zs := [_, _]) (r := [uV 5, uV 9]) rfl rfl rfl rfl rfl rfl rfl rfl rfl (by rw [JO]; exact rfl) rfl fun r1 => ?_; refine LR rfl (Jt (r := [_]) rfl rfl) ?_; refine LR rfl (Jt (r := [_, _, _, _, _, _, _, _, _, _, _, _, _, _, _, _, _, _, _, _]) rfl rfl) ?_; refine LN rfl fun r2 => ?_; refine Jh (k := 0) (n := 20) (ys := ((g25 r1 6 [] none)).cells) rfl rfl rfl rfl rfl rfl rfl rfl rfl ?_
 have hg1 : GenL.In [tB r1] (g25 r1 6 [] none) := Jbp (List.mem_singleton.2 rfl) (qy (by decide)) qn
 refine JJ 4 rfl ?_; refine LR rfl (Jd (xs := (g25 r1 6 [] none).cells) (n := 20) rfl (kn 0 rfl) rfl rfl rfl) ?_; refine Ke rfl rfl rfl Jf3 (Y9 (R := [tB r1]) hg1 (Nat.zero_le _)) (fun q hq => by rw [List.mem_singleton.1 hq]; exact .inl (List.mem_cons_of_mem _ List.mem_cons_self)) fun x => ?_; refine Kk List.perm_append_comm ?_; change HL _ _ ((24, .tuple #[x.s.val, .int .i64 x.f, .int .i64 x.err]) :: _) ((r2, _) :: (r1, _) :: x.L) _ _ _ _
 obtain ⟨hx1, hx2⟩ := Prod.mk.inj (x.eq.trans Jzh)
 obtain ⟨hx2, hx3⟩ := Prod.mk.inj hx2
 rw [hx2, hx3]; refine LS 4 [] rfl rfl ?_; refine LN rfl fun r3 => ?_; refine Jh (k := 0) (n := 1) (ys := x.s.cells) rfl rfl rfl rfl rfl rfl rfl rfl rfl ?_; refine JJ 6 rfl ?_; refine LR rfl (Jd (xs := (g25 r1 6 [] none).cells) (n := 20) rfl (kn 1 rfl) rfl rfl rfl) ?_; refine Ji rfl rfl rfl (enters_of Tryz.func14 (by kernel_rfl) rfl) (Jzg (R := [tB r1]) hg1 (show ZP [] = true by decide)) (fun q hq => by rw [List.mem_singleton.1 hq]; exact .inl (List.mem_cons_of_mem _ (List.mem_cons_of_mem _ List.mem_cons_self))) ?_; refine J3 (congrArg ZB hH) ?_; refine JJ 9 rfl ?_; refine LR rfl (Jd (xs := (g25 r1 6 [] none).cells) (n := 20) rfl (kn 1 rfl) rfl rfl rfl) ?_; refine Ji rfl rfl rfl (enters_of Tryz.func16 (by kernel_rfl) rfl) (Jwg (R := [tB r1]) hg1 (show ZP [] = true by decide)) (fun q hq => by rw [List.mem_singleton.1 hq]; exact .inl (List.mem_cons_of_mem _ (List.mem_cons_of_mem _ List.mem_cons_self))) ?_; refine J3 (congrArg ZB hK) ?_; refine JJ 9 rfl ?_; refine VA (n := 20) (b := 1) rfl rfl rfl rfl rfl rfl rfl rfl rfl (by decide) (by decide) fun rk => ?_; rw [show List.replicate 20 (Value.int .u8 0) = (yC).map bV from rfl]; refine LR rfl (KS (b := yC) (row := some (rk, 20, [])) (e := 5) (show _ = some (J8 (List.length yC) _) from rfl) ⟨rfl, rfl⟩ (fun p hp => .inl (by rw [List.mem_singleton.1 hp, List.append_nil]; exact List.mem_cons_self)) rfl rfl rfl) ?_; refine JJ 6 rfl ?_; refine LR rfl (jZ (kl := some (.i64, 1)) (kh := none) (m := 1) (n := 20) rfl rfl rfl rfl rfl rfl (by decide) (by decide) (show _ = List.replicate 19 0 from rfl)) ?_; refine LR rfl (QK (a := [98]) (b := List.replicate 19 0) rfl rfl (by decide)) ?_; refine J3 (show _ = J1 m25 from rfl) ?_; refine LR rfl (Jt (r := [_, _, _, _, _, _, _, _]) rfl rfl) ?_; refine Q1 rfl (LR rfl (Jt (r := [_, _, _, _, _, _, _, _]) rfl rfl) ?_); refine J4 (n := 2) (sz := 8) (vs := [_, _]) (zs := [_, _, _, _, _, _, _, _, _, _, _, _, _, _, _, _]) (r := KA l25) rfl rfl rfl rfl rfl rfl rfl rfl rfl (by rw [JO]; exact rfl) rfl fun rv => ?_
 refine LS 1 [] rfl rfl ?_; refine Kn (k := 3) (cs' := ((g25 r1 6 l25 (some (⟨rv, 0, none⟩, 2)))).cells.toArray) rfl rfl rfl rfl rfl rfl rfl rfl rfl rfl ?_
 have hg2 : GenL.In [tB r1, aB rv] (g25 r1 6 l25 (some (⟨rv, 0, none⟩, 2))) := Jbp List.mem_cons_self (qy (by decide)) (J1e r1 rv)
 refine JJ 4 rfl ?_; refine LR rfl (Jd (xs := (g25 r1 6 l25 (some (⟨rv, 0, none⟩, 2))).cells) (n := 20) rfl (kn 3 rfl) rfl rfl rfl) ?_; refine Ke rfl rfl rfl Jf3 (Y9 (R := [tB r1, aB rv]) hg2 (show (2 : Nat) ≤ 1000 by decide)) (fun q hq => (List.mem_cons.1 hq).elim (fun h => .inl (by rw [h]; exact (List.mem_cons_of_mem _ (List.mem_cons_of_mem _ (List.mem_cons_of_mem _ (List.mem_cons_of_mem _ List.mem_cons_self)))))) fun h => .inl (by rw [List.mem_singleton.1 h]; exact List.mem_cons_self)) fun y => ?_; refine Kk (Qz y.L [_, _, _, _, _] (x.L)) ?_; change HL _ _ ((50, .tuple #[y.s.val, .int .i64 y.f, .int .i64 y.err]) :: _) ((rv, _) :: (rk, _) :: (r3, _) :: (r2, _) :: (r1, _) :: (y.L ++ (x.L))) _ _ _ _
 obtain ⟨hy1, hy2⟩ := Prod.mk.inj (y.eq.trans J22)
 obtain ⟨hy2, hy3⟩ := Prod.mk.inj hy2
 rw [hy2, hy3]; refine LS 4 [] rfl rfl ?_; refine LN rfl fun r10 => ?_; refine Jh (k := 0) (n := 1) (ys := y.s.cells) rfl rfl rfl rfl rfl rfl rfl rfl rfl ?_; refine Xf 9 [4] rfl rfl ?_; refine LR rfl (Jt (r := [_, _, _, _, _, _, _, _]) rfl rfl) ?_; refine J4 (n := 1) (sz := 8) (vs := [_]) (zs := [_, _, _, _, _, _, _, _]) (r := (xL yC).cells) rfl rfl rfl rfl rfl rfl rfl rfl rfl (by rw [JO]; exact rfl) rfl fun rw1 => ?_; refine JM (L0 := _ :: _ :: _ :: _ :: _ :: _ :: (y.L ++ x.L)) (xs := KA l25) (row := some (rv, 2, [])) (n := 2) (sz := 8) (b := 96) (news := (xL yC).cells) (List.perm_middle (l₁ := [_, _])) rfl rfl rfl rfl (kn 0 rfl) rfl rfl rfl rfl rfl (by decide) rfl rfl rfl (by decide) ⟨rfl, rfl⟩ (by decide) (by decide) fun ra cap sp hra => ?_
 refine LS 1 [] rfl rfl ?_; refine Kn (k := 5) (cs' := ((g25 r1 6 k25 (some (⟨ra, 0, none⟩, cap)))).cells.toArray) rfl rfl rfl rfl rfl rfl rfl rfl rfl rfl ?_
 have hg3 : GenL.In [tB r1, cB ra sp] (g25 r1 6 k25 (some (⟨ra, 0, none⟩, cap))) := Jbp List.mem_cons_self (qy (by decide)) (Jxc hra)
 have hg4 : GenL.In [tB r1, cB ra sp] (g25 r1 4 k25 (some (⟨ra, 0, none⟩, cap))) := Jbp List.mem_cons_self (qy (by decide)) (Jxc hra)
 refine JJ 4 rfl ?_; refine LR rfl (Jd (xs := (g25 r1 6 k25 (some (⟨ra, 0, none⟩, cap))).cells) (n := 20) rfl (kn 5 rfl) rfl rfl rfl) ?_; refine Ke rfl rfl rfl Jf3 (Y9 (R := [tB r1, cB ra sp]) hg3 (show (3 : Nat) ≤ 1000 by decide)) (fun q hq => (List.mem_cons.1 hq).elim (fun h => .inl (by rw [h]; exact (List.mem_cons_of_mem _ (List.mem_cons_of_mem _ (List.mem_cons_of_mem _ (List.mem_cons_of_mem _ (List.mem_cons_of_mem _ (List.mem_cons_of_mem _ List.mem_cons_self)))))))) fun h => .inl (by rw [List.mem_singleton.1 h]; exact List.mem_cons_self)) fun z => ?_; refine Kk (Qz z.L [_, _, _, _, _, _, _] (y.L ++ x.L)) ?_; change HL _ _ ((63, .tuple #[z.s.val, .int .i64 z.f, .int .i64 z.err]) :: _) ((ra, _) :: (rw1, _) :: (r10, _) :: (rk, _) :: (r3, _) :: (r2, _) :: (r1, _) :: (z.L ++ (y.L ++ x.L))) _ _ _ _
 obtain ⟨hz1, hz2⟩ := Prod.mk.inj (z.eq.trans J23)
 obtain ⟨hz2, hz3⟩ := Prod.mk.inj hz2
 rw [hz2, hz3]; refine LS 4 [] rfl rfl ?_; refine LN rfl fun r13 => ?_; refine Jh (k := 0) (n := 1) (ys := z.s.cells) rfl rfl rfl rfl rfl rfl rfl rfl rfl ?_; refine JJ 7 rfl ?_; refine Kn (k := 6) (cs' := ((g25 r1 4 k25 (some (⟨ra, 0, none⟩, cap)))).cells.toArray) rfl rfl rfl rfl rfl rfl rfl rfl rfl rfl ?_; refine JJ 4 rfl ?_; refine LR rfl (Jd (xs := (g25 r1 4 k25 (some (⟨ra, 0, none⟩, cap))).cells) (n := 20) rfl (kn 6 rfl) rfl rfl rfl) ?_; refine Ke rfl rfl rfl Jf3 (Y9 (R := [tB r1, cB ra sp]) hg4 (show (3 : Nat) ≤ 1000 by decide)) (fun q hq => (List.mem_cons.1 hq).elim (fun h => .inl (by rw [h]; exact (List.mem_cons_of_mem _ (List.mem_cons_of_mem _ (List.mem_cons_of_mem _ (List.mem_cons_of_mem _ (List.mem_cons_of_mem _ (List.mem_cons_of_mem _ (List.mem_cons_of_mem _ List.mem_cons_self))))))))) fun h => .inl (by rw [List.mem_singleton.1 h]; exact (List.mem_cons_of_mem _ List.mem_cons_self))) fun u => ?_; refine Kk (Qz u.L [_, _, _, _, _, _, _, _] (z.L ++ (y.L ++ x.L))) ?_; change HL _ _ ((70, .tuple #[u.s.val, .int .i64 u.f, .int .i64 u.err]) :: _) ((r13, _) :: (ra, _) :: (rw1, _) :: (r10, _) :: (rk, _) :: (r3, _) :: (r2, _) :: (r1, _) :: (u.L ++ (z.L ++ (y.L ++ x.L)))) _ _ _ _
 obtain ⟨hu1, hu2⟩ := Prod.mk.inj (u.eq.trans (J24 _))
 obtain ⟨hu2, hu3⟩ := Prod.mk.inj hu2
 rw [hu2, hu3]; refine LS 4 [] rfl rfl ?_; refine LN rfl fun r16 => ?_; refine Jh (k := 0) (n := 1) (ys := u.s.cells) rfl rfl rfl rfl rfl rfl rfl rfl rfl ?_; refine Xf 8 [6] rfl rfl ?_; refine LR rfl (Jz rfl x.ok.seg rfl) ?_; refine J3 (Jq4 (show _ = (1 : Int) by rw [← x.s.er_len, hx1]; rfl)) ?_; refine LS 11 [] rfl rfl ?_; refine LR rfl (vT rfl rfl rfl) ?_; refine J3 (show _ = Value.int .i64 32 from Jsm hl1) ?_; refine LS 8 [] rfl rfl ?_; refine LR rfl (vT rfl rfl rfl) ?_; refine J3 (show _ = Value.int .i64 32 from Jsm hl2) ?_; refine LS 5 [] rfl rfl ?_; refine LR rfl (X8 (a := cc) (b := hh) rfl rfl) ?_; refine J3 (J1c (J1d hne.symm)) ?_; refine Xf 8 [4] rfl rfl ?_; refine LR rfl (Jz rfl y.ok.seg rfl) ?_; refine J3 (Jq4 (show _ = (3 : Int) by rw [← y.s.er_len, hy1]; rfl)) ?_; refine Jx 22 rfl ?_; refine pT rfl rfl rfl fun w1 hs1 => ?_; exact ⟨rfl, hs1.keep⟩
end Go.Proofs.YtfaagelglpgpkaaGreatDoor
