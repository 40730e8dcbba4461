import Derived.Test.YtckoepmdmhdepaaGreatDoorZtStablef
open Go.Proofs.Tryz (prog)
set_option maxRecDepth 100000
namespace Go.Proofs.YtckoepmdmhdepaaGreatDoor
set_option linter.all false
open Go.SL Go.RowKit Go.Shelf
open Go.Proofs (Enters enters_of)
variable {at_ : Array TypeId} {s : BS} {v : Bool} {z z1 z2 z3 : CZ} {g : FuncId} {e hi lo : Int} {Z : Int × List It} {x y : ItL} {F R R' Rl : J3} {acc : List AxE} {ys : List ItL} {ts : List Nat} {cs vs : List Value} {α : Type} {post pre : List α} {a cap ch i q r r1 r2 r5 sz u : Nat} {row : QZ} {t : TxL} {c : UInt8} {w : World}
structure TxsN (ts : List TxE) where
  ys : List TxL
  row : QZ
  L : J3
  ok : rowOk 36 ys.length (Qv ys) row
  hr : ∀ q ∈ J9 33 (Qv ys) row, q ∈ L
  hx : ∀ a ∈ ys, a.In L
  er : ys.map TxL.er = ts
theorem Jvi (n : Nat) : (List.replicate n tx0L.cells).flatten = Qv (List.replicate n tx0L) := by
 unfold Qv
 induction n with
 | zero => rfl
 | succ n ih => rw [List.replicate_succ, List.replicate_succ, List.flatten_cons, List.flatMap_cons, ih]
theorem Jvj (a b : List TxL) : Qv (a ++ b) = Qv a ++ Qv b := by unfold Qv; rw [List.flatMap_append]
theorem YH {a b : List TxL} (t : TxL) : Qv (a ++ t :: b) = Qv a ++ (t.cells ++ Qv b) := by
 rw [Jvj]
 show _ ++ Qv (t :: b) = _
 unfold Qv; rw [List.flatMap_cons]
theorem jW (a : List TxL) : (Qv a).length = a.length * 36 := j6 TxL.len a
theorem Jvk (a b d : α) (Y B F : List α) : (a :: b :: (Y ++ (d :: (B ++ F)))).Perm (a :: d :: b :: (B ++ (F ++ Y))) := by
 have h := (B' (l₁ := Y) (l₂ := d :: (B ++ F)))
 have h2 : ((d :: (B ++ F)) ++ Y) = d :: (B ++ (F ++ Y)) := by simp
 rw [h2] at h; exact ((h.cons b).trans (List.Perm.swap d b _)).cons a
structure C1 (s sg : BS) (bs : List (Bool × Bool)) (tos0 : BS) (z0 : CZ) (n i : Nat) (done_ : List TxL) (F : J3) (zs : CZ) (tos : BS) (z : CZ) (k : Nat) : Prop where
  le : i ≤ n
  len : done_.length = i
  inn : ∀ a ∈ done_, a.In F
  eq : cL1 s sg bs [] (0, 0) tos0 z0 0 = cL1 s sg (bs.drop i) (done_.map TxL.er) zs tos z k
  zle : z.1 ≤ s.length
  sle : zs.1 ≤ sg.length
  kle : k = (done_.filter fun t => decide (t.kind = 0)).length
structure C2 (ch : Nat) (ts : List TxE) (ms gs : List Nat) (cs : List Bool) (RC : J3) (F : J3) (xs : List TxL) (j : Nat) (done_ : List TxL) (cc : List Bool) (pc : Pl) : Prop where
  le : j ≤ xs.length
  len : done_.length = j
  inn : ∀ a ∈ done_, a.In F
  seg : Seg RC cc.length (QG cc) pc
  eq : yD ch ts ms gs cs = done_.map TxL.er ++ yD ch (ts.drop j) (ms.drop j) (gs.drop j) cc
  kle : cc.length = ((xs.drop j).filter fun t => decide (t.kind = 0)).length
theorem Jvl {sg tos0 : BS} {at_ n k : Nat} {nb yb cs : List Bool} {zb1 zb2 zs0 z0 zm zg zc : CZ} {b1 b2 : Bool} {ts : List TxE} {ms gs : List Nat} (h1 : VO s n (at_, 0) = (nb, zb1)) (h2 : VO s n zb1 = (yb, zb2)) (h3 : KN s (64 * n) zb2 = ((sg, b1), zs0)) (h4 : KN s (20 * (n - nb.count true)) zs0 = ((tos0, b2), z0))
  (h5 : cL1 s sg (nb.zip yb) [] (0, 0) tos0 z0 0 = (ts, z, k)) (h6 : VX s n z = (ms, zm)) (h7 : VX s n zm = (gs, zg)) (h8 : VO s k zg = (cs, zc)) :
  jm s at_ n ch = if zc.2 ≠ 0 then ([], 0, zc.2) else if YW ch (yD ch ts ms gs cs) ≠ 0 then ([], 0, YW ch (yD ch ts ms gs cs)) else (yD ch ts ms gs cs, zc.1, 0) := by
 unfold jm; simp only [h1, h2, h3, h4, h5, h6, h7, h8]
theorem Jjj (ch : Nat) (ms gs : List Nat) (cc : List Bool) : yD ch [] ms gs cc = [] := by unfold yD; rfl
theorem Jek (s sg : BS) (no y : Bool) (r : List (Bool × Bool)) (acc : List TxE) (zs : CZ) (tos : BS) (z : CZ) (k : Nat) {w1 w2 : W4} {zs1 zs2 z' : CZ} {t' : TxE} (h1 : XH sg zs = (w1, zs1)) (h2 : XH sg zs1 = (w2, zs2)) (h3 : Xv s z (Jq6 w1 w2 y (Yy no tos)) = (t', z')) :
  cL1 s sg ((no, y) :: r) acc zs tos z k = cL1 s sg r (acc ++ [t']) zs2 (Jgs no tos) z' (if t'.kind = 0 then k + 1 else k) := by
 rw [cL1]; simp only [h1, h2, h3]
theorem xk {b : Bool} {r : List Bool} {p : Pl} (hs : Seg R (b :: r).length (QG (b :: r)) p) : Seg R r.length (QG r) (JU 1 1 p) := by
 have h := jf (sz := 1) hs (by unfold QG; simp) (Nat.le_add_left 1 r.length) (Lc')
 simp only [Nat.add_sub_cancel] at h
 have e : ((QG (b :: r)).drop (1 * 1)).take (r.length * 1) = QG r := List.take_of_length_le (by unfold QG; simp)
 rwa [e] at h
theorem TxL.In.upd (h : t.In R) {g c : Nat} (ha : VL a) (hg : VL g) (hc : VL c) : ({ t with nonce := a, gas := g, chain := c } : TxL).In R :=
 ⟨⟨hc, ha, h.ok.tip, h.ok.price, hg, h.ok.value, h.ok.auths, h.ok.y, h.ok.r, h.ok.s, h.ok.mint⟩, h.dest, h.data, h.source, h.from_, h.accL, h.accS, h.acc, h.auL, h.auS, h.au⟩
theorem Jvm {w1 w2 : W4} (h1 : w1.ok) (h2 : w2.ok) (y : Bool) (no : Bool) (tos : BS) : ({ tx0L with r := w1, s := w2, y := if y = true then 1 else 0, dest := Yy no tos } : TxL).In [] :=
 ⟨⟨QS, QS, w40_ok, w40_ok, QS, w40_ok, (fun a h => by cases h), by show (if y = true then 1 else 0 : Nat) < 18446744073709551616; split <;> decide, h1, h2, w40_ok⟩, by show (Yy no tos).length ≤ _; unfold Yy; split; exact Lb' (List.length_take_le _ _) m7; exact Z', Z', Z', Z', Z', Seg.nil, (fun a h => by cases h), Z', Seg.nil, (fun a h => by cases h)⟩
theorem Jq8 (s : BS) : (uW s).ok := W4.ok_of (ww s)
theorem Jzb  {at_ n : Nat} (hs : s.length ≤ 1000000) (ha : at_ ≤ s.length) (hn : n ≤ 512) (hc1 : 0 < ch) (hc2 : ch ≤ 4611686018427387904) :
    PureT (α := TxsN (jm s at_ n ch).1) prog 314 [Jk s, .int .i64 (at_ : Int), .int .i64 (n : Int), uV ch].toArray (fun y => .tuple #[JV y.ys.length y.row, .int .i64 ((jm s at_ n ch).2.1 : Int), .int .i64 (jm s at_ n ch).2.2]) [] (fun y => y.L) [] := by
  have ha0 : ((at_, 0) : CZ).1 ≤ s.length := ha
  have hT1 : ∀ q, _ := fun q => Jba (r := q) (n := n) ha0 hs m3
  have hnl := Yx (n := n) ha0
  have hzle1 := jV (n := n) ha0
  obtain ⟨⟨nb, zb1⟩, h1⟩ : ∃ g, VO s n (at_, 0) = g := ⟨_, rfl⟩
  rw [h1] at hT1 hnl hzle1; simp only at hnl hzle1
  have hT2 : ∀ q, _ := fun q => Jba (r := q) (n := n) hzle1 hs m3
  have hyl := Yx (n := n) hzle1
  have hzle2 := jV (n := n) hzle1
  obtain ⟨⟨yb, zb2⟩, h2⟩ : ∃ g, VO s n zb1 = g := ⟨_, rfl⟩
  rw [h2] at hT2 hyl hzle2; simp only at hyl hzle2
  have hT3 : ∀ q, _ := fun q => YF (r := q) (n := 64 * n) hzle2 m3 m3
  have hzle3 := Vx (n := 64 * n) hzle2
  have hsgl := Yv s (64 * n) zb2
  obtain ⟨⟨⟨sg, b1⟩, zs0⟩, h3⟩ : ∃ g, KN s (64 * n) zb2 = g := ⟨_, rfl⟩
  rw [h3] at hT3 hzle3 hsgl; simp only at hzle3 hsgl
  have hcnt : nb.count true ≤ n := by rw [← hnl]; exact List.count_le_length ..
  have hT4 : ∀ q, _ := fun q => YF (r := q) (n := 20 * (n - nb.count true)) hzle3 m3 m3
  have hzle4 := Vx (n := 20 * (n - nb.count true)) hzle3
  obtain ⟨⟨⟨tos0, b2⟩, z0⟩, h4⟩ : ∃ g, KN s (20 * (n - nb.count true)) zs0 = g := ⟨_, rfl⟩
  rw [h4] at hT4 hzle4; simp only at hzle4
  have hsgl : sg.length ≤ 1000000 := by omega
  refine Jq Tryz.func314 O O fun w => Kl (Jv 12 O (J4 mh (gr ?_))); refine J4 mh (EB ?_); refine J5 3 O (J4 mh (EB ?_)); refine J5 3 O (Nz ?_); refine KC O (J4 mh (LR O (Jy O O) ?_)); refine Dt ?_; refine Jl O (fun h16 => ?_) (fun h16 => ?_)
  exact absurd h16 ((by intro h; first | exact absurd h m7 | (have := of_decide_eq_true h; omega)))
  · try simp only [ZZ] at h16
    refine Hq ?_; refine NI ?_; refine JR (cs := List.toArray ([Jk s, .int .i64 (at_ : Int), .int .i64 0])) O O O O fun q => gp ?_; refine Jq4 (n := n) (b := 352) (sz := 36) (zs := tx0L.cells) O O O O O O O O O O m3 m3 fun ql => ?_; rw [Jvi]; refine JY (P') ?_; change HL _ _ _ (Kf q s (at_, 0) :: (ql, .cells (Qv (List.replicate n tx0L)).toArray 33 (0, 0)) :: []) _ _ _ _; refine g8 ?_; refine Jx (T := [Kf q s (at_, 0)]) (L0 := _) (Rl := []) (O') O O O Jnx (hT1 q) oN fun y => ?_
    obtain ⟨rn, hrn⟩ := y
    change rowOk 1 nb.length (QG nb) rn at hrn; refine J4 (show _ = Km nb.length (Ke rn) from KK hrn) (JY ((B' (l₁ := J9 4 (QG nb) rn)).cons _) ?_); change HL _ _ _ (Kf q s zb1 :: (_, _) :: J9 4 (QG nb) rn) _ _ _ _; refine gu ?_; refine Jx (T := [Kf q s zb1]) (L0 := _) (Rl := []) (O') O O O Jnx (hT2 q) oN fun y => ?_
    obtain ⟨ry, hry⟩ := y
    change rowOk 1 yb.length (QG yb) ry at hry; refine J4 (show _ = Km yb.length (Ke ry) from KK hry) (JY ((B' (l₁ := J9 4 (QG yb) ry)).cons _) ?_); change HL _ _ _ (Kf q s zb2 :: (_, _) :: (J9 4 (QG nb) rn ++ J9 4 (QG yb) ry)) _ _ _ _
    have hsn := Ks (e := 4) hrn m7
    have hsy := Ks (e := 4) hry m7
    refine J5 9 O ?_; refine J4 (show _ = Value.int .i64 ((64 * n : Nat) : Int) from by rw [wrap_i64 m3 m3]; congr 1 <;> omega) ?_; refine Jx (T := [Kf q s zb2]) (L0 := _) (Rl := []) (O') O O O wH (hT3 q) oN fun _ => ?_; change HL _ _ _ (Kf q s zs0 :: (_, _) :: (J9 4 (QG nb) rn ++ J9 4 (QG yb) ry)) _ _ _ _; refine HR ?_; refine NI ?_; refine JR (cs := List.toArray ([Jk sg, .int .i64 ((0 : Nat) : Int), .int .i64 0])) O O O O fun q2 => ?_; refine gp ?_; refine NR ?_; refine J5 8 O ?_; refine Ju O O O (enters_of Tryz.func330 m4 O) (Jqp m3 hsn) (fun q hq => Or.inl ((M' (M' (M' (W' hq)))))) ?_
    refine GV ?_; refine J4 (show _ = Value.int .i64 ((n - nb.count true : Nat) : Int) from by rw [wrap_i64 m3 m3]; congr 1 <;> omega) ?_
    refine GV ?_; refine J4 (show _ = Value.int .i64 ((20 * (n - nb.count true) : Nat) : Int) from by rw [wrap_i64 m3 m3]; congr 1 <;> omega) ?_; refine QW (T := [Kf q s zs0]) (L0 := _) (Rl := []) (P') O O O wH (hT4 q) oN fun _ => ?_; change HL _ _ _ (Kf q s z0 :: Kf q2 sg (0, 0) :: (_, _) :: (J9 4 (QG nb) rn ++ J9 4 (QG yb) ry)) _ _ _ _; refine H4 ?_; refine Jbb (A := [_, _, _]) (A' := [_, _, _]) [1, 0, 2] m7 O ?_; refine NG ?_; refine EQ ?_; refine JQ (σ := Nat × List TxL × J3 × CZ × BS × CZ × Nat) (fun g => C1 s sg (nb.zip yb) tos0 z0 n g.1 g.2.1 g.2.2.1 g.2.2.2.1 g.2.2.2.2.1 g.2.2.2.2.2.1 g.2.2.2.2.2.2) (fun g => [(2, .int .i64 (n : Int)), (3, uV ch), (11, Kj q), (12, .slice (some ⟨ql, 0, none⟩) n n), (13, Km nb.length (Ke rn)), (14, Km yb.length (Ke ry)), (17, Kj q2), (19, Jk g.2.2.2.2.1), (21, .int .i64 (g.2.2.2.2.2.2 : Int)), (86, .int .i64 (n : Int)), (87, .int .i64 (g.1 : Int))]) (fun g => Kf q2 sg g.2.2.2.1 :: Kf q s g.2.2.2.2.2.1 :: (ql, .cells (Qv (g.2.1 ++ List.replicate (n - g.1) tx0L)).toArray 33 (0, 0)) :: ((J9 4 (QG nb) rn ++ J9 4 (QG yb) ry) ++ g.2.2.1)) (fun _ _ _ => True) (fun g => n - g.1) (0, [], [], (0, 0), tos0, z0, 0) ⟨Z', rfl, (fun _ h => by cases h), rfl, hzle4, Z', rfl⟩ (lK rfl) (by rw [List.append_nil]; exact T') (fun _ _ h => h) ?_; rintro ⟨i, done_, F, zs, tos, z, k⟩ hI; simp only at hI
    have hi1 := hI.le
    change HC _ _ [(2, .int .i64 (n : Int)), (3, uV ch), (11, Kj q), (12, .slice (some ⟨ql, 0, none⟩) n n), (13, Km nb.length (Ke rn)), (14, Km yb.length (Ke ry)), (17, Kj q2), (19, Jk tos), (21, .int .i64 (k : Int)), (86, .int .i64 (n : Int)), (87, .int .i64 (i : Int))] (Kf q2 sg zs :: Kf q s z :: (ql, .cells (Qv (done_ ++ List.replicate (n - i) tx0L)).toArray 33 (0, 0)) :: ((J9 4 (QG nb) rn ++ J9 4 (QG yb) ry) ++ F)) _ _ _; refine gv ?_; refine cD (fun h29 => ?_) fun h29 => ?_
    · refine Ku 11 O ?_
      have hin : i < n := by omega
      have hki : k ≤ i := Lb' (Nat.le_of_eq hI.kle) (Lb' (List.length_filter_le _ _) (Nat.le_of_eq hI.len))
      obtain ⟨no, hno, _⟩ := Vh (show i < nb.length by omega)
      obtain ⟨yi, hyi, _⟩ := Vh (show i < yb.length by omega)
      obtain ⟨⟨w1, zs1⟩, hw1⟩ : ∃ g, XH sg zs = g := ⟨_, rfl⟩
      obtain ⟨⟨w2, zs2⟩, hw2⟩ : ∃ g, XH sg zs1 = g := ⟨_, rfl⟩
      have hsle1 : zs1.1 ≤ sg.length := by have := Jej hI.sle; rw [hw1] at this; exact this
      have hsle2 : zs2.1 ≤ sg.length := by have := Jej hsle1; rw [hw2] at this; exact this
      have hwo1 : w1.ok := by have h := congrArg Prod.fst hw1; simp only at h; rw [← h]; exact Jq8 _
      have hwo2 : w2.ok := by have h := congrArg Prod.fst hw2; simp only at h; rw [← h]; exact Jq8 _
      obtain ⟨⟨t', z'⟩, hcr⟩ : ∃ g, Xv s z (Jq6 w1 w2 yi (Yy no tos)) = g := ⟨_, rfl⟩
      have hzle' : z'.1 ≤ s.length := by have := Jq5 (Jq6 w1 w2 yi (Yy no tos)) hI.zle; rw [hcr] at this; exact this
      obtain ⟨post, hpost⟩ : ∃ post, Qv (List.replicate (n - (i + 1)) tx0L) = post := ⟨_, rfl⟩
      obtain ⟨pre, hpre⟩ : ∃ pre, Qv done_ = pre := ⟨_, rfl⟩
      have hpl : 0 + i * 36 = pre.length := by rw [← hpre, jW, hI.len, Nat.zero_add]
      have hcut : Qv (done_ ++ List.replicate (n - i) tx0L) = pre ++ (tx0L.cells ++ post) := by rw [show n - i = (n - (i + 1)) + 1 by omega, List.replicate_succ, YH, hpre, hpost]
      simp only [hcut]; refine Hq ?_
      have hW1 := Jjg (r := q2) hI.sle hsgl
      rw [hw1] at hW1; refine Jx (T := [Kf q2 sg zs]) (L0 := _) (Rl := []) (O') O O O (enters_of Tryz.func331 m4 O) hW1 oN fun _ => ?_; change HL _ _ _ (Kf q2 sg zs1 :: Kf q s z :: (ql, .cells (pre ++ (tx0L.cells ++ post)).toArray 33 (0, 0)) :: ((J9 4 (QG nb) rn ++ J9 4 (QG yb) ry) ++ F)) _ _ _ _; refine gl ?_
      have hW2 := Jjg (r := q2) hsle1 hsgl
      rw [hw2] at hW2; refine Jx (T := [Kf q2 sg zs1]) (L0 := _) (Rl := []) (O') O O O (enters_of Tryz.func331 m4 O) hW2 oN fun _ => ?_; change HL _ _ _ (Kf q2 sg zs2 :: Kf q s z :: (ql, .cells (pre ++ (tx0L.cells ++ post)).toArray 33 (0, 0)) :: ((J9 4 (QG nb) rn ++ J9 4 (QG yb) ry) ++ F)) _ _ _ _; refine Gu ?_; refine LR O (Ja (off' := pre.length + 21) O O O) (J2 (k := 2) (n := 4) (cs' := (pre ++ (({ tx0L with r := w1 } : TxL).cells ++ post)).toArray) (vs := (wC w1).toArray) rfl rfl rfl rfl rfl rfl rfl (yn (a := tx0L.cells) (k := 21) (n := 4) mn) (jT (a := tx0L.cells) (k := 21) (n := 4) mn) rfl (Gu ?_)); refine LR O (Ja (off' := pre.length + 25) O O O) (J2 (k := 2) (n := 4) (cs' := (pre ++ (({ tx0L with r := w1, s := w2 } : TxL).cells ++ post)).toArray) (vs := (wC w2).toArray) rfl rfl rfl rfl rfl rfl rfl (yn (a := ({ tx0L with r := w1 } : TxL).cells) (k := 25) (n := 4) mn) (jT (a := ({ tx0L with r := w1 } : TxL).cells) (k := 25) (n := 4) mn) rfl (g8 ?_))
      refine LR O (JG (j := i) O hsy O O O mg m3) (LR O (Qr (fun _ hq => Or.inl ((M' (M' (M' (W' (Y' hq))))))) O hsy m3 O (vK hyi)) (Dt ?_)); refine QR (α := Unit) (fun _ => True) (fun _ => [(2, .int .i64 (n : Int)), (3, uV ch), (11, Kj q), (12, .slice (some ⟨ql, 0, none⟩) n n), (13, Km nb.length (Ke rn)), (14, Km yb.length (Ke ry)), (17, Kj q2), (19, Jk tos), (21, .int .i64 (k : Int)), (22, .int .i64 (i : Int)), (86, .int .i64 (n : Int)), (87, .int .i64 (i : Int))]) (fun _ => Kf q2 sg zs2 :: Kf q s z :: (ql, .cells (pre ++ (({ tx0L with r := w1, s := w2, y := if yi = true then 1 else 0 } : TxL).cells ++ post)).toArray 33 (0, 0)) :: ((J9 4 (QG nb) rn ++ J9 4 (QG yb) ry) ++ F)) ?_ ?_
      · rintro _ _
        refine wh 6 O ?_
        refine LR O (JG (j := i) O hsn O O O mg m3) (LR O (Qr (fun _ hq => Or.inl ((M' (M' (M' (W' (W' hq))))))) O hsn m3 O (vK hno)) (gu ?_))
        refine J8 115 O (fun gb => ?_) (fun gb => ?_) <;> (try simp only [ZZ] at gb) <;> first | (refine JI O ?_) | (refine LK O ?_)
        all_goals refine ko ?_
        all_goals refine MQ ?_
        all_goals (
         refine kN ?_; refine QR (α := Unit) (fun _ => True) (fun _ => [(2, .int .i64 (n : Int)), (3, uV ch), (11, Kj q), (12, .slice (some ⟨ql, 0, none⟩) n n), (13, Km nb.length (Ke rn)), (14, Km yb.length (Ke ry)), (17, Kj q2), (19, Jk (Jgs no tos)), (21, .int .i64 (k : Int)), (22, .int .i64 (i : Int)), (86, .int .i64 (n : Int)), (87, .int .i64 (i : Int))]) (fun _ => Kf q2 sg zs2 :: Kf q s z :: (ql, .cells (pre ++ (({ tx0L with r := w1, s := w2, y := if yi = true then 1 else 0, dest := Yy no tos } : TxL).cells ++ post)).toArray 33 (0, 0)) :: ((J9 4 (QG nb) rn ++ J9 4 (QG yb) ry) ++ F)) ?_ ?_
         · rintro _ _
           refine wh 6 O (Gu ?_)
           have hR := Jy9 (r := q) (q := ql) (pre := pre) (post := post) hI.zle hs (Jvm hwo1 hwo2 yi no tos)
           rw [show (TxL.er ({ tx0L with r := w1, s := w2, y := if yi = true then 1 else 0, dest := Yy no tos } : TxL)) = Jq6 w1 w2 yi (Yy no tos) from rfl, hcr] at hR; refine Jbc (A := [_, _, _]) (A' := [_, _, _]) [1, 2, 0] m7 O (Jx (T := [Kf q s z, (ql, .cells (pre ++ (({ tx0L with r := w1, s := w2, y := if yi = true then 1 else 0, dest := Yy no tos } : TxL).cells ++ post)).toArray 33 (0, 0))]) (L0 := _) (Rl := []) (O') rfl rfl rfl (enters_of Tryz.func332 m4 rfl) hR oN fun y => ?_)
           obtain ⟨x, xL, xin, xer⟩ := y
           refine JY (Jvk _ _ _ xL (J9 4 (QG nb) rn ++ J9 4 (QG yb) ry) F) ?_; change HL _ _ _ (Kf q s z' :: Kf q2 sg zs2 :: (ql, .cells (pre ++ (x.cells ++ post)).toArray 33 (0, 0)) :: ((J9 4 (QG nb) rn ++ J9 4 (QG yb) ry) ++ (F ++ xL))) _ _ _ _; refine gp ?_; refine Gu ?_; refine gZ ?_; refine LR O (Jc (v := .int .i64 x.kind) O (kn 2 O) O mQ) (NQ ?_); refine cD (fun h42 => ?_) fun h42 => ?_
           · refine gz ?_; refine J4 (show _ = Value.int .i64 ((k + 1 : Nat) : Int) from by rw [wrap_i64 m3 m3]; congr 1 <;> omega) ?_; refine Dr ?_
             have hxk : x.kind = t'.kind := congrArg TxE.kind xer
             have hzi : (nb.zip yb)[i]? = some (no, yi) := List.getElem?_zip_eq_some.2 ⟨hno, hyi⟩
             have hdb : (nb.zip yb).drop i = (no, yi) :: (nb.zip yb).drop (i + 1) := by obtain ⟨h1, h2⟩ := La'.1 hzi; rw [List.drop_eq_getElem_cons h1, h2]
             have hstep := Jek s sg no yi ((nb.zip yb).drop (i + 1)) (done_.map TxL.er) zs tos z k hw1 hw2 hcr
             have hb : pre ++ (x.cells ++ post) = Qv ((done_ ++ [x]) ++ List.replicate (n - (i + 1)) tx0L) := by rw [Ld', List.singleton_append, YH, hpre, hpost]
             have hmap : (done_ ++ [x]).map TxL.er = done_.map TxL.er ++ [t'] := by rw [List.map_append]; show _ ++ [x.er] = _; rw [xer]
             have hinn : ∀ a ∈ done_ ++ [x], a.In (F ++ xL) := fun a ha => (G'.1 ha).elim (fun h => (hI.inn a h).mono fun q hq => W' hq) fun h => by rw [U'.1 h]; exact xin.mono fun q hq => Y' hq
             have hlen1 : (done_ ++ [x]).length = i + 1 := by rw [C', hI.len]; rfl
             refine Wy (A := [_, _, _]) (A' := [_, _, _]) [1, 0, 2] m7 O ?_
             (have hk0 : t'.kind = 0 := by omega
              rw [if_pos hk0] at hstep
              exact JL (i + 1, done_ ++ [x], F ++ xL, zs2, Jgs no tos, z', k + 1) ⟨by simp only; omega, hlen1, hinn, by simp only [hmap]; rw [hI.eq, hdb, hstep], hzle', hsle2, by show k + 1 = ((done_ ++ [x]).filter _).length; rw [List.filter_append, C', ← hI.kle]; simp [show x.kind = 0 from by omega]⟩ mj (lK rfl) nt (fun _ _ h => h))
           · refine gx ?_; refine gK ?_
             have hxk : x.kind = t'.kind := congrArg TxE.kind xer
             have hzi : (nb.zip yb)[i]? = some (no, yi) := List.getElem?_zip_eq_some.2 ⟨hno, hyi⟩
             have hdb : (nb.zip yb).drop i = (no, yi) :: (nb.zip yb).drop (i + 1) := by obtain ⟨h1, h2⟩ := La'.1 hzi; rw [List.drop_eq_getElem_cons h1, h2]
             have hstep := Jek s sg no yi ((nb.zip yb).drop (i + 1)) (done_.map TxL.er) zs tos z k hw1 hw2 hcr
             have hb : pre ++ (x.cells ++ post) = Qv ((done_ ++ [x]) ++ List.replicate (n - (i + 1)) tx0L) := by rw [Ld', List.singleton_append, YH, hpre, hpost]
             have hmap : (done_ ++ [x]).map TxL.er = done_.map TxL.er ++ [t'] := by rw [List.map_append]; show _ ++ [x.er] = _; rw [xer]
             have hinn : ∀ a ∈ done_ ++ [x], a.In (F ++ xL) := fun a ha => (G'.1 ha).elim (fun h => (hI.inn a h).mono fun q hq => W' hq) fun h => by rw [U'.1 h]; exact xin.mono fun q hq => Y' hq
             have hlen1 : (done_ ++ [x]).length = i + 1 := by rw [C', hI.len]; rfl
             refine Wy (A := [_, _, _]) (A' := [_, _, _]) [1, 0, 2] m7 O ?_
             (have hk0 : ¬ t'.kind = 0 := by omega
              rw [if_neg hk0] at hstep
              exact JL (i + 1, done_ ++ [x], F ++ xL, zs2, Jgs no tos, z', k) ⟨by simp only; omega, hlen1, hinn, by simp only [hmap]; rw [hI.eq, hdb, hstep], hzle', hsle2, by show k = ((done_ ++ [x]).filter _).length; rw [List.filter_append, C', ← hI.kle]; simp [show ¬ x.kind = 0 from by omega]⟩ mj (lK rfl) nt (fun _ _ h => h))
         · intro hJ
           refine Jl O (fun h43 => ?_) (fun h43 => ?_)
           · try exact Bool.noConfusion h43
             all_goals try simp only [ZZ] at h43
             all_goals (
              refine Kk [] [(0, .pure), (1, .pure), (2, .pure), (3, .pure), (4, .pure), (5, .pure), (6, .pure), (7, .pure), (8, .turn)] 9 [0, 1, 2, 3, 4, 5, 6, 7, 8] m4 m4 mb (gN ?_); refine ku ?_; refine Jr (k := 3) O O O O O (fun _ _ => Kt (kl := none) (kh := some (.i64, 20)) (m := 0) (n := 20) O O O O O O m3 m3 (r := tos.take 20) O) (Jr (k := 4) O O O O O (fun _ hS => (Jw O)) (Jr (k := 5) O O O O O (fun _ _ => Kt (kl := some (.i64, 20)) (kh := none) (m := 20) (n := tos.length) O O O O O O m3 (Lc') (r := tos.drop 20) n9) (Jr (k := 6) O O O O O (fun _ _ => Qn (j := i) (off' := pre.length) O O O O O m3 hpl) (Jr (k := 7) O O O O O (fun _ _ => Ja (off' := pre.length + 12) O O O) (Qy (k := 8) (q := 2) (cs' := (pre ++ (({ tx0L with r := w1, s := w2, y := if yi = true then 1 else 0, dest := tos.take 20 } : TxL).cells ++ post)).toArray) rfl rfl rfl rfl rfl rfl rfl rfl (Vy (a := ({ tx0L with r := w1, s := w2, y := if yi = true then 1 else 0 } : TxL).cells) (k := 12) mn) (Wb (a := ({ tx0L with r := w1, s := w2, y := if yi = true then 1 else 0 } : TxL).cells) (k := 12) mn) rfl (fun p hp => by cases hp) (KJ (JD 2 rfl ?_)))))))
              (have hd : Yy no tos = tos.take 20 := if_pos ⟨by assumption, by omega⟩
               have hd2 : Jgs no tos = tos.drop 20 := if_pos ⟨by assumption, by omega⟩
               simp only [hd, hd2] at hJ
               exact hJ _ _ () trivial (lK O) (T'))
              skip)
           try simp only [ZZ] at h43
           refine KF 1 O ?_
           (have hd : Yy no tos = [] := if_neg nF
            have hd2 : Jgs no tos = tos := if_neg nF
            simp only [hd, hd2] at hJ
            exact hJ _ _ () trivial (lK O) (T'))
         skip)
      intro hJ
      refine cD (fun h44 => ?_) fun h44 => ?_
      refine gz ?_; refine Gu ?_; refine LR O (Ja (off' := pre.length + 20) O O O) (Jm (k := 2) (cs' := (pre ++ (({ tx0L with r := w1, s := w2, y := 1 } : TxL).cells ++ post)).toArray) rfl rfl rfl rfl rfl rfl (Vy (a := ({ tx0L with r := w1, s := w2 } : TxL).cells) (k := 20) mn) rfl (Wb (a := ({ tx0L with r := w1, s := w2 } : TxL).cells) (k := 20) mn) rfl (JD 1 rfl ?_))
      (obtain rfl : yi = true := by assumption
       exact hJ _ _ () trivial (lK O) (T'))
      refine KF 1 O ?_
      (obtain rfl : yi = false := by assumption
       exact hJ _ _ () trivial (lK O) (T'))
    · refine gv ?_
      obtain rfl : n = i := by omega
      have hdn := hI.len
      simp only [Nat.sub_self, List.replicate_zero, List.append_nil]
      have hL1 : cL1 s sg (nb.zip yb) [] (0, 0) tos0 z0 0 = (done_.map TxL.er, z, k) := by rw [hI.eq, List.drop_eq_nil_of_le (by rw [List.length_zip]; omega)]; rfl
      have hkn : k ≤ n := by rw [hI.kle, ← hdn]; exact List.length_filter_le _ _
      have hT6 := Jjf (r := q) (n := n) hI.zle hs m3
      have hml := ZA s n z
      have hmu := Jjh s n z
      have hzle6 := Jei (n := n) hI.zle
      obtain ⟨⟨ms, zm⟩, hm⟩ : ∃ g, VX s n z = g := ⟨_, rfl⟩
      rw [hm] at hT6 hml hmu hzle6
      have hT7 := Jjf (r := q) (n := n) hzle6 hs m3
      have hgl := ZA s n zm
      have hgu := Jjh s n zm
      have hzle7 := Jei (n := n) hzle6
      obtain ⟨⟨gs, zg⟩, hg⟩ : ∃ g, VX s n zm = g := ⟨_, rfl⟩
      rw [hg] at hT7 hgl hgu hzle7
      have hT8 := Jba (r := q) (n := k) hzle7 hs m3
      have hcl := Yx (n := k) hzle7
      have hzle8 := jV (n := k) hzle7
      obtain ⟨⟨cs, zc⟩, hc⟩ : ∃ g, VO s k zg = g := ⟨_, rfl⟩
      rw [hc] at hT8 hcl hzle8; simp only at hml hmu hgl hgu hcl hT6 hT7 hT8 hzle6 hzle7 hzle8
      have hcg := Jvl (ch := ch) h1 h2 h3 h4 hL1 hm hg hc
      refine gz ?_; refine Jx (T := [Kf q s z]) (L0 := _) (Rl := []) (P') O O O (enters_of Tryz.func333 m4 O) hT6 oN fun y => ?_
      obtain ⟨rm, hrm⟩ := y
      change rowOk 1 ms.length (ms.map uV) rm at hrm; refine J4 (show _ = Km ms.length (Ke rm) from KK hrm) (JY ((B' (l₁ := J9 22 (ms.map uV) rm)).cons _) ?_); change HL _ _ _ (Kf q s zm :: Kf q2 sg zs :: (ql, .cells (Qv done_).toArray 33 (0, 0)) :: (((J9 4 (QG nb) rn ++ J9 4 (QG yb) ry) ++ F) ++ J9 22 (ms.map uV) rm)) _ _ _ _; refine gu ?_; refine Jx (T := [Kf q s zm]) (L0 := _) (Rl := []) (O') O O O (enters_of Tryz.func333 m4 O) hT7 oN fun y => ?_
      obtain ⟨rg, hrg⟩ := y
      change rowOk 1 gs.length (gs.map uV) rg at hrg; refine J4 (show _ = Km gs.length (Ke rg) from KK hrg) (JY ((B' (l₁ := J9 22 (gs.map uV) rg)).cons _) ?_); change HL _ _ _ (Kf q s zg :: Kf q2 sg zs :: (ql, .cells (Qv done_).toArray 33 (0, 0)) :: ((((J9 4 (QG nb) rn ++ J9 4 (QG yb) ry) ++ F) ++ J9 22 (ms.map uV) rm) ++ J9 22 (gs.map uV) rg)) _ _ _ _; refine J5 8 O (Jx (T := [Kf q s zg]) (L0 := _) (Rl := []) (O') O O O Jnx hT8 oN fun y => ?_)
      obtain ⟨rc, hrc⟩ := y
      change rowOk 1 cs.length (QG cs) rc at hrc; refine J4 (show _ = Km cs.length (Ke rc) from KK hrc) (JY ((B' (l₁ := J9 4 (QG cs) rc)).cons _) ?_); change HL _ _ _ (Kf q s zc :: Kf q2 sg zs :: (ql, .cells (Qv done_).toArray 33 (0, 0)) :: (((((J9 4 (QG nb) rn ++ J9 4 (QG yb) ry) ++ F) ++ J9 22 (ms.map uV) rm) ++ J9 22 (gs.map uV) rg) ++ J9 4 (QG cs) rc)) _ _ _ _
      have hsm := Ks (e := 22) hrm m7
      have hsgg := Ks (e := 22) hrg m7
      have hsc0 := Ks (e := 4) hrc m7
      refine g8 ?_; refine EQ ?_; refine JQ (σ := Nat × List TxL × List Bool × Pl) (fun g => C2 ch (done_.map TxL.er) ms gs cs (J9 4 (QG cs) rc) F done_ g.1 g.2.1 g.2.2.1 g.2.2.2) (fun g => [(3, uV ch), (11, Kj q), (12, .slice (some ⟨ql, 0, none⟩) n n), (23, Km ms.length (Ke rm)), (24, Km gs.length (Ke rg)), (25, Km g.2.2.1.length g.2.2.2), (152, .int .i64 (n : Int)), (153, .int .i64 (g.1 : Int))]) (fun g => Kf q s zc :: Kf q2 sg zs :: (ql, .cells (Qv (g.2.1 ++ done_.drop g.1)).toArray 33 (0, 0)) :: (((((J9 4 (QG nb) rn ++ J9 4 (QG yb) ry) ++ F) ++ J9 22 (ms.map uV) rm) ++ J9 22 (gs.map uV) rg) ++ J9 4 (QG cs) rc)) (fun _ _ _ => True) (fun g => n - g.1) (0, [], cs, Ke rc) ⟨Z', rfl, (fun _ h => by cases h), hsc0, rfl, by rw [hcl, hI.kle]; rfl⟩ (lK rfl) (T') (fun _ _ h => h) ?_; rintro ⟨j, done2, cc, pc⟩ hJ2; simp only at hJ2
      have hj1 := hJ2.le
      change HC _ _ _ (Kf q s zc :: Kf q2 sg zs :: (ql, .cells (Qv (done2 ++ done_.drop j)).toArray 33 (0, 0)) :: (((((J9 4 (QG nb) rn ++ J9 4 (QG yb) ry) ++ F) ++ J9 22 (ms.map uV) rm) ++ J9 22 (gs.map uV) rg) ++ J9 4 (QG cs) rc)) _ _ _; refine gv ?_; refine cD (fun h51 => ?_) fun h51 => ?_
      · refine Ku 11 O ?_
        obtain ⟨t, htj, hmt⟩ := Vh (show j < done_.length by omega)
        obtain ⟨a, haj, ham⟩ := Vh (show j < ms.length by omega)
        obtain ⟨g, hgj, hgm⟩ := Vh (show j < gs.length by omega)
        have hdj : done_.drop j = t :: done_.drop (j + 1) := by obtain ⟨h1, h2⟩ := La'.1 htj; rw [List.drop_eq_getElem_cons h1, h2]
        have hmj : ms.drop j = a :: ms.drop (j + 1) := by obtain ⟨h1, h2⟩ := La'.1 haj; rw [List.drop_eq_getElem_cons h1, h2]
        have hgj2 : gs.drop j = g :: gs.drop (j + 1) := by obtain ⟨h1, h2⟩ := La'.1 hgj; rw [List.drop_eq_getElem_cons h1, h2]
        have hua := hmu a ham
        have hug := hgu g hgm
        obtain ⟨post, hpost⟩ : ∃ post, Qv (done_.drop (j + 1)) = post := ⟨_, rfl⟩
        obtain ⟨pre, hpre⟩ : ∃ pre, Qv done2 = pre := ⟨_, rfl⟩
        have hpl : 0 + j * 36 = pre.length := by rw [← hpre, jW, hJ2.len, Nat.zero_add]
        have hcut : Qv (done2 ++ done_.drop j) = pre ++ (t.cells ++ post) := by rw [hdj, YH, hpre, hpost]
        simp only [hcut]; refine Kk (J9 22 (ms.map uV) rm ++ J9 22 (gs.map uV) rg) [(0, .pure), (1, .pure), (2, .pure), (3, .pure), (4, .pure), (5, .pure), (6, .pure), (7, .pure), (8, .pure), (9, .pure), (10, .pure), (11, .pure), (12, .pure), (13, .pure), (14, .pure), (15, .pure), (16, .pure), (17, .turn), (18, .pure), (19, .pure), (20, .turn), (21, .pure), (22, .pure), (23, .turn)] 24 [0, 1, 2, 3, 4, 5, 6, 7, 8, 9, 10, 11, 12, 13, 14, 15, 16, 17, 18, 19, 20, 21, 22, 23] m4 m4 (fun p hp => (G'.1 hp).elim (fun h => (M' (M' (M' (W' (W' (Y' h))))))) (fun h => (M' (M' (M' (W' (Y' h))))))) (gN ?_); refine ku ?_; refine D4 ?_; refine Jr (k := 4) O O O O O (fun _ hS => (Jw O)) (DV ?_); refine Ex ?_
        refine Jr (k := 8) O O O O O (fun _ _ => JG (j := j) O hsm O O O mg m3) (Jr (k := 9) O O O O O (fun _ hS => Qr (fun q hq => .inl (hS q (W' hq))) O hsm m3 O (show (ms.map uV)[j]? = some (uV a) from by rw [List.getElem?_map, haj]; rfl)) ?_); refine D0 ?_; refine Jr (k := 11) O O O O O (fun _ hS => (Jw O)) ?_
        refine Jr (k := 12) O O O O O (fun _ _ => JG (j := j) O hsgg O O O mg m3) (Jr (k := 13) O O O O O (fun _ hS => Qr (fun q hq => .inl (hS q (Y' hq))) O hsgg m3 O (show (gs.map uV)[j]? = some (uV g) from by rw [List.getElem?_map, hgj]; rfl)) ?_); refine Jr (k := 14) O O O O O (fun _ hS => (Jw O)) (Jr (k := 15) O O O O O (fun _ _ => Qn (j := j) (off' := pre.length) O O O O O m3 hpl) (Jr (k := 16) O O O O O (fun _ _ => Ja (off' := pre.length + 2) O O O) (Qy (k := 17) (q := 2) (cs' := (pre ++ (({ t with nonce := a } : TxL).cells ++ post)).toArray) rfl rfl rfl rfl rfl rfl rfl rfl (Vy (a := t.cells) (k := 2) mn) (Wb (a := t.cells) (k := 2) mn) rfl (fun p hp => (G'.1 hp).elim (fun h => (M' (M' (M' (W' (W' (Y' h))))))) (fun h => (M' (M' (M' (W' (Y' h))))))) (Jr (k := 18) rfl rfl rfl rfl rfl (fun _ _ => Qn (j := j) (off' := pre.length) rfl rfl rfl rfl rfl m3 hpl) (Jr (k := 19) rfl rfl rfl rfl rfl (fun _ _ => Ja (off' := pre.length + 11) rfl rfl rfl) (Qy (k := 20) (q := 2) (cs' := (pre ++ (({ t with nonce := a, gas := g } : TxL).cells ++ post)).toArray) rfl rfl rfl rfl rfl rfl rfl rfl (Vy (a := ({ t with nonce := a } : TxL).cells) (k := 11) mn) (Wb (a := ({ t with nonce := a } : TxL).cells) (k := 11) mn) rfl (fun p hp => (G'.1 hp).elim (fun h => (M' (M' (M' (W' (W' (Y' h))))))) (fun h => (M' (M' (M' (W' (Y' h))))))) (Jr (k := 21) rfl rfl rfl rfl rfl (fun _ _ => Qn (j := j) (off' := pre.length) rfl rfl rfl rfl rfl m3 hpl) (Jr (k := 22) rfl rfl rfl rfl rfl (fun _ _ => Ja (off' := pre.length + 1) rfl rfl rfl) (Qy (k := 23) (q := 2) (cs' := (pre ++ (({ t with nonce := a, gas := g, chain := ch } : TxL).cells ++ post)).toArray) rfl rfl rfl rfl rfl rfl rfl rfl (Vy (a := ({ t with nonce := a, gas := g } : TxL).cells) (k := 1) mn) (Wb (a := ({ t with nonce := a, gas := g } : TxL).cells) (k := 1) mn) rfl (fun p hp => (G'.1 hp).elim (fun h => (M' (M' (M' (W' (W' (Y' h))))))) (fun h => (M' (M' (M' (W' (Y' h))))))) (KJ (gp ?_))))))))))); refine LR O (Qn (j := j) (off' := pre.length) O O O O O m3 hpl) (gZ ?_); refine LR O (Jc (v := .int .i64 t.kind) O (kn 2 O) O mQ) (NQ ?_); refine cD (fun h56 => ?_) fun h56 => ?_
        · refine Ku 2 O ?_
          have hk0 : t.kind = 0 := by omega
          have hcc : 0 < cc.length := by rw [hJ2.kle, hdj, List.filter_cons_of_pos MG]; exact Nat.succ_pos _
          obtain ⟨b, cr, rfl⟩ : ∃ b cr, cc = b :: cr := by
            match cc, hcc with
            | b :: cr, _ => exact ⟨b, cr, rfl⟩
          have hsc := hJ2.seg
          refine NG ?_
          refine LR O (JG (j := 0) O hsc O O O mg mf) (LR O (Qr (fun _ hq => Or.inl ((M' (M' (M' (Y' hq)))))) O hsc m3 O (show (QG (b :: cr))[0]? = some (.bool b) from rfl)) (NQ ?_)); refine cD (fun h59 => ?_) fun h59 => ?_
          · refine gz ?_; refine LR O (Qn (j := j) (off' := pre.length) O O O O O m3 hpl) (LR O (Ja (off' := pre.length + 1) O O O) (Jm (k := 2) (cs' := (pre ++ (({ t with nonce := a, gas := g, chain := 0 } : TxL).cells ++ post)).toArray) rfl rfl rfl rfl rfl rfl (Vy (a := ({ t with nonce := a, gas := g, chain := ch } : TxL).cells) (k := 1) mn) rfl (Wb (a := ({ t with nonce := a, gas := g, chain := ch } : TxL).cells) (k := 1) mn) rfl (kV ?_))); refine Hm ?_
            have hds : (done_.map TxL.er).drop j = t.er :: (done_.drop (j + 1)).map TxL.er := by rw [← List.map_drop, hdj]; rfl
            have hs2 : ∀ c X Y Z, yD ch (t.er :: X) (a :: Y) (g :: Z) c = { t.er with nonce := a, gas := g, chain := if t.kind = 0 ∧ c.headD true = false then 0 else ch } :: yD ch X Y Z (if t.kind = 0 then c.tail else c) := fun _ _ _ _ => by rw [yD]; rfl
            have hdr : (done_.map TxL.er).drop (j + 1) = (done_.drop (j + 1)).map TxL.er := (List.map_drop ..).symm
            (obtain rfl : b = false := by assumption
             have hb : pre ++ (({ t with nonce := a, gas := g, chain := 0 } : TxL).cells ++ post) = Qv ((done2 ++ [({ t with nonce := a, gas := g, chain := 0 } : TxL)]) ++ done_.drop (j + 1)) := by rw [Ld', List.singleton_append, YH, hpre, hpost]
             exact JL (j + 1, done2 ++ [({ t with nonce := a, gas := g, chain := 0 } : TxL)], cr, JU 1 1 pc) ⟨by simp only; omega, by simp only [C', hJ2.len]; rfl, (fun y hy => (G'.1 hy).elim (hJ2.inn y) fun h => by rw [U'.1 h]; exact (hI.inn t hmt).upd hua hug QS), xk hsc, by rw [hJ2.eq, hds, hmj, hgj2, hs2, if_pos ⟨hk0, rfl⟩, if_pos hk0, hdr, List.map_append, Ld']; rfl, by have h := hJ2.kle; rw [hdj, List.filter_cons_of_pos MG] at h; simpa using h⟩ mj (lK rfl) nt (fun _ _ h => h))
          · refine gw ?_; refine Hm ?_
            have hds : (done_.map TxL.er).drop j = t.er :: (done_.drop (j + 1)).map TxL.er := by rw [← List.map_drop, hdj]; rfl
            have hs2 : ∀ c X Y Z, yD ch (t.er :: X) (a :: Y) (g :: Z) c = { t.er with nonce := a, gas := g, chain := if t.kind = 0 ∧ c.headD true = false then 0 else ch } :: yD ch X Y Z (if t.kind = 0 then c.tail else c) := fun _ _ _ _ => by rw [yD]; rfl
            have hdr : (done_.map TxL.er).drop (j + 1) = (done_.drop (j + 1)).map TxL.er := (List.map_drop ..).symm
            (obtain rfl : b = true := by assumption
             have hb : pre ++ (({ t with nonce := a, gas := g, chain := ch } : TxL).cells ++ post) = Qv ((done2 ++ [({ t with nonce := a, gas := g, chain := ch } : TxL)]) ++ done_.drop (j + 1)) := by rw [Ld', List.singleton_append, YH, hpre, hpost]
             exact JL (j + 1, done2 ++ [({ t with nonce := a, gas := g, chain := ch } : TxL)], cr, JU 1 1 pc) ⟨by simp only; omega, by simp only [C', hJ2.len]; rfl, (fun y hy => (G'.1 hy).elim (hJ2.inn y) fun h => by rw [U'.1 h]; exact (hI.inn t hmt).upd hua hug (show ch < 18446744073709551616 by omega)), xk hsc, by rw [hJ2.eq, hds, hmj, hgj2, hs2, if_neg (fun h => by cases h.2), if_pos hk0, hdr, List.map_append, Ld']; rfl, by have h := hJ2.kle; rw [hdj, List.filter_cons_of_pos MG] at h; simpa using h⟩ mj (lK rfl) nt (fun _ _ h => h))
        · refine gx ?_; refine J4 mm (Nd ?_)
          have hds : (done_.map TxL.er).drop j = t.er :: (done_.drop (j + 1)).map TxL.er := by rw [← List.map_drop, hdj]; rfl
          have hs2 : ∀ c X Y Z, yD ch (t.er :: X) (a :: Y) (g :: Z) c = { t.er with nonce := a, gas := g, chain := if t.kind = 0 ∧ c.headD true = false then 0 else ch } :: yD ch X Y Z (if t.kind = 0 then c.tail else c) := fun _ _ _ _ => by rw [yD]; rfl
          have hdr : (done_.map TxL.er).drop (j + 1) = (done_.drop (j + 1)).map TxL.er := (List.map_drop ..).symm
          (have hk0 : ¬ t.kind = 0 := by omega
           have hb : pre ++ (({ t with nonce := a, gas := g, chain := ch } : TxL).cells ++ post) = Qv ((done2 ++ [({ t with nonce := a, gas := g, chain := ch } : TxL)]) ++ done_.drop (j + 1)) := by rw [Ld', List.singleton_append, YH, hpre, hpost]
           exact JL (j + 1, done2 ++ [({ t with nonce := a, gas := g, chain := ch } : TxL)], cc, pc) ⟨by simp only; omega, by simp only [C', hJ2.len]; rfl, (fun y hy => (G'.1 hy).elim (hJ2.inn y) fun h => by rw [U'.1 h]; exact (hI.inn t hmt).upd hua hug (show ch < 18446744073709551616 by omega)), hJ2.seg, by rw [hJ2.eq, hds, hmj, hgj2, hs2, if_neg (fun h => hk0 h.1), if_neg hk0, hdr, List.map_append, Ld']; rfl, by have h := hJ2.kle; rw [hdj, List.filter_cons_of_neg MG] at h; exact h⟩ mj (lK O) nt (fun _ _ h => h))
      · refine Ku 7 O ?_
        obtain rfl : n = j := by omega
        have hd2 : done2.length = n := hJ2.len
        have hdrop : done_.drop n = [] := List.drop_eq_nil_of_le m3
        simp only [hdrop, List.append_nil]
        have hts : yD ch (done_.map TxL.er) ms gs cs = done2.map TxL.er := by rw [hJ2.eq, show (done_.map TxL.er).drop n = [] from List.drop_eq_nil_of_le mM, Jjj, List.append_nil]
        rw [hts] at hcg
        have hrowL : J9 33 (Qv done2) (some (ql, n, [])) = [(ql, .cells (Qv done2).toArray 33 (0, 0))] := by show [(ql, Obj.cells (Qv done2 ++ []).toArray 33 (0, 0))] = _; rw [List.append_nil]
        have hrowK : rowOk 36 done2.length (Qv done2) (some (ql, n, [])) := ⟨jW _, by rw [hd2]; rfl⟩
        have hin2 : ∀ x ∈ done2, x.In ((ql, .cells (Qv done2).toArray 33 (0, 0)) :: (((((J9 4 (QG nb) rn ++ J9 4 (QG yb) ry) ++ F) ++ J9 22 (ms.map uV) rm) ++ J9 22 (gs.map uV) rg) ++ J9 4 (QG cs) rc)) := fun x hx => (hJ2.inn x hx).mono fun p hp => M' (W' (W' (W' (Y' hp))))
        have hCK := Jgb (R := (ql, .cells (Qv done2).toArray 33 (0, 0)) :: (((((J9 4 (QG nb) rn ++ J9 4 (QG yb) ry) ++ F) ++ J9 22 (ms.map uV) rm) ++ J9 22 (gs.map uV) rg) ++ J9 4 (QG cs) rc)) (xs := done2) (p := some (⟨ql, 0, none⟩, n)) (c := ch) m3 ((Ks (e := 33) hrowK m7).mono fun p hp => by rw [hrowL, U'] at hp; rw [hp]; exact N') hin2
        obtain ⟨ec, hec⟩ : ∃ ec, YW ch (done2.map TxL.er) = ec := ⟨_, rfl⟩
        rw [hec] at hCK hcg; rw [hd2] at hCK; refine gz ?_
        refine N5 ?_; refine gu ?_
        refine J8 199 O (fun gb => ?_) (fun gb => ?_) <;> (try simp only [ZZ] at gb) <;> first | (refine JI O ?_) | (refine LK O ?_)
        all_goals refine Ns ?_
        all_goals refine Ns ?_
        all_goals first | (refine Ju O O O (enters_of Tryz.func31 m4 O) hCK (fun q hq => (F'.1 hq).elim (fun h => Or.inl (h ▸ (M' (M' N')))) fun hq => Or.inl (M' (M' (M' hq)))) ?_) | refine LK O ?_
        all_goals first | (refine Jx (T := [Kf q s zc]) (L0 := _) (Rl := []) (O') O O O Xo (Vs q s zc ec) oN fun _ => ?_) | refine LK O ?_
        all_goals refine MQ ?_
        all_goals (
         refine kN ?_; refine Jl O (fun h68 => ?_) (fun h68 => ?_)
         try simp only [ZZ] at h68
         refine Dz ?_; refine KB 7 m4 m4 (N0 ?_)
         refine Nk ?_; refine kc ?_; refine Gk ?_; refine gA ?_; refine GJ fun w1 hs1 => ?_
         first
           | (have hC : jm s at_ n ch = ([], 0, zc.2) := by rw [hcg]; exact if_pos m3
              rw [hC]
              exact ⟨⟨[], none, [], ⟨rfl, rfl⟩, (fun _ h => by cases h), (fun _ h => by cases h), rfl⟩, rfl, hs1.weakL (S')⟩)
           | (have hz0 : zc.2 = 0 := by omega
              have hke : JE zc ec = (zc.1, ec) := if_pos hz0
              have hC : jm s at_ n ch = ([], 0, ec) := by rw [hcg, if_neg m3]; exact if_pos mF
              rw [hC]; rw [hke] at hs1; refine ⟨⟨[], none, [], ⟨rfl, rfl⟩, (fun _ h => by cases h), (fun _ h => by cases h), rfl⟩, ?_, hs1.weakL (S')⟩
              simp only [QD, hke]; rfl)
         · try exact Bool.noConfusion h68
           all_goals try simp only [ZZ] at h68
           all_goals (
            refine D5 ?_; refine KB 8 m4 m4 (kr ?_); refine N0 ?_
            refine Nk ?_; refine kc ?_; refine Gk ?_; refine GN ?_; refine GJ fun w1 hs1 => ?_
            (have hz0 : zc.2 = 0 := by omega
             have hke : JE zc ec = (zc.1, ec) := if_pos hz0
             have he0 : ec = 0 := by simp_all
             have hC : jm s at_ n ch = (done2.map TxL.er, zc.1, 0) := by rw [hcg, if_neg m3, if_neg m3]
             rw [hC]; refine ⟨⟨done2, some (ql, n, []), (ql, .cells (Qv done2).toArray 33 (0, 0)) :: (((((J9 4 (QG nb) rn ++ J9 4 (QG yb) ry) ++ F) ++ J9 22 (ms.map uV) rm) ++ J9 22 (gs.map uV) rg) ++ J9 4 (QG cs) rc), hrowK, (by rw [hrowL]; intro p hp; rw [U'.1 hp]; exact N'), hin2, rfl⟩, ?_, hs1.weakL (.cons _ (.cons _ (T')))⟩
             simp only [QD, Qt, he0, hd2]; rfl)
            skip)
         skip)
def KQ (r : Nat) (s : BS) (ch : Nat) (z : CZ) : Nat × Obj := (r, .cells #[Jk s, .int .i64 (z.1 : Int), .int .i64 z.2, uV ch] 353 (0, 0))
theorem YI (r : Nat) (s : BS) (ch : Nat) (z : CZ) (e : Int) : PureT (α := Unit) prog 311 [Kj r, .int .i64 e].toArray (fun _ => .bool (decide ((JE z e).2 = 0))) [KQ r s ch z] (fun _ => [KQ r s ch (JE z e)]) [] := by
 obtain ⟨a, e0⟩ := z
 refine Jq Tryz.func311 O O fun w => Kl ?_
 unfold KQ
 refine Jv 10 O ?_
 refine Gt ?_; refine cD (fun g => ?_) fun g => ?_
 refine Di ?_
 refine Nx ?_; refine gp ?_
 refine N5 ?_; refine EN fun w1 hs1 => ?_
 (have hk : JE (a, e0) e = (a, e) := if_pos (by show e0 = 0; omega)
  rw [hk]
  exact ⟨(), congrArg (fun b => Ending.returned (Value.bool b)) (VZ _ _), hs1⟩)
 ·refine Hq ?_
  refine N5 ?_; refine EN fun w1 hs1 => ?_
  (have hk : JE (a, e0) e = (a, e0) := if_neg MH
   rw [hk]
   exact ⟨(), congrArg (fun b => Ending.returned (Value.bool b)) (VZ _ _), hs1⟩)
theorem Jjk {n : Nat} (ha : z.1 ≤ s.length) (hs : s.length ≤ 1000000000) (hn : n ≤ 1000000000) : PureT (α := Unit) prog 310 [Kj r, .int .i64 (n : Int)].toArray (fun _ => Jk (KN s n z).1.1) [KQ r s ch z] (fun _ => [KQ r s ch (KN s n z).2]) [] := by
  obtain ⟨a, e0⟩ := z
  simp only at ha; refine Jq Tryz.func310 O O fun w => Kl ?_
  unfold KQ
  refine Ku 7 O (KB 19 m4 m4 (N0 ?_))
  refine Nk ?_; refine gP ?_; refine kr ?_
  refine vr 10 O (fun gb => ?_) (fun gb => ?_) <;> (try simp only [ZZ] at gb) <;> first | (refine Jt O O O (Jw O) ?_) | (refine Kp O O O ?_)
  all_goals refine Nw ?_
  all_goals first | refine Jt O O O (JJ O O) ?_ | refine Kp O O O ?_
  all_goals refine Nw ?_
  all_goals first | (refine Jt O O O (JH O O O) ?_; refine WK mO ?_) | refine Kp O O O ?_
  all_goals refine DC ?_
  all_goals refine GQ ?_
  all_goals (
   refine KR (JD 1 O (V0 1 O ?_)); refine Jl O (fun g => ?_) (fun g => ?_)
   · try exact Bool.noConfusion g
     all_goals try simp only [ZZ] at g
     all_goals (
      refine gz ?_
      refine MP ?_
      refine Nx ?_; refine g8 ?_
      refine Gt ?_; refine Jl O (fun g => ?_) (fun g => ?_)
      try simp only [ZZ] at g
      refine KF 7 O (N3 fun w1 hs1 => ?_)
      (have hk : KN s n (a, e0) = (([], false), (a, 3)) := by unfold KN; rw [if_neg Mo, if_pos (by show s.length - a < n; omega)]
       rw [hk]; exact ⟨(), rfl, hs1⟩)
      try exact Bool.noConfusion g
      skip)
   · try simp only [ZZ] at g
     refine DE ?_
     refine Gt ?_; refine cD (fun g => ?_) fun g => ?_
     refine KF 7 O (N3 fun w1 hs1 => ?_)
     (have hk : KN s n (a, e0) = (([], false), (a, e0)) := if_pos ML
      rw [hk]; exact ⟨(), rfl, hs1⟩)
     · refine Hq ?_
       refine N5 ?_; refine gu ?_; refine J4 nA (Ho ?_)
       refine Nx ?_; refine NQ ?_; refine KB 16 m4 m4 (N0 ?_)
       refine Gg ?_; refine Gk ?_; refine GN ?_; refine N3 fun w1 hs1 => ?_
       (have hk : KN s n (a, e0) = (((s.take (a + n)).drop a, true), (a + n, 0)) := by unfold KN; rw [if_neg Mo, if_neg (by show ¬ s.length - a < n; omega)]
        obtain rfl : e0 = 0 := by omega
        rw [hk]; exact ⟨(), rfl, hs1⟩)
   skip)
def Xw (s : BS) (z : CZ) : Nat × CZ := if z.2 ≠ 0 then (0, z) else ((KO s z.1).1, if (JE z (KO s z.1).2.2).2 = 0 then ((KO s z.1).2.1, 0) else JE z (KO s z.1).2.2)
theorem ZB (h : z.1 ≤ s.length) : (Xw s z).2.1 ≤ s.length := by
 unfold Xw
 split
 ·exact h
 ·rename_i h0
  simp only []
  split
  ·rename_i h1
   unfold JE at h1
   rw [if_pos m3] at h1; exact (jc h1).2.2.2.1
  ·rw [Qt]; exact h
theorem Jgt (s : BS) (z : CZ) : VL (Xw s z).1 := by
 unfold Xw
 split
 ·exact QS
 ·exact Jai s z.1
theorem Jgu (hs : s.length ≤ 1000000000) : PureT (α := Unit) prog 309 [Kj r].toArray (fun _ => uV (Xw s z).1) [KQ r s ch z] (fun _ => [KQ r s ch (Xw s z).2]) [] := by
 obtain ⟨a, e0⟩ := z
 have hU : Pure prog 182 [Jk s, .int .i64 (a : Int)].toArray (Jsv (KO s a)) := X9 m3 _
 obtain ⟨⟨un, ut, ue⟩, hu⟩ : ∃ g, KO s a = g := ⟨_, rfl⟩
 have hcb : Xw s (a, e0) = if e0 ≠ 0 then (0, (a, e0)) else (un, if (JE (a, e0) ue).2 = 0 then (ut, 0) else JE (a, e0) ue) := by unfold Xw; simp only [hu]
 rw [hu] at hU; refine Jq Tryz.func309 O O fun w => Hr ?_
 refine MP ?_; refine LR O (Jc (v := .int .i64 e0) O (kn 0 O) O O) (NQ ?_); refine cD (fun h4 => ?_) fun h4 => ?_
 refine KF 7 O (N3 fun w1 hs1 => ?_)
 (have hk : Xw s (a, e0) = (0, (a, e0)) := by rw [hcb]; exact if_pos m3
  rw [hk]; exact ⟨(), rfl, hs1⟩)
 ·refine D5 ?_; refine KB 16 m4 m4 (DF ?_); refine Jt O O O (Jc (v := Jk s) O (kn 0 O) O O) (DF ?_); refine Jt O O O (Jc (v := .int .i64 (a : Int)) O (kn 0 O) O O) (Vu O O O Jh5 hU (kr ?_)); refine EG ?_; refine EG ?_; refine EG ?_; refine kc ?_; refine Gk ?_; refine g8 ?_; refine Jx (T := [KQ r s ch (a, e0)]) (L0 := []) (Rl := []) (O') O O O wG (YI r s ch (a, e0) ue) oN fun _ => ?_; change HL _ _ _ [KQ r s ch (JE (a, e0) ue)] _ _ _ _; refine Dt ?_; refine cD (fun h9 => ?_) fun h9 => ?_
  refine Di ?_; refine Jm (k := 0) (cs' := #[Jk s, .int .i64 (ut : Int), .int .i64 (JE (a, e0) ue).2, uV ch]) O O O O O O O O O O (JD 9 O (N3 fun w1 hs1 => ?_))
  (have hz : (JE (a, e0) ue).2 = 0 := by simp_all
   have hk : Xw s (a, e0) = (un, (ut, 0)) := by rw [hcb, if_neg m3, if_pos hz]
   rw [hk]; rw [hz] at hs1; exact ⟨(), rfl, hs1⟩)
  ·refine KF 9 O (N3 fun w1 hs1 => ?_)
   (have hz : ¬ (JE (a, e0) ue).2 = 0 := by simp_all
    have hk : Xw s (a, e0) = (un, JE (a, e0) ue) := by rw [hcb, if_neg m3, if_neg hz]
    rw [hk]; exact ⟨(), rfl, hs1⟩)
structure ShE where
  time : Nat
  epoch : Nat
  parent : BS
  hash : BS
def yq (s : BS) (z : CZ) : ShE × CZ :=
 let t := Xw s z
 let e := Xw s t.2
 let b := KN s 40 e.2
 (⟨t.1, e.1, if b.2.2 = 0 then b.1.1.take 20 else [], if b.2.2 = 0 then b.1.1.drop 20 else []⟩, b.2)
def shC (h : ShE) : List Value := [uV h.time, uV h.epoch, Jk h.parent, Jk h.hash, .slice none 0 0]
theorem Jvn (ha : z.1 ≤ s.length) (hs : s.length ≤ 1000000) : PureT (α := Unit) prog 259 [Kj r].toArray (fun _ => .agg (shC (yq s z).1).toArray) [KQ r s ch z] (fun _ => [KQ r s ch (yq s z).2]) [] := by
  have hN1 := Jgu (r := r) (s := s) (ch := ch) (z := z) m3
  have hle1 := ZB ha
  obtain ⟨⟨tn, z1⟩, h1⟩ : ∃ g, Xw s z = g := ⟨_, rfl⟩
  rw [h1] at hN1 hle1
  have hN2 := Jgu (r := r) (s := s) (ch := ch) (z := z1) m3
  have hle2 := ZB hle1
  obtain ⟨⟨en, z2⟩, h2⟩ : ∃ g, Xw s z1 = g := ⟨_, rfl⟩
  rw [h2] at hN2 hle2
  have hT := Jjk (r := r) (s := s) (ch := ch) (z := z2) (n := 40) hle2 m3 m3
  have hyes : ∀ {u}, KN s 40 z2 = u → u.2.2 = 0 → u.1.1.length = 40 := by
    rintro u rfl h0
    unfold KN at h0 ⊢
    split at h0
    exact absurd h0 ma
    split at h0
    cases h0
    rename_i a1 a2
    rw [if_neg a1, if_neg a2]
    show ((s.take (z2.1 + 40)).drop z2.1).length = 40
    exact EX
  obtain ⟨⟨⟨b, bo⟩, z3⟩, h3⟩ : ∃ g, KN s 40 z2 = g := ⟨_, rfl⟩
  rw [h3] at hT
  have hbl := hyes h3
  have hsh : yq s z = (⟨tn, en, if z3.2 = 0 then b.take 20 else [], if z3.2 = 0 then b.drop 20 else []⟩, z3) := by unfold yq; simp only [h1, h2, h3]
  rw [hsh]; simp only at hN1 hN2 hT hbl; refine Jq Tryz.func259 O O fun w => DI fun r2 => ?_; refine NQ ?_
  refine wp [] [(0, .pure), (1, .pure), (2, .pure), (3, .turn), (4, .pure), (5, .pure), (6, .pure), (7, .turn), (8, .pure), (9, .grow (Wg yF (.cells #[.int .u64 0, .int .u64 0, .string ⟨#[]⟩, .string ⟨#[]⟩, .slice none 0 0] 25 (0, 0))))] 10 4 [0, 1, 2, 4, 5, 6] (.two 3 (.two 7 (.two 8 (.one 9 (.nil)) 9 (.one 8 (.nil))) 9 (.one 7 (.one 8 (.nil)))) 9 (.one 3 (.one 7 (.one 8 (.nil))))) m4 m4 mb (NE ?_); refine Hc ?_; refine Xt (ym ?k1_a ?k1_b)
  case' k1_a =>
    first | (refine KH (k := 3) (T0 := [KQ r s ch z]) (L0 := [(r3, _), (r2, _)]) (E' := fun _ => KQ r s ch z1 :: [(r3, _), (r2, _)]) (Rl := []) ml (fun _ => O') O O O O O Zh hN1 oN (fun _ p hp => nomatch hp) fun _ => ?_) | (refine KH (k := 3) (T0 := [KQ r s ch z]) (L0 := [(r2, _)]) (E' := fun _ => KQ r s ch z1 :: [(r2, _)]) (Rl := []) ml (fun _ => O') O O O O O Zh hN1 oN (fun _ p hp => nomatch hp) fun _ => ?_)
    refine Xt (ym ?k1a_a ?k1a_b)
    case' k1a_a =>
      first | (refine KH (k := 7) (T0 := [KQ r s ch z1]) (L0 := [(r3, _), (r2, _)]) (E' := fun _ => KQ r s ch z2 :: [(r3, _), (r2, _)]) (Rl := []) ml (fun _ => O') O O O O O Zh hN2 oN (fun _ p hp => nomatch hp) fun _ => ?_) | (refine KH (k := 7) (T0 := [KQ r s ch z1]) (L0 := [(r2, _)]) (E' := fun _ => KQ r s ch z2 :: [(r2, _)]) (Rl := []) ml (fun _ => O') O O O O O Zh hN2 oN (fun _ p hp => nomatch hp) fun _ => ?_)
      refine Xt (ym ?k1aa_a ?k1aa_b)
      case' k1aa_a =>
        refine GI ?_; refine Xt (Xu ?_); refine D8 fun r3 => ?_; refine Xt (jl ?_)
      case' k1aa_b =>
        refine D8 fun r3 => ?_; refine Xt (Xu ?_); refine GI ?_; refine Xt (jl ?_)
    case' k1a_b =>
      refine D8 fun r3 => ?_; refine Xt (Xu ?_)
      first | (refine KH (k := 7) (T0 := [KQ r s ch z1]) (L0 := [(r3, _), (r2, _)]) (E' := fun _ => KQ r s ch z2 :: [(r3, _), (r2, _)]) (Rl := []) ml (fun _ => O') O O O O O Zh hN2 oN (fun _ p hp => nomatch hp) fun _ => ?_) | (refine KH (k := 7) (T0 := [KQ r s ch z1]) (L0 := [(r2, _)]) (E' := fun _ => KQ r s ch z2 :: [(r2, _)]) (Rl := []) ml (fun _ => O') O O O O O Zh hN2 oN (fun _ p hp => nomatch hp) fun _ => ?_)
      refine Xt (Xu ?_); refine GI ?_; refine Xt (jl ?_)
  case' k1_b =>
    refine D8 fun r3 => ?_; refine Xt (Xu ?_)
    first | (refine KH (k := 3) (T0 := [KQ r s ch z]) (L0 := [(r3, _), (r2, _)]) (E' := fun _ => KQ r s ch z1 :: [(r3, _), (r2, _)]) (Rl := []) ml (fun _ => O') O O O O O Zh hN1 oN (fun _ p hp => nomatch hp) fun _ => ?_) | (refine KH (k := 3) (T0 := [KQ r s ch z]) (L0 := [(r2, _)]) (E' := fun _ => KQ r s ch z1 :: [(r2, _)]) (Rl := []) ml (fun _ => O') O O O O O Zh hN1 oN (fun _ p hp => nomatch hp) fun _ => ?_)
    refine Xt (Xu ?_)
    first | (refine KH (k := 7) (T0 := [KQ r s ch z1]) (L0 := [(r3, _), (r2, _)]) (E' := fun _ => KQ r s ch z2 :: [(r3, _), (r2, _)]) (Rl := []) ml (fun _ => O') O O O O O Zh hN2 oN (fun _ p hp => nomatch hp) fun _ => ?_) | (refine KH (k := 7) (T0 := [KQ r s ch z1]) (L0 := [(r2, _)]) (E' := fun _ => KQ r s ch z2 :: [(r2, _)]) (Rl := []) ml (fun _ => O') O O O O O Zh hN2 oN (fun _ p hp => nomatch hp) fun _ => ?_)
    refine Xt (Xu ?_); refine GI ?_; refine Xt (jl ?_)
  all_goals refine KJ ?_
  all_goals first | (refine Je (k := 0) (n := 5) (ys := [uV tn, uV en, Jk [], Jk [], .slice none 0 0]) O O O O O O O O O ?_) | (refine Je (k := 1) (n := 5) (ys := [uV tn, uV en, Jk [], Jk [], .slice none 0 0]) O O O O O O O O O ?_)
  all_goals first | (change HL _ _ _ [KQ r s ch z2, (r3, _), (r2, _)] _ _ _ _) | (refine JY (P') ?_; change HL _ _ _ [KQ r s ch z2, (r3, _), (r2, _)] _ _ _ _)
  all_goals (
   refine JD 1 O (wh 5 O ?_)
   refine MP ?_; refine Jx (T := [KQ r s ch z2]) (L0 := [_, _]) (Rl := []) (O') O O O (enters_of Tryz.func310 m4 O) hT oN fun _ => ?_; change HL _ _ _ [KQ r s ch z3, (r3, _), (r2, _)] _ _ _ _; refine J5 8 O ?_
   refine F2 ?_; refine LR O (Jc (v := .int .i64 z3.2) O (kn 0 O) O O) (NQ ?_); refine cD (fun h6 => ?_) fun h6 => ?_
   refine Kk [] [(0, .pure), (1, .pure), (2, .pure), (3, .pure), (4, .pure), (5, .turn), (6, .pure), (7, .turn)] 8 [0, 1, 2, 3, 4, 5, 6, 7] m4 m4 mb (Ew ?_); refine Jr (k := 1) O O O O O (fun _ _ => Kt (kl := none) (kh := some (.i64, 20)) (m := 0) (n := 20) O O O O O O m3 (by have := hbl m3; omega) (r := b.take 20) rfl) (ku ?_); refine Jr (k := 3) O O O O O (fun _ _ => Kt (kl := some (.i64, 20)) (kh := none) (m := 20) (n := b.length) O O O O O O (by have := hbl m3; omega) (Lc') (r := b.drop 20) n9) ?_
   refine DU ?_; refine Qy (k := 5) (q := 1) (cs' := #[uV tn, uV en, Jk (b.take 20), Jk [], .slice none 0 0]) O O O O O O O O O O O (fun p hp => nomatch hp) ?_
   refine Jr (k := 6) O O O O O (fun _ hS => (Ja O O m0)) (Qy (k := 7) (q := 1) (cs' := #[uV tn, uV en, Jk (b.take 20), Jk (b.drop 20), .slice none 0 0]) O O O O O O O O O O O (fun p hp => nomatch hp) ?_); refine KJ (kV ?_)
   refine kO ?_
   (refine Jh O O (.cons (Jj (vs := [uV tn, uV en, Jk (b.take 20), Jk (b.drop 20), .slice none 0 0]) O (kn 2 O) O O) .nil) (fun w1 hs1 => ?_)
    rw [if_pos m3, if_pos m3]
    exact ⟨(), rfl, hs1.weakL (.cons_cons _ (S'))⟩)
   refine gw ?_
   refine kO ?_
   (refine Jh O O (.cons (Jj (vs := [uV tn, uV en, Jk [], Jk [], .slice none 0 0]) O (kn 2 O) O O) .nil) (fun w1 hs1 => ?_)
    rw [if_neg m3, if_neg m3]
    exact ⟨(), rfl, hs1.weakL (.cons_cons _ (S'))⟩)
   skip)
theorem Zn (h : e ≠ 0) : (JE z e).2 ≠ 0 := by unfold JE; split; exact h; assumption
def W0 (s : BS) (z : CZ) : (List Bool × List Nat) × CZ :=
 let n := Xw s z
 let z1 := if n.1 = 0 then JE n.2 2 else n.2
 let z2 := if 16 < n.1 then JE z1 5 else z1
 if z2.2 ≠ 0 then (([], []), z2) else
 let b := KN s (Ve n.1) z2
 if b.2.2 ≠ 0 then (([], []), b.2) else
 let u := Vi b.1.1 n.1
 let z3 := JE b.2 u.2
 if z3.2 ≠ 0 then (([], []), z3) else
 let v := W5 s n.1 [] z3.1
 ((u.1, v.1), if (JE z3 v.2.2).2 = 0 then (v.2.1, 0) else JE z3 v.2.2)
theorem Jzc (ha : z.1 ≤ s.length) (hs : s.length ≤ 1000000) : PureT (α := Jy7 (W0 s z).1.1 × Ju8 (W0 s z).1.2) prog 260 [Kj r].toArray (fun y => .tuple #[JV (W0 s z).1.1.length y.1.1, JV (W0 s z).1.2.length y.2.1]) [KQ r s ch z]
  (fun y => KQ r s ch (W0 s z).2 :: (J9 4 (QG (W0 s z).1.1) y.1.1 ++ J9 22 ((W0 s z).1.2.map uV) y.2.1)) [] := by
 have hN := Jgu (r := r) (s := s) (ch := ch) (z := z) m3
 have hle := ZB ha
 have hnu := Jgt s z
 obtain ⟨⟨n, zn⟩, hn⟩ : ∃ g, Xw s z = g := ⟨_, rfl⟩
 rw [hn] at hN hle hnu; simp only at hle hnu
 have hnu : n < 18446744073709551616 := hnu
 obtain ⟨z1, hz1⟩ : ∃ z1, (if n = 0 then JE zn 2 else zn) = z1 := ⟨_, rfl⟩
 obtain ⟨z2, hz2⟩ : ∃ z2, (if 16 < n then JE z1 5 else z1) = z2 := ⟨_, rfl⟩
 have hle2 : z2.1 ≤ s.length := by
  have e1 : z1.1 = zn.1 := by rw [← hz1]; split; exact Qt _ _; rfl
  have e2 : z2.1 = z1.1 := by rw [← hz2]; split; exact Qt _ _; rfl
  omega
 have hn16 : z2.2 = 0 → n ≤ 16 := fun h => by
  rcases Nat.lt_or_ge 16 n with h2 | h2
  rw [if_pos h2] at hz2; rw [← hz2] at h; exact absurd h (Zn m7)
  exact h2
 obtain ⟨⟨⟨b, bo⟩, zb⟩, hb⟩ : ∃ g, KN s (Ve n) z2 = g := ⟨_, rfl⟩
 have hbl : b.length ≤ 1000000 := by have := Yv s (Ve n) z2; rw [hb] at this; exact Lb' this hs
 have hble : zb.1 ≤ s.length := by have := Vx (n := Ve n) hle2; rw [hb] at this; exact this
 obtain ⟨⟨uo, ue⟩, hu⟩ : ∃ g, Vi b n = g := ⟨_, rfl⟩
 obtain ⟨z3, hz3⟩ : ∃ z3, JE zb ue = z3 := ⟨_, rfl⟩
 have hz31 : z3.1 ≤ s.length := by rw [← hz3, Qt]; exact hble
 obtain ⟨⟨vv, vt, ve⟩, hv⟩ : ∃ g, W5 s n [] z3.1 = g := ⟨_, rfl⟩
 have hsb : W0 s z = if z2.2 ≠ 0 then (([], []), z2) else if zb.2 ≠ 0 then (([], []), zb) else if z3.2 ≠ 0 then (([], []), z3) else ((uo, vv), if (JE z3 ve).2 = 0 then (vt, 0) else JE z3 ve) := by
  unfold W0; simp only [hn, hz1, hz2, hb, hu, hz3, hv]
 refine Jq Tryz.func260 O O fun w => Hr ?_
 refine MP ?_; refine Jx (T := [KQ r s ch z]) (L0 := []) (Rl := []) (O') O O O Zh hN oN fun _ => ?_; change HL _ _ _ [KQ r s ch zn] _ _ _ _; refine E8 ?_; refine QR (α := Unit) (fun _ => True) (fun _ => [(0, Kj r), (4, uV n)]) (fun _ => [KQ r s ch z1]) ?_ ?_
 ·rintro _ _
  refine V0 8 O (QR (α := Unit) (fun _ => True) (fun _ => [(0, Kj r), (4, uV n)]) (fun _ => [KQ r s ch z2]) ?_ ?_)
  ·rintro _ _
   refine wh 6 O ?_
   refine F2 ?_; refine LR O (Jc (v := .int .i64 z2.2) O (kn 0 O) O O) (NQ ?_); refine cD (fun h9 => ?_) fun h9 => ?_
   refine GL ?_; refine MT fun w1 hs1 => ?_
   (have hk : W0 s z = (([], []), z2) := by rw [hsb]; exact if_pos m3
    rw [hk]
    exact ⟨(⟨none, ⟨rfl, rfl⟩⟩, ⟨none, ⟨rfl, rfl⟩⟩), rfl, hs1.weakL (.cons_cons _ (S'))⟩)
   ·refine D5 ?_
    have hn16 := hn16 m3
    refine gz ?_; refine JT m3 m3 (Ec ?_); refine gu ?_; refine J4 mV ?_
    refine GV ?_; refine J4 mW (KC O (J4 mX ?_))
    have hT := Jjk (r := r) (s := s) (ch := ch) (z := z2) (n := Ve n) hle2 m3 (by unfold Ve; omega)
    rw [hb] at hT; refine Jx (T := [KQ r s ch z2]) (L0 := []) (Rl := []) (O') O O O (enters_of Tryz.func310 m4 O) hT oN fun _ => ?_; change HL _ _ _ [KQ r s ch zb] _ _ _ _; refine J5 8 O ?_
    refine F2 ?_; refine LR O (Jc (v := .int .i64 zb.2) O (kn 0 O) O O) (NQ ?_); refine cD (fun h15 => ?_) fun h15 => ?_
    refine GL ?_; refine MT fun w1 hs1 => ?_
    (have hk : W0 s z = (([], []), zb) := by rw [hsb, if_neg m3]; exact if_pos m3
     rw [hk]
     exact ⟨(⟨none, ⟨rfl, rfl⟩⟩, ⟨none, ⟨rfl, rfl⟩⟩), rfl, hs1.weakL (.cons_cons _ (S'))⟩)
    refine Hq ?_
    have hU := Jee hbl (n := n) m3
    rw [hu] at hU; refine KA O O O (enters_of Tryz.func312 m4 O) hU oN fun y => ?_
    obtain ⟨ro, hro⟩ := y
    change rowOk 1 uo.length (QG uo) ro at hro; refine gc ?_; change HL _ _ _ (KQ r s ch zb :: J9 4 (QG uo) ro) _ _ _ _; refine MR ?_; refine J5 9 O ?_
    refine MP ?_; refine gl ?_
    have hk3 := YI r s ch zb ue
    rw [hz3] at hk3; refine Jx (T := [KQ r s ch zb]) (L0 := J9 4 (QG uo) ro) (Rl := []) (O') O O O wG hk3 oN fun _ => ?_; change HL _ _ _ (KQ r s ch z3 :: J9 4 (QG uo) ro) _ _ _ _; refine NQ ?_; refine cD (fun h20 => ?_) fun h20 => ?_
    refine GL ?_; refine MT fun w1 hs1 => ?_
    (have hz : z3.2 ≠ 0 := by simp_all
     have hk : W0 s z = (([], []), z3) := by rw [hsb, if_neg m3, if_neg m3]; exact if_pos hz
     rw [hk]
     exact ⟨(⟨none, ⟨rfl, rfl⟩⟩, ⟨none, ⟨rfl, rfl⟩⟩), rfl, hs1.weakL (.cons_cons _ (S'))⟩)
    refine D5 ?_; refine Kk [KQ r s ch z3] [(0, .pure), (1, .pure), (2, .pure), (3, .pure), (4, .pure), (5, .pure), (6, .pure), (7, .pure), (8, .pure), (9, .pure), (10, .pure), (11, .turn), (12, .pure), (13, .pure), (14, .pure), (15, .pure), (16, .pure), (17, .pure), (18, .pure)] 19 [0, 1, 2, 3, 4, 5, 6, 7, 8, 9, 10, 11, 12, 13, 14, 15, 16, 17, 18] m4 m4 (fun p hp => by rw [U'.1 hp]; exact N') (g6 ?_); refine Jr (k := 9) O O O O O (fun _ hS => Jc (v := .int .i64 (z3.1 : Int)) O (.inl (hS _ (J0 (n := 0) O))) O O) (D0 ?_)
    have hR := Jjd (s := s) m3 (n := n) (a0 := z3.1) m3 hz31
    rw [hv] at hR; refine KH (k := 11) (T0 := []) (L0 := KQ r s ch z3 :: J9 4 (QG uo) ro) (E' := fun y => KQ r s ch z3 :: (J9 4 (QG uo) ro ++ J9 22 (vv.map uV) y.1)) (Rl := []) (O') (fun y => B' (l₁ := J9 22 (vv.map uV) y.1)) O O O O O (enters_of Tryz.func313 m4 O) hR oN (fun _ p hp => by rw [U'.1 hp]; exact N') fun y => Jr (k := 12) O O O O O (fun _ hS => (Jw O)) (Jr (k := 13) O O O O O (fun _ hS => (Jb O O)) (Jr (k := 14) O O O O O (fun _ hS => (Jb O O)) (Jr (k := 15) O O O O O (fun _ hS => (Jb O O)) (Jr (k := 16) O O O O O (fun _ hS => (J7 O)) (Jr (k := 17) O O O O O (fun _ hS => (J7 O)) (Jr (k := 18) O O O O O (fun _ hS => (J7 O)) (KJ (Ec ?_)))))))); refine gl ?_
    obtain ⟨rv, hrv⟩ := y
    change rowOk 1 vv.length (vv.map uV) rv at hrv; refine Jx (T := [KQ r s ch z3]) (L0 := _) (Rl := []) (O') O O O wG (YI r s ch z3 ve) oN fun _ => ?_; change HL _ _ _ (KQ r s ch (JE z3 ve) :: (J9 4 (QG uo) ro ++ J9 22 (vv.map uV) rv)) _ _ _ _; refine Dt ?_; refine cD (fun h25 => ?_) fun h25 => ?_
    refine Di ?_
    refine MP ?_; refine Jm (k := 0) (cs' := #[Jk s, .int .i64 (vt : Int), .int .i64 (JE z3 ve).2, uV ch]) O O O O O O O O O O (JD 11 O (MT fun w1 hs1 => ?_))
    (have hz : (JE z3 ve).2 = 0 := by simp_all
     have hk : W0 s z = ((uo, vv), (vt, 0)) := by rw [hsb, if_neg m3, if_neg m3, if_neg mF, if_pos hz]
     rw [hk]; rw [hz] at hs1
     exact ⟨(⟨ro, hro⟩, ⟨rv, hrv⟩), rfl, hs1⟩)
    refine KF 11 O (MT fun w1 hs1 => ?_)
    (have hz : ¬ (JE z3 ve).2 = 0 := by simp_all
     have hk : W0 s z = ((uo, vv), JE z3 ve) := by rw [hsb, if_neg m3, if_neg m3, if_neg mF, if_neg hz]
     rw [hk]
     exact ⟨(⟨ro, hro⟩, ⟨rv, hrv⟩), rfl, hs1⟩)
  intro hJ
  refine cD (fun h28 => ?_) fun h28 => ?_
  refine gz ?_
  refine MP ?_; refine Jx (T := [KQ r s ch z1]) (L0 := []) (Rl := []) (O') O O O wG (YI r s ch z1 5) oN fun _ => ?_; change HL _ _ _ [KQ r s ch (JE z1 5)] _ _ _ _; refine JD 1 O ?_
  (rw [if_pos m3] at hz2
   subst hz2
   exact hJ _ _ () trivial (lK O) (T'))
  refine KF 1 O ?_
  (rw [if_neg m3] at hz2
   subst hz2
   exact hJ _ _ () trivial (lK O) (T'))
 ·intro hJ
  refine cD (fun h29 => ?_) fun h29 => ?_
  refine gz ?_
  refine MP ?_; refine Jx (T := [KQ r s ch zn]) (L0 := []) (Rl := []) (O') O O O wG (YI r s ch zn 2) oN fun _ => ?_; change HL _ _ _ [KQ r s ch (JE zn 2)] _ _ _ _; refine JD 1 O ?_
  (rw [if_pos m3] at hz1
   subst hz1
   exact hJ _ _ () trivial (lK O) (T'))
  ·refine KF 1 O ?_
   (rw [if_neg m3] at hz1
    subst hz1
    exact hJ _ _ () trivial (lK O) (T'))
def YZ : List Nat → Nat → CZ → Nat × CZ
 | [], a, z => (a, z)
 | n :: r, a, z => YZ r (a + min n 513) (if 512 < a + min n 513 then JE z 5 else z)
theorem Jjl : ∀ (l : List Nat) (a : Nat) {z : CZ}, z.2 ≠ 0 → (YZ l a z).2.2 ≠ 0
 | [], a, z, h => h
 | n :: r, a, z, h => by
  rw [YZ]; refine Jjl r _ ?_
  split
  ·exact Zn m7
  ·exact h
theorem Jgv : ∀ (l : List Nat) (a : Nat) (z : CZ), (YZ l a z).2.1 = z.1
 | [], a, z => rfl
 | n :: r, a, z => by
  rw [YZ, Jgv r]
  split
  ·exact Qt _ _
  ·rfl
theorem yr : ∀ (l : List Nat) (a : Nat) {z : CZ}, a ≤ 512 → (YZ l a z).2.2 = 0 → (YZ l a z).1 = a + l.sum ∧ a + l.sum ≤ 512 ∧ (YZ l a z).2 = z
 | [], a, z, ha, h => ⟨rfl, by simpa using ha, rfl⟩
 | n :: r, a, z, ha, h => by
  rw [YZ] at h ⊢
  by_cases h1 : 512 < a + min n 513
  ·rw [if_pos h1] at h
   exact absurd h (Jjl r _ (Zn m7))
  ·rw [if_neg h1] at h ⊢
   obtain ⟨h2, h3, h4⟩ := yr r (a + min n 513) m3 h
   rw [List.sum_cons]; exact ⟨by omega, by omega, h4⟩
def vj (s : BS) (ch : Nat) (counts : List Nat) (z : CZ) : List TxE × CZ :=
 let a := YZ counts 0 z
 if a.2.2 ≠ 0 then ([], a.2) else
 let g := jm s a.2.1 a.1 ch
 (g.1, if (JE a.2 g.2.2).2 = 0 then (g.2.1, 0) else JE a.2 g.2.2)
structure SsI (cs : List Nat) (z0 : CZ) (i a : Nat) (z : CZ) : Prop where
  le : i ≤ cs.length
  eq : YZ cs 0 z0 = YZ (cs.drop i) a z
  al : a ≤ i * 513
theorem Jgw {l : List Nat} {x : Nat} (h : l[i]? = some x) : l.drop i = x :: l.drop (i + 1) := by
 obtain ⟨h1, h2⟩ := La'.1 h
 rw [List.drop_eq_getElem_cons h1, h2]
theorem Jzd {cs : List Nat} {p : Pl} (ha : z.1 ≤ s.length) (hs : s.length ≤ 1000000) (hc1 : 0 < ch) (hc2 : ch ≤ 4611686018427387904) (hcl : cs.length ≤ 100000) (hseg : Seg R cs.length (cs.map uV) p) (hcu : ∀ x ∈ cs, VL x) :
  PureT (α := TxsN (vj s ch cs z).1) prog 261 [Kj r, Km cs.length p].toArray (fun y => JV y.ys.length y.row) [KQ r s ch z] (fun y => KQ r s ch (vj s ch cs z).2 :: y.L) R := by
 obtain ⟨⟨A, zA⟩, hA⟩ : ∃ g, YZ cs 0 z = g := ⟨_, rfl⟩
 have hA1 : zA.1 = z.1 := by have := Jgv cs 0 z; rw [hA] at this; exact this
 have hAs : zA.2 = 0 → A ≤ 512 := fun h => by
  obtain ⟨a1, a2, _⟩ := yr cs 0 (z := z) m3 (by rw [hA]; exact h)
  rw [hA] at a1; simp only at a1; omega
 obtain ⟨⟨ts, gt, ge⟩, hg⟩ : ∃ g, jm s zA.1 A ch = g := ⟨_, rfl⟩
 have hst : vj s ch cs z = if zA.2 ≠ 0 then ([], zA) else (ts, if (JE zA ge).2 = 0 then (gt, 0) else JE zA ge) := by unfold vj; simp only [hA, hg]
 refine Jq Tryz.func261 O O fun w => Kl (Jv 14 O (LR O (JZ O hseg O) (G5 ?_))); refine JQ (σ := Nat × Nat × CZ) (fun g => SsI cs z g.1 g.2.1 g.2.2) (fun g => [(0, Kj r), (5, uV g.2.1), (11, Km cs.length p), (12, .int .i64 (cs.length : Int)), (13, .int .i64 (g.1 : Int))]) (fun g => [KQ r s ch g.2.2]) (fun _ _ _ => True) (fun g => cs.length - g.1) (0, 0, z) ⟨Z', rfl, Z'⟩ (lK O) (T') (fun _ _ h => h) ?_; rintro ⟨i, a, zi⟩ hI; simp only at hI
 have hi1 := hI.le
 change HC _ _ [(0, Kj r), (5, uV a), (11, Km cs.length p), (12, .int .i64 (cs.length : Int)), (13, .int .i64 (i : Int))] [KQ r s ch zi] _ _ _; refine gv ?_; refine cD (fun h7 => ?_) fun h7 => ?_
 ·refine Hu ?_
  obtain ⟨n, hn, hmn⟩ := Vh (show i < cs.length by omega)
  have hnu : n < 18446744073709551616 := hcu n hmn
  have hal := hI.al
  have hmm : min n 513 ≤ 513 := Nat.min_le_right _ _
  refine HI ?_
  refine LR O (JG (j := i) O hseg O O O mg m3) (LR O (Qr oR O hseg m3 O (show (cs.map uV)[i]? = some (uV n) from by rw [List.getElem?_map, hn]; rfl)) ?_); refine g8 ?_
  refine LR O (Jfd (r := ((min n 513 : Nat) : Int)) O O (by simp only [Nat.min_def]; split <;> split <;> omega)) ?_; refine KC O (Ql m3 m3 (J4 (show _ = uV (a + min n 513) from congrArg (Value.int .u64) m3) ?_)); refine JP 9 O ?_; refine cD (fun h12 => ?_) fun h12 => ?_
  ·refine gz ?_
   refine MP ?_; refine Jx (T := [KQ r s ch zi]) (L0 := []) (Rl := []) (O') O O O wG (YI r s ch zi 5) oN fun _ => ?_; change HL _ _ _ [KQ r s ch (JE zi 5)] _ _ _ _; refine kB ?_; refine gK ?_
   have heq := hI.eq
   rw [Jgw hn, YZ] at heq
   (rw [if_pos m3] at heq
    exact JL (i + 1, a + min n 513, JE zi 5) ⟨by simp only; omega, heq, by simp only; omega⟩ mj (lK rfl) (T') (fun _ _ h => h))
  ·refine gx ?_; refine gK ?_
   have heq := hI.eq
   rw [Jgw hn, YZ] at heq
   (rw [if_neg m3] at heq
    exact JL (i + 1, a + min n 513, zi) ⟨by simp only; omega, heq, by simp only; omega⟩ mj (lK rfl) (T') (fun _ _ h => h))
 ·refine Ku 7 O ?_
  have hiN : i = cs.length := by omega
  have hfin := hI.eq
  rw [hiN, List.drop_length, hA] at hfin
  have hf : (A, zA) = (a, zi) := hfin
  obtain ⟨rfl, rfl⟩ := Prod.mk.inj hf
  refine gz ?_
  refine F2 ?_; refine LR O (Jc (v := .int .i64 zA.2) O (kn 0 O) O O) (NQ ?_); refine cD (fun h15 => ?_) fun h15 => ?_
  refine KF 7 O (N3 fun w1 hs1 => ?_)
  (have hk : vj s ch cs z = ([], zA) := by rw [hst]; exact if_pos m3
   rw [hk]; exact ⟨⟨[], none, [], ⟨rfl, rfl⟩, (fun _ h => by cases h), (fun _ h => by cases h), rfl⟩, rfl, hs1⟩)
  ·refine D5 ?_; refine Kk [KQ r s ch zA] [(0, .pure), (1, .pure), (2, .pure), (3, .pure), (4, .pure), (5, .pure), (6, .pure), (7, .pure), (8, .pure), (9, .pure), (10, .pure), (11, .pure), (12, .pure), (13, .pure), (14, .pure), (15, .pure), (16, .turn), (17, .pure), (18, .pure), (19, .pure), (20, .pure), (21, .pure), (22, .pure), (23, .pure)] 24 [0, 1, 2, 3, 4, 5, 6, 7, 8, 9, 10, 11, 12, 13, 14, 15, 16, 17, 18, 19, 20, 21, 22, 23] m4 m4 (fun p hp => hp) (g6 ?_); refine Jr (k := 9) O O O O O (fun _ hS => Jc (v := .int .i64 (zA.1 : Int)) O (.inl (hS _ (J0 (n := 0) O))) O O) (D0 ?_); refine Jr (k := 11) O O O O O (fun _ _ => JH O O O) (Ze m3 m3 (Jr (k := 12) O O O O O (fun _ hS => (Jw O)) (Jr (k := 13) O O O O O (fun _ hS => (JH O O O)) ?_)))
   refine Jr (k := 14) O O O O O (fun _ hS => (Ja O O m0)) (Jr (k := 15) O O O O O (fun _ hS => Jc (v := uV ch) O (.inl (hS _ (J0 (n := 0) O))) O O) ?_)
   have hG := Jzb (s := s) (at_ := zA.1) (n := A) (ch := ch) hs m3 (hAs m3) hc1 hc2
   rw [hg] at hG; refine KH (k := 16) (T0 := []) (L0 := [KQ r s ch zA]) (E' := fun y => KQ r s ch zA :: y.L) (Rl := []) (O') (fun y => B' (l₁ := y.L)) O O O O O (enters_of Tryz.func314 m4 O) hG oN (fun _ p hp => by rw [U'.1 hp]; exact N') fun y => Jr (k := 17) O O O O O (fun _ hS => (Jw O)) (Jr (k := 18) O O O O O (fun _ hS => (Jb O O)) (Gv ?_)); refine Jr (k := 23) O O O O O (fun _ hS => (J7 O)) (KJ (Ec ?_)); refine JI O (Jx (T := [KQ r s ch zA]) (L0 := _) (Rl := []) (O') O O O wG (YI r s ch zA ge) oN fun _ => ?_); change HL _ _ _ (KQ r s ch (JE zA ge) :: y.L) _ _ _ _; refine Dt ?_; refine cD (fun h20 => ?_) fun h20 => ?_
   refine Di ?_
   refine MP ?_; refine Jm (k := 0) (cs' := #[Jk s, .int .i64 (gt : Int), .int .i64 (JE zA ge).2, uV ch]) O O O O O O O O O O (JD 9 O (N3 fun w1 hs1 => ?_))
   (have hz : (JE zA ge).2 = 0 := by simp_all
    have hk : vj s ch cs z = (ts, (gt, 0)) := by rw [hst, if_neg m3, if_pos hz]
    rw [hk]; rw [hz] at hs1; exact ⟨y, rfl, hs1⟩)
   ·refine KF 9 O (N3 fun w1 hs1 => ?_)
    (have hz : ¬ (JE zA ge).2 = 0 := by simp_all
     have hk : vj s ch cs z = (ts, JE zA ge) := by rw [hst, if_neg m3, if_neg hz]
     rw [hk]; exact ⟨y, rfl, hs1⟩)
structure SpE where
  time : Nat
  epoch : Nat
  parent : BS
  hash : BS
  blocks : List (Bool × List TxE)
def qB : SpE := ⟨0, 0, [], [], []⟩
def BlL.er (b : BlL) : Bool × List TxE := (b.origin, b.txs.map TxL.er)
def SpL.er (s : SpL) : SpE := ⟨s.time, s.epoch, s.parent, s.hash, s.blocks.map BlL.er⟩
def Zo : List Bool → List Nat → List TxE → List (Bool × List TxE)
 | o :: os, n :: ns, l => (o, l.take n) :: Zo os ns (l.drop n)
 | _, _, _ => []
def XL (s : BS) (ch : Nat) : SpE × Int :=
 if ch = 0 ∨ 4611686018427387904 < ch then (qB, 1) else if s = [] then (qB, 3) else if (s.getD 0 0).toNat ≠ 1 then (qB, 9) else
 let h := yq s (1, 0)
 let b := W0 s h.2
 let t := vj s ch b.1.2 b.2
 let z := if t.2.2 = 0 ∧ t.2.1 < s.length then (t.2.1, 4) else t.2
 if z.2 ≠ 0 then (qB, z.2) else (⟨h.1.time, h.1.epoch, h.1.parent, h.1.hash, Zo b.1.1 b.1.2 t.1⟩, 0)
theorem vN (s sg : BS) : ∀ (bs : List (Bool × Bool)) (acc : List TxE) (zs : CZ) (tos : BS) (z : CZ) (k : Nat), (cL1 s sg bs acc zs tos z k).1.length = acc.length + bs.length
 | [], acc, _, _, _, _ => rfl
 | (no, y) :: r, acc, zs, tos, z, k => by
  rw [cL1]
  try simp only []
  rw [vN s sg r]; simp only [C', List.length_cons, List.length_nil]; omega
theorem Jjm (ch : Nat) : ∀ (ts : List TxE) (ms gs : List Nat) (cc : List Bool), ts.length ≤ ms.length → ts.length ≤ gs.length → (yD ch ts ms gs cc).length = ts.length
 | [], ms, gs, cc, _, _ => by rw [Jjj]
 | t :: ts, a :: an, g :: gn, cc, h1, h2 => by
  rw [yD, List.length_cons, List.length_cons, Jjm ch ts an gn _ (by simpa using h1) (by simpa using h2)]
 | t :: ts, [], gs, cc, h1, _ => by simp at h1
 | t :: ts, a :: an, [], cc, _, h2 => by simp at h2
theorem Jq9  {at_ n : Nat} (ha : at_ ≤ s.length) (h : (jm s at_ n ch).2.2 = 0) : (jm s at_ n ch).1.length = n := by
 have e1 := Yx (n := n) (s := s) (z := (at_, 0)) ha
 have e2 := Yx (n := n) (jV (n := n) (s := s) (z := (at_, 0)) ha)
 unfold jm at h ⊢
 try simp only [] at h ⊢
 split at h
 ·rename_i a1; exact absurd h a1
 ·rename_i a1
  rw [if_neg a1]
  split at h
  ·rename_i a2; exact absurd h a2
  ·rename_i a2
   rw [if_neg a2]
   show (yD _ _ _ _ _).length = n
   rw [Jjm, vN, List.length_zip, e1, e2, Nat.min_self]
   ·exact Nat.zero_add n
   ·exact F1
   ·exact F1
theorem Jbg (h : (JE z e).2 = 0) : z.2 = 0 ∧ e = 0 := by
 unfold JE at h
 split at h
 ·rename_i h0; exact ⟨h0, h⟩
 ·rename_i h0; exact absurd h h0
structure SbI (s : BS) (z : CZ) : Prop where
  len : (W0 s z).1.1.length = (W0 s z).1.2.length
  l16 : (W0 s z).1.2.length ≤ 16
  u : ∀ x ∈ (W0 s z).1.2, VL x
theorem Jbh {b : BS} {zn zb : CZ} {n vt : Nat} {bo : Bool} {uo : List Bool} {vv : List Nat} {ue ve : Int} (hn : Xw s z = (n, zn)) (hz1 : (if n = 0 then JE zn 2 else zn) = z1) (hz2 : (if 16 < n then JE z1 5 else z1) = z2) (hb : KN s (Ve n) z2 = ((b, bo), zb)) (hu : Vi b n = (uo, ue)) (hz3 : JE zb ue = z3) (hv : W5 s n [] z3.1 = (vv, vt, ve)) :
  W0 s z = if z2.2 ≠ 0 then (([], []), z2) else if zb.2 ≠ 0 then (([], []), zb) else if z3.2 ≠ 0 then (([], []), z3) else ((uo, vv), if (JE z3 ve).2 = 0 then (vt, 0) else JE z3 ve) := by
 unfold W0; simp only [hn, hz1, hz2, hb, hu, hz3, hv]
theorem Jra {n : Nat} (h : (Vi s n).2 = 0) : (Vi s n).1.length = n := by
 unfold Vi at h ⊢
 split at h
 ·cases h
 ·rename_i b1
  rw [if_neg b1]
  split at h
  ·cases h
  ·rename_i b2
   rw [if_neg b2]
   split at h
   ·cases h
   ·rename_i b3; rw [if_neg b3]; exact jQ _ _
theorem Jel (hz : z.1 ≤ s.length) : ((W0 s z).2.2 = 0 → SbI s z) ∧ (W0 s z).2.1 ≤ s.length := by
 obtain ⟨⟨n, zn⟩, hn⟩ : ∃ g, Xw s z = g := ⟨_, rfl⟩
 obtain ⟨z1, hz1⟩ : ∃ z1, (if n = 0 then JE zn 2 else zn) = z1 := ⟨_, rfl⟩
 obtain ⟨z2, hz2⟩ : ∃ z2, (if 16 < n then JE z1 5 else z1) = z2 := ⟨_, rfl⟩
 obtain ⟨⟨⟨b, bo⟩, zb⟩, hb⟩ : ∃ g, KN s (Ve n) z2 = g := ⟨_, rfl⟩
 obtain ⟨⟨uo, ue⟩, hu⟩ : ∃ g, Vi b n = g := ⟨_, rfl⟩
 obtain ⟨z3, hz3⟩ : ∃ z3, JE zb ue = z3 := ⟨_, rfl⟩
 obtain ⟨⟨vv, vt, ve⟩, hv⟩ : ∃ g, W5 s n [] z3.1 = g := ⟨_, rfl⟩
 have hsb := Jbh hn hz1 hz2 hb hu hz3 hv
 have l0 : zn.1 ≤ s.length := by have := ZB hz; rw [hn] at this; exact this
 have l1 : z1.1 = zn.1 := by rw [← hz1]; split; exact Qt _ _; rfl
 have l2 : z2.1 = z1.1 := by rw [← hz2]; split; exact Qt _ _; rfl
 have l3 : zb.1 ≤ s.length := by have := Vx (n := Ve n) (s := s) (z := z2) m3; rw [hb] at this; exact this
 have l4 : z3.1 = zb.1 := by rw [← hz3]; exact Qt _ _
 have l5 : vt ≤ s.length := by have := Jbf (s := s) n [] z3.1 m3; rw [hv] at this; exact this
 constructor
 ·intro h
  rw [hsb] at h
  by_cases c1 : z2.2 ≠ 0
  ·rw [if_pos c1] at h; exact absurd h c1
  rw [if_neg c1] at h hsb
  by_cases c2 : zb.2 ≠ 0
  ·rw [if_pos c2] at h; exact absurd h c2
  rw [if_neg c2] at h hsb
  by_cases c3 : z3.2 ≠ 0
  ·rw [if_pos c3] at h; exact absurd h c3
  rw [if_neg c3] at h hsb
  have hve : ve = 0 := by
   by_cases c4 : (JE z3 ve).2 = 0
   ·exact (Jbg c4).2
   ·rw [if_neg c4] at h; exact absurd h c4
  have hue : ue = 0 := by rw [← hz3] at c3; exact (Jbg (by simpa using c3)).2
  have hn16 : n ≤ 16 := by
   rcases Nat.lt_or_ge 16 n with h2 | h2
   ·exfalso; rw [if_pos h2] at hz2; rw [← hz2] at c1; exact c1 (Zn m7)
   ·exact h2
  have k1 : uo.length = n := by have := Jra (s := b) (n := n) (by rw [hu]; exact hue); rw [hu] at this; exact this
  have k2 : vv.length = n := by have := yo (s := s) n [] z3.1 (by rw [hv]; exact hve); rw [hv] at this; simpa using this
  have k3 := Jbe (s := s) n [] z3.1 fun x hx => by cases hx
  rw [hv] at k3; exact ⟨by rw [hsb]; show uo.length = vv.length; omega, by rw [hsb]; show vv.length ≤ 16; omega, by rw [hsb]; exact k3⟩
 ·rw [hsb]
  split
  ·show z2.1 ≤ _; omega
  ·split
   ·exact l3
   ·split
    ·show z3.1 ≤ _; omega
    ·split
     ·exact l5
     ·rw [Qt]; omega
theorem Jjn {s : BS} : ∀ (n : Nat) (acc : List Nat) (a : Nat), (W5 s n acc a).1.length ≤ acc.length + n
 | 0, acc, a => Lc'
 | n + 1, acc, a => by
  rw [W5]
  split
  ·exact Z'
  ·refine Lb' (Jjn n _ _) ?_
   rw [C', List.length_singleton]; omega
theorem Jvo (s : BS) (z : CZ) : (W0 s z).1.2.length ≤ 100000 := by
 obtain ⟨⟨n, zn⟩, hn⟩ : ∃ g, Xw s z = g := ⟨_, rfl⟩
 obtain ⟨z1, hz1⟩ : ∃ z1, (if n = 0 then JE zn 2 else zn) = z1 := ⟨_, rfl⟩
 obtain ⟨z2, hz2⟩ : ∃ z2, (if 16 < n then JE z1 5 else z1) = z2 := ⟨_, rfl⟩
 obtain ⟨⟨⟨b, bo⟩, zb⟩, hb⟩ : ∃ g, KN s (Ve n) z2 = g := ⟨_, rfl⟩
 obtain ⟨⟨uo, ue⟩, hu⟩ : ∃ g, Vi b n = g := ⟨_, rfl⟩
 obtain ⟨z3, hz3⟩ : ∃ z3, JE zb ue = z3 := ⟨_, rfl⟩
 obtain ⟨⟨vv, vt, ve⟩, hv⟩ : ∃ g, W5 s n [] z3.1 = g := ⟨_, rfl⟩
 rw [Jbh hn hz1 hz2 hb hu hz3 hv]
 split
 ·exact Gw
 ·rename_i c1
  split
  ·exact Gw
  ·split
   ·exact Gw
   ·show vv.length ≤ 100000
    have hn16 : n ≤ 16 := by
     rcases Nat.lt_or_ge 16 n with h2 | h2
     ·exfalso; rw [if_pos h2] at hz2; rw [← hz2] at c1; exact c1 (Zn m7)
     ·exact h2
    have := Jjn (s := s) n [] z3.1
    rw [hv] at this
    have h3 : vv.length ≤ 0 + n := this
    omega
theorem Jvp (s : BS) (z : CZ) : ∀ x ∈ (W0 s z).1.2, VL x := by
 obtain ⟨⟨n, zn⟩, hn⟩ : ∃ g, Xw s z = g := ⟨_, rfl⟩
 obtain ⟨z1, hz1⟩ : ∃ z1, (if n = 0 then JE zn 2 else zn) = z1 := ⟨_, rfl⟩
 obtain ⟨z2, hz2⟩ : ∃ z2, (if 16 < n then JE z1 5 else z1) = z2 := ⟨_, rfl⟩
 obtain ⟨⟨⟨b, bo⟩, zb⟩, hb⟩ : ∃ g, KN s (Ve n) z2 = g := ⟨_, rfl⟩
 obtain ⟨⟨uo, ue⟩, hu⟩ : ∃ g, Vi b n = g := ⟨_, rfl⟩
 obtain ⟨z3, hz3⟩ : ∃ z3, JE zb ue = z3 := ⟨_, rfl⟩
 obtain ⟨⟨vv, vt, ve⟩, hv⟩ : ∃ g, W5 s n [] z3.1 = g := ⟨_, rfl⟩
 rw [Jbh hn hz1 hz2 hb hu hz3 hv]
 split
 ·intro x hx; cases hx
 ·split
  ·intro x hx; cases hx
  ·split
   ·intro x hx; cases hx
   ·show ∀ x ∈ vv, VL x
    have := Jbe (s := s) n [] z3.1 fun x hx => by cases hx
    rw [hv] at this; exact this
theorem Jvq (hz : z.1 ≤ s.length) (h : (W0 s z).2.2 = 0) : SbI s z := (Jel hz).1 h
theorem Jvr (hz : z.1 ≤ s.length) : (W0 s z).2.1 ≤ s.length := (Jel hz).2
theorem Jrb (h : z.1 ≤ s.length) : (yq s z).2.1 ≤ s.length := Vx (ZB (ZB h))
theorem Jvs {cs : List Nat} (hz : z.1 ≤ s.length) (h : (vj s ch cs z).2.2 = 0) : z.2 = 0 ∧ (vj s ch cs z).1.length = cs.sum ∧ cs.sum ≤ 512 := by
  unfold vj at h ⊢
  try simp only [] at h ⊢
  split at h
  · rename_i a1; exact absurd h a1
  · rename_i a1
    rw [if_neg a1]
    obtain ⟨h1, h2, h3⟩ := yr cs 0 (z := z) m3 m3
    have hge : (jm s (YZ cs 0 z).2.1 (YZ cs 0 z).1 ch).2.2 = 0 := by
      split at h
      · rename_i a4; exact (Jbg a4).2
      · rename_i a4; exact absurd h a4
    refine ⟨by have : (YZ cs 0 z).2.2 = 0 := by omega
               rw [h3] at this; exact this, ?_, by omega⟩
    show (jm _ _ _ _).1.length = _
    rw [Jq9 (by rw [Jgv]; exact hz) hge, h1]; omega
structure SpG (e : SpE) where
  x : SpL
  L : J3
  inn : x.In L
  er : x.er = e
def sp0L : SpL := ⟨0, 0, [], [], none, []⟩
theorem Jrc : sp0L.In R := ⟨QS, QS, Z', Z', Z', Seg.nil, fun _ h => by cases h⟩
def Jvt : SpG qB := ⟨sp0L, [], Jrc, rfl⟩
theorem Jrd (bs : List BlL) (b : BlL) : qy bs ++ b.cells = qy (bs ++ [b]) := by unfold qy; rw [List.flatMap_append]; simp
structure SgI (YL : J3) (os : List Bool) (ns : List Nat) (l : List TxE) (i : Nat) (rem_ : List TxL) (p : Pl) (bs : List BlL) (row : QZ) : Prop where
  le : i ≤ ns.length
  seg : Seg YL rem_.length (Qv rem_) p
  inn : ∀ t ∈ rem_, t.In YL
  sum : (ns.drop i).sum = rem_.length
  rl : rem_.length ≤ 512
  len : bs.length = i
  ok : rowOk 2 i (qy bs) row
  bin : ∀ b ∈ bs, b.In YL
  eq : Zo os ns l = bs.map BlL.er ++ Zo (os.drop i) (ns.drop i) (rem_.map TxL.er)
theorem Jvu (l : List TxL) (a n : Nat) : ((Qv l).drop (a * 36)).take (n * 36) = Qv ((l.drop a).take n) := by
 have h1 : ∀ (l : List TxL) (a : Nat), (Qv l).drop (a * 36) = Qv (l.drop a) := by
  intro l a
  induction a generalizing l with
  | zero => simp
  | succ a ih =>
   cases l with
   | nil => simp [Qv]
   | cons t l =>
    rw [show (a + 1) * 36 = 36 + a * 36 by omega, ← List.drop_drop]
    have : (Qv (t :: l)).drop 36 = Qv l := by show (t.cells ++ Qv l).drop 36 = _; rw [List.drop_left' (TxL.len t)]
    rw [this, ih]; rfl
 have h2 : ∀ (l : List TxL) (n : Nat), (Qv l).take (n * 36) = Qv (l.take n) := by
  intro l n
  induction n generalizing l with
  | zero => simp [Qv]
  | succ n ih =>
   cases l with
   | nil => simp [Qv]
   | cons t l =>
    rw [show (n + 1) * 36 = 36 + n * 36 by omega]
    show (t.cells ++ Qv l).take _ = t.cells ++ Qv (l.take n)
    rw [← TxL.len t, List.take_length_add_append, TxL.len, ih]
 rw [h1, h2]
theorem Jjo {l : List TxL} {p : Pl} (h : Seg R l.length (Qv l) p) {b : Nat} (hab : a ≤ b) (hb : b ≤ l.length) : Seg R ((l.drop a).take (b - a)).length (Qv ((l.drop a).take (b - a))) (JU 36 a p) := by
 have h1 := jf (sz := 36) h (jW l) hab hb
 rw [Jvu] at h1
 rwa [show ((l.drop a).take (b - a)).length = b - a by rw [List.length_take, List.length_drop]; omega]
theorem Jre {l : List α} {x : α} (h : l[i]? = some x) : l.drop i = x :: l.drop (i + 1) := by
 obtain ⟨h1, h2⟩ := La'.1 h
 rw [List.drop_eq_getElem_cons h1, h2]
theorem Jvv (hs : s.length ≤ 1000000) (hch : VL ch) : PureT (α := SpG (XL s ch).1) prog 223 [Jk s, uV ch].toArray (fun y => .tuple #[y.x.val, .int .i64 (XL s ch).2]) [] (fun y => y.L) [] := by
  have hch : ch < 18446744073709551616 := hch
  obtain ⟨⟨h, zh⟩, hh⟩ : ∃ g, yq s (1, 0) = g := ⟨_, rfl⟩
  obtain ⟨⟨⟨os, ns⟩, zb⟩, hb⟩ : ∃ g, W0 s zh = g := ⟨_, rfl⟩
  obtain ⟨⟨ts, zt⟩, ht⟩ : ∃ g, vj s ch ns zb = g := ⟨_, rfl⟩
  obtain ⟨zf, hzf⟩ : ∃ zf, (if zt.2 = 0 ∧ zt.1 < s.length then (zt.1, 4) else zt : CZ) = zf := ⟨_, rfl⟩
  have hsp : XL s ch = if ch = 0 ∨ 4611686018427387904 < ch then (qB, 1) else if s = [] then (qB, 3) else if (s.getD 0 0).toNat ≠ 1 then (qB, 9) else if zf.2 ≠ 0 then (qB, zf.2) else (⟨h.time, h.epoch, h.parent, h.hash, Zo os ns ts⟩, 0) := by
    unfold XL; simp only [hh, hb, ht, hzf]
  have hnsu : ∀ x ∈ ns, VL x := by
    have key := Jvp s zh
    rw [hb] at key; exact key
  have hhu : VL h.time ∧ VL h.epoch ∧ h.parent.length ≤ 20 ∧ h.hash.length ≤ 1000000 := by
    have e := congrArg Prod.fst hh
    simp only at e; rw [← e]; refine ⟨Jgt _ _, Jgt _ _, ?_, ?_⟩
    show (if _ then _ else _ : BS).length ≤ 20
    split
    exact List.length_take_le _ _
    exact Gw
    show (if _ then _ else _ : BS).length ≤ 1000000
    split
    rw [List.length_drop]; have := Yv s 40 (Xw s (Xw s (1, 0)).2).2; omega
    exact Gw
  refine Jq Tryz.func223 O O fun w => MZ ?_; refine LN O fun r4 => J5 10 O ?_
  refine J8 16 O (fun gb => ?_) (fun gb => ?_) <;> (try simp only [ZZ] at gb) <;> first | (refine JI O ?_) | (refine LK O ?_)
  all_goals refine MQ ?_
  all_goals (
   refine kW ?_; refine Jl O (fun h6 => ?_) (fun h6 => ?_)
   try simp only [ZZ] at h6
   refine G0 ?_
   (refine Jh O O (.cons (Jj (vs := sp0L.cells) O (kn 0 O) O O) (.cons (Jg O) .nil)) (fun w1 hs1 => ?_)
    have hU : XL s ch = (qB, 1) := by rw [hsp]; exact if_pos m3
    rw [hU]
    exact ⟨Jvt, rfl, hs1.weakL (S')⟩)
   · try exact Bool.noConfusion h6
     all_goals try simp only [ZZ] at h6
     all_goals (
      refine gz ?_; refine Hs ?_; refine NQ ?_; refine cD (fun h9 => ?_) fun h9 => ?_
      refine G0 ?_
      (refine Jh O O (.cons (Jj (vs := sp0L.cells) O (kn 0 O) O O) (.cons (Jg O) .nil)) (fun w1 hs1 => ?_)
       have hU : XL s ch = (qB, 3) := by rw [hsp, if_neg m3]; exact if_pos ma
       rw [hU]
       exact ⟨Jvt, rfl, hs1.weakL (S')⟩)
      · refine Dz ?_
        have hpos : 0 < s.length := List.length_pos_iff.2 ma
        refine NG ?_; refine Nv ?_; refine G5 ?_; refine cD (fun h12 => ?_) fun h12 => ?_
        refine G0 ?_
        (refine Jh O O (.cons (Jj (vs := sp0L.cells) O (kn 0 O) O O) (.cons (Jg O) .nil)) (fun w1 hs1 => ?_)
         have hU : XL s ch = (qB, 9) := by rw [hsp, if_neg m3, if_neg ma]; exact if_pos m3
         rw [hU]
         exact ⟨Jvt, rfl, hs1.weakL (S')⟩)
        · refine Ku 4 O ?_
          have h1l : ((1, 0) : CZ).1 ≤ s.length := hpos
          have hzh : zh.1 ≤ s.length := by have := Jrb h1l; rw [hh] at this; exact this
          have hzb : zb.1 ≤ s.length := by have := Jvr hzh; rw [hb] at this; exact this
          have hnl : ns.length ≤ 100000 := by
            have key : (W0 s zh).1.2.length ≤ 100000 := Jvo s zh
            rw [hb] at key; exact key
          refine Hf ?_; refine JI O (LR O (Jo (r := [_, _, _, _]) O O) (JR (cs := List.toArray [Jk s, .int .i64 ((1 : Nat) : Int), .int .i64 0, uV ch]) O O O O fun rs => ?_)); change HL _ _ _ [KQ rs s ch (1, 0), (r4, _)] _ _ _ _; refine gp ?_
          have hH := Jvn (r := rs) (s := s) (ch := ch) (z := (1, 0)) h1l hs
          rw [hh] at hH; refine Jx (T := [KQ rs s ch (1, 0)]) (L0 := [_]) (Rl := []) (O') O O O (enters_of Tryz.func259 m4 O) hH oN fun _ => ?_; change HL _ _ _ [KQ rs s ch zh, (r4, _)] _ _ _ _; refine LN O fun r7 => Je (k := 0) (n := 5) (ys := shC h) O O O O O O O O O (kB ?_)
          have hB := Jzc (r := rs) (s := s) (ch := ch) (z := zh) hzh hs
          rw [hb] at hB; refine Jx (T := [KQ rs s ch zh]) (L0 := [_, _]) (Rl := []) (P') O O O (enters_of Tryz.func260 m4 O) hB oN fun y => ?_
          obtain ⟨⟨ro, hro⟩, ⟨rn, hrn⟩⟩ := y
          change rowOk 1 os.length (QG os) ro at hro; change rowOk 1 ns.length (ns.map uV) rn at hrn; refine JY ((B' (l₁ := J9 4 (QG os) ro ++ J9 22 (ns.map uV) rn)).cons _) ?_; change HL _ _ _ (KQ rs s ch zb :: (r7, .cells #[uV h.time, uV h.epoch, Jk h.parent, Jk h.hash, .slice none 0 0] 25 (0, 0)) :: (r4, _) :: (J9 4 (QG os) ro ++ J9 22 (ns.map uV) rn)) _ _ _ _; refine J4 (show _ = Value.tuple #[Km os.length (Ke ro), Km ns.length (Ke rn)] from by show Value.tuple #[JV os.length ro, JV ns.length rn] = _; rw [KK hro, KK hrn]) ?_
          have hso := Ks (e := 4) hro m7
          have hsn := Ks (e := 22) hrn m7
          refine DN ?_
          have hT := Jzd (r := rs) (s := s) (ch := ch) (z := zb) (cs := ns) (p := Ke rn) hzb hs m3 m3 hnl hsn hnsu
          rw [ht] at hT; refine Jx (T := [KQ rs s ch zb]) (L0 := (r7, .cells #[uV h.time, uV h.epoch, Jk h.parent, Jk h.hash, .slice none 0 0] 25 (0, 0)) :: (r4, _) :: (J9 4 (QG os) ro ++ J9 22 (ns.map uV) rn)) (Rl := J9 22 (ns.map uV) rn) (O') O O O (enters_of Tryz.func261 m4 O) hT (fun q hq => Or.inl (M' (M' (Y' hq)))) fun y => ?_
          obtain ⟨ys, ry, YL, hyk, hyr, hyx, hye⟩ := y
          change ys.map TxL.er = ts at hye; refine J4 (show _ = Km ys.length (Ke ry) from KK hyk) (JY ((B' (l₁ := YL)).cons _) ?_); change HL _ _ _ (KQ rs s ch zt :: (r7, .cells #[uV h.time, uV h.epoch, Jk h.parent, Jk h.hash, .slice none 0 0] 25 (0, 0)) :: (r4, _) :: ((J9 4 (QG os) ro ++ J9 22 (ns.map uV) rn) ++ YL)) _ _ _ _
          have hsy := (Ks (e := 33) hyk m7).mono hyr
          refine J5 8 O ?_
          refine F2 ?_; refine LR O (Jc (v := .int .i64 zt.2) O (kn 0 O) O O) (gu ?_)
          refine J8 51 O (fun gb => ?_) (fun gb => ?_) <;> (try simp only [ZZ] at gb) <;> first | (refine JI O ?_) | (refine LK O ?_)
          all_goals first | refine KC O ?_ | refine LK O ?_
          all_goals refine G9 ?_
          all_goals refine G9 ?_
          all_goals refine Nh ?_
          all_goals refine Ns ?_
          all_goals refine ko ?_
          all_goals refine MQ ?_
          all_goals (
           refine kN ?_; refine QR (α := Unit) (fun _ => True) (fun _ => [(4, Kj r4), (6, Kj rs), (7, Kj r7), (8, Km os.length (Ke ro)), (9, Km ns.length (Ke rn)), (10, Km ys.length (Ke ry))]) (fun _ => KQ rs s ch zf :: (r7, .cells #[uV h.time, uV h.epoch, Jk h.parent, Jk h.hash, .slice none 0 0] 25 (0, 0)) :: (r4, .cells (List.toArray sp0L.cells) 25 (0, 0)) :: ((J9 4 (QG os) ro ++ J9 22 (ns.map uV) rn) ++ YL)) ?_ ?_
           · rintro _ _
             refine wh 6 O ?_
             refine F2 ?_; refine LR O (Jc (v := .int .i64 zf.2) O (kn 0 O) O O) (NQ ?_); refine cD (fun h30 => ?_) fun h30 => ?_
             refine Dz ?_; refine Kk [KQ rs s ch zf] [(0, .pure), (1, .pure), (2, .pure), (3, .pure), (4, .pure), (5, .pure), (6, .turn)] 7 [0, 1, 2, 3, 4, 5, 6] m4 m4 (fun p hp => by rw [U'.1 hp]; exact N') (Jr (k := 0) O O O O O (fun _ _ => Jo (r := sp0L.cells) O m4) (Hb ?_))
             refine DU ?_; refine Jr (k := 5) O O O O O (fun _ hS => Jc (v := .int .i64 zf.2) O (.inl (hS _ (J0 (n := 0) O))) O O) (KV (k := 6) (q := 2) (n := 5) (ys := sp0L.cells) O O O O O O O O O O O (fun p hp => by rw [U'.1 hp]; exact N') (KJ (G4 ?_)))
             (refine Jh O O (.cons (Jj (vs := sp0L.cells) O (kn 2 O) O O) (.cons (Jg O) .nil)) (fun w1 hs1 => ?_)
              have hU : XL s ch = (qB, zf.2) := by rw [hsp, if_neg m3, if_neg ma, if_neg m3]; exact if_pos m3
              rw [hU]
              exact ⟨Jvt, rfl, hs1.weakL (S')⟩)
             · refine Ku 4 O ?_
               have hz0 : zf.2 = 0 := by omega
               have hzt : zt.2 = 0 := by
                 by_cases hc : zt.2 = 0 ∧ zt.1 < s.length
                 exact hc.1
                 rw [if_neg hc] at hzf; rw [hzf]; exact hz0
               have hok := Jvs (ch := ch) (cs := ns) hzb (by rw [ht]; exact hzt)
               have hbo := Jvq hzh (by rw [hb]; exact hok.1)
               obtain ⟨hbl, hb16, _⟩ := hbo
               rw [hb] at hbl hb16; rw [ht] at hok; simp only at hbl hb16 hok
               have hyl : ys.length = ns.sum := by have h0 := congrArg List.length hye; rw [D'] at h0; omega
               refine NG ?_; refine EQ ?_; refine JQ (σ := Nat × List TxL × Pl × List BlL × QZ) (fun g => SgI YL os ns ts g.1 g.2.1 g.2.2.1 g.2.2.2.1 g.2.2.2.2) (fun g => [(4, Kj r4), (6, Kj rs), (7, Kj r7), (8, Km os.length (Ke ro)), (10, Km g.2.1.length g.2.2.1), (77, Km ns.length (Ke rn)), (78, .int .i64 (ns.length : Int)), (79, .int .i64 (g.1 : Int))]) (fun g => KQ rs s ch zf :: (r7, .cells #[uV h.time, uV h.epoch, Jk h.parent, Jk h.hash, JV g.1 g.2.2.2.2] 25 (0, 0)) :: (r4, .cells (List.toArray sp0L.cells) 25 (0, 0)) :: (J9 47 (qy g.2.2.2.1) g.2.2.2.2 ++ ((J9 4 (QG os) ro ++ J9 22 (ns.map uV) rn) ++ YL))) (fun _ _ _ => True) (fun g => ns.length - g.1) (0, ys, Ke ry, [], none) ⟨Z', hsy, hyx, by show ns.sum = ys.length; omega, by show ys.length ≤ 512; omega, rfl, ⟨rfl, rfl⟩, (fun _ h => by cases h), by show _ = [] ++ Zo os ns (ys.map TxL.er); rw [hye]; rfl⟩ (lK rfl) (T') (fun _ _ h => h) ?_; rintro ⟨i, rem_, p, bs, row⟩ hI; simp only at hI
               have hi1 := hI.le
               change HC _ _ [(4, Kj r4), (6, Kj rs), (7, Kj r7), (8, Km os.length (Ke ro)), (10, Km rem_.length p), (77, Km ns.length (Ke rn)), (78, .int .i64 (ns.length : Int)), (79, .int .i64 (i : Int))] (KQ rs s ch zf :: (r7, .cells #[uV h.time, uV h.epoch, Jk h.parent, Jk h.hash, JV i row] 25 (0, 0)) :: (r4, .cells (List.toArray sp0L.cells) 25 (0, 0)) :: (J9 47 (qy bs) row ++ ((J9 4 (QG os) ro ++ J9 22 (ns.map uV) rn) ++ YL))) _ _ _; refine gv ?_; refine cD (fun h36 => ?_) fun h36 => ?_
               · refine Hu ?_
                 obtain ⟨n, hni, hmn⟩ := Vh (show i < ns.length by omega)
                 obtain ⟨o, hoi, hmo⟩ := Vh (show i < os.length by omega)
                 have hsum := hI.sum
                 rw [Jgw hni, List.sum_cons] at hsum
                 have hnr : n ≤ rem_.length := by omega
                 have hrl := hI.rl
                 refine NG ?_
                 refine LR O (JG (j := i) O hsn O O O mg m3) (LR O (Qr (fun _ hq => Or.inl (M' (M' (M' (Y' (W' (Y' hq))))))) O hsn m3 O (show (ns.map uV)[i]? = some (uV n) from by rw [List.getElem?_map, hni]; rfl)) ?_); refine JP 5 O ?_
                 refine Kk ((r7, .cells #[uV h.time, uV h.epoch, Jk h.parent, Jk h.hash, JV i row] 25 (0, 0)) :: J9 4 (QG os) ro) [(0, .pure), (1, .pure), (2, .pure), (3, .pure), (4, .pure), (5, .pure), (6, .pure), (7, .pure), (8, .pure), (9, .pure), (10, .grow (Wg (slV 1) (.cells #[.bool o, Km (rem_.take n).length (JU 36 0 p)] 47 (0, 0))))] 11 [0, 1, 2, 3, 4, 5, 6, 7, 8, 9, 10] m4 m4 (fun q hq => by rcases F'.1 hq with rfl | hq; exact M' N'; exact (M' (M' (M' (Y' (W' (W' hq))))))) ?_
                 refine gM ?_; refine Jr (k := 1) O O O O O (fun _ hS => Jc (v := JV i row) O (.inl (hS _ N')) O O) (ku ?_); refine D4 ?_
                 refine Jr (k := 4) O O O O O (fun _ _ => JG (j := i) O hso O O O mg m3) (Jr (k := 5) O O O O O (fun _ hS => Qr (fun q hq => .inl (hS q (M' hq))) O hso m3 O (vK hoi)) (Jr (k := 6) O O O O O (fun _ hS => (Jw O)) (Ex ?_))); refine Jr (k := 8) O O O O O (fun _ _ => WC (kl := none) (kh := some n) (a := 0) (b := n) (m := (rem_.take n).length) O hI.seg O O trivial ⟨_, rfl⟩ O O (Z') hnr n6) (Jr (k := 9) O O O O O (fun _ _ => Jo (r := [_, _]) O O) (VV (k := 10) (n := 1) (sz := 2) (vs := [_]) (zs := [_, _]) (r := [.bool o, Km (rem_.take n).length (JU 36 0 p)]) O O O O O O O O O O O n5 O fun rb => KJ ?_))
                 have hpm : ((rb, Obj.cells #[.bool o, Km (rem_.take n).length (JU 36 0 p)] 47 (0, 0)) :: KQ rs s ch zf :: (r7, .cells #[uV h.time, uV h.epoch, Jk h.parent, Jk h.hash, JV i row] 25 (0, 0)) :: (r4, .cells (List.toArray sp0L.cells) 25 (0, 0)) :: (J9 47 (qy bs) row ++ ((J9 4 (QG os) ro ++ J9 22 (ns.map uV) rn) ++ YL))).Perm (J9 47 (qy bs) row ++ ((rb, Obj.cells #[.bool o, Km (rem_.take n).length (JU 36 0 p)] 47 (0, 0)) :: KQ rs s ch zf :: (r7, .cells #[uV h.time, uV h.epoch, Jk h.parent, Jk h.hash, JV i row] 25 (0, 0)) :: (r4, .cells (List.toArray sp0L.cells) 25 (0, 0)) :: ((J9 4 (QG os) ro ++ J9 22 (ns.map uV) rn) ++ YL))) := Ye [_, _, _, _] _ _
                 refine Kw (L0 := _) (xs := qy bs) (row := row) (n := i) (sz := 2) (b := 32) (news := [.bool o, Km (rem_.take n).length (JU 36 0 p)]) hpm O O O O (kn 0 O) O O O O O m7 O O O m7 hI.ok m3 m3 fun ra cap sp hra => ?_
                 refine MP ?_; refine Jm (k := 3) (cs' := #[uV h.time, uV h.epoch, Jk h.parent, Jk h.hash, JV (i + 1) (some (ra, cap, sp))]) O O O O O O O O O O (kB ?_); refine LR O (WC (kl := some n) (kh := none) (a := n) (b := rem_.length) (m := (rem_.drop n).length) O hI.seg O O ⟨_, rfl⟩ trivial O O hnr (Lc') (by rw [List.length_drop])) (Dr ?_)
                 have hb0 : BlL.In YL ⟨o, JU 36 0 p, rem_.take n⟩ := ⟨by show (rem_.take n).length ≤ _; rw [List.length_take]; omega, by have h0 := Jjo hI.seg (a := 0) (b := n) (Z') hnr; rw [List.drop_zero, Nat.sub_zero] at h0; exact h0, fun t ht => hI.inn t (List.mem_of_mem_take ht)⟩
                 have hsegd : Seg YL (rem_.drop n).length (Qv (rem_.drop n)) (JU 36 n p) := by have h0 := Jjo hI.seg (a := n) (b := rem_.length) hnr (Lc'); rw [List.take_of_length_le (by rw [List.length_drop]; exact Lc')] at h0; exact h0
                 have hcat : qy bs ++ [.bool o, Km (rem_.take n).length (JU 36 0 p)] = qy (bs ++ [⟨o, JU 36 0 p, rem_.take n⟩]) := Jrd bs ⟨o, JU 36 0 p, rem_.take n⟩
                 refine Wy (A := [_, _, _, _, _]) (A' := [_, _, _, _]) [2, 3, 4, 0] m7 O ?_; rw [hcat] at hra ⊢; exact JL (i + 1, rem_.drop n, JU 36 n p, bs ++ [⟨o, JU 36 0 p, rem_.take n⟩], some (ra, cap, sp)) ⟨by simp only; omega, hsegd, fun t ht => hI.inn t (List.mem_of_mem_drop ht), by simp only [List.length_drop]; omega, by simp only [List.length_drop]; omega, by simp only [C', hI.len]; rfl, hra, (fun b hb => (G'.1 hb).elim (hI.bin b) fun h0 => by rw [U'.1 h0]; exact hb0), by simp only; rw [hI.eq, Jre hoi, Jre hni, List.map_append, Ld', List.map_drop]; congr 1; show (o, (rem_.map TxL.er).take n) :: _ = (o, (rem_.take n).map TxL.er) :: _; rw [List.map_take]; rfl⟩ mj (lK rfl) (T') (fun _ _ h => h)
               · refine DE ?_; refine LR O (Ji (xs := [uV h.time, uV h.epoch, Jk h.parent, Jk h.hash, JV i row]) (n := 5) O (kn 1 O) O O O) ?_
                 refine Je (k := 2) (n := 5) (ys := [uV h.time, uV h.epoch, Jk h.parent, Jk h.hash, JV i row]) O O O O O O O Me O (gA ?_)
                 (refine Jh O O (.cons (Jj (vs := [uV h.time, uV h.epoch, Jk h.parent, Jk h.hash, JV i row]) O (kn 2 O) O O) (.cons (Jg O) .nil)) (fun w1 hs1 => ?_)
                  have hiN : i = ns.length := by omega
                  have hC : XL s ch = (⟨h.time, h.epoch, h.parent, h.hash, Zo os ns ts⟩, 0) := by rw [hsp, if_neg m3, if_neg ma, if_neg m3]; exact if_neg m3
                  have hE : Zo os ns ts = bs.map BlL.er := by rw [hI.eq, hiN, List.drop_length, List.drop_eq_nil_of_le (by omega : os.length ≤ ns.length)]; show _ ++ [] = _; rw [List.append_nil]
                  rw [hE] at hC; rw [hC]
                  have hL := hI.len
                  refine ⟨⟨⟨h.time, h.epoch, h.parent, h.hash, Ke row, bs⟩, J9 47 (qy bs) row ++ YL, ⟨hhu.1, hhu.2.1, (by show h.parent.length ≤ _; omega), (by show h.hash.length ≤ _; omega), (by show bs.length ≤ _; omega), (Ks (e := 47) (by rw [hL]; exact hI.ok) m7).mono fun q hq => W' hq, fun b hb => (hI.bin b hb).mono fun q hq => Y' hq⟩, rfl⟩, ?_, hs1.weakL (.cons _ (.cons _ (.cons _ (List.Sublist.append_left (List.sublist_append_right _ _) _))))⟩
                  show Ending.returned (Value.tuple #[.agg #[uV h.time, uV h.epoch, Jk h.parent, Jk h.hash, JV i row], .int .i64 0]) = Ending.returned (Value.tuple #[.agg #[uV h.time, uV h.epoch, Jk h.parent, Jk h.hash, Km bs.length (Ke row)], .int .i64 0])
                  rw [KK hI.ok, hL])
           · intro hJ
             refine Jl O (fun h41 => ?_) (fun h41 => ?_)
             · try exact Bool.noConfusion h41
               all_goals try simp only [ZZ] at h41
               all_goals (
                refine gz ?_
                refine F2 ?_; refine Jm (k := 0) (cs' := #[Jk s, .int .i64 (zt.1 : Int), .int .i64 4, uV ch]) O O O O O O O O O O (JD 1 O ?_)
                (rw [if_pos ⟨by first | assumption | omega, by omega⟩] at hzf
                 subst hzf
                 exact hJ _ _ () trivial (lK O) (T'))
                skip)
             try simp only [ZZ] at h41
             refine KF 1 O ?_
             (rw [if_neg nF] at hzf
              subst hzf
              exact hJ _ _ () trivial (lK O) (T'))
           skip)
      skip)
   skip)
def nxW (z : List BS × Int) (v : List Value) (z' : List BS × Int) : Prop := ∃ (x : BS) (e : Int), v = [Jk x, .int .i64 e] ∧ (e = 0 ∧ z = (x :: z'.1, z'.2) ∨ e ≠ 0 ∧ z = ([], e) ∧ z' = ([], 0))
def Jgx (z : List BS × Int) : Prop := z = ([], 0)
def XW (s : BS) (p : Nat) : Int := if (KO s p).2.2 ≠ 0 then (KO s p).2.2 else if QQ (KO s p).1 ≠ 0 then QQ (KO s p).1 else if (KO s p).1 > s.length - (KO s p).2.1 then 3 else 0
def wcl (s : BS) : Nat → Nat → List BS × Int
 | 0, p => ([], if p < s.length then 4 else 0)
 | k + 1, p => if XW s p ≠ 0 then ([], XW s p) else ((s.take ((KO s p).2.1 + (KO s p).1)).drop (KO s p).2.1 :: (wcl s k ((KO s p).2.1 + (KO s p).1)).1, (wcl s k ((KO s p).2.1 + (KO s p).1)).2)
def WZ (s : BS) : List BS × Int := if (KO s 1).2.2 ≠ 0 then ([], (KO s 1).2.2) else if (KO s 1).1 = 0 then ([], 2) else if (KO s 1).1 > 64 then ([], 5) else wcl s (KO s 1).1 (KO s 1).2.1
def X2 (s : BS) (n : Nat) (z : Nat × Nat × Int) : List BS × Int := if z.2.2 ≠ 0 then ([], z.2.2) else wcl s (n - z.1) z.2.1
def QT (s : BS) (p : Nat) : Int := if (lookE s p).1 ≠ 0 then (lookE s p).1 else if (lookE s p).2.2.2 = true then 2 else QQ (lookE s p).2.2.1
def ZC (s : BS) : Nat → Nat → List BS × Int
 | 0, p => ([], if p < s.length then 5 else 0)
 | k + 1, p => if p < s.length then (if QT s p ≠ 0 then ([], QT s p) else ((s.take ((lookE s p).2.1 + (lookE s p).2.2.1)).drop (lookE s p).2.1 :: (ZC s k ((lookE s p).2.1 + (lookE s p).2.2.1)).1, (ZC s k ((lookE s p).2.1 + (lookE s p).2.2.1)).2)) else ([], 0)
theorem Jrf {n : Nat} (h : QQ n = 0) : n ≤ 32768 := by
 unfold QQ at h
 split at h
 ·cases h
 ·split at h
  ·cases h
  ·omega
theorem Jrg {p : Nat} (h : XW s p = 0) : (KO s p).2.2 = 0 ∧ QQ (KO s p).1 = 0 ∧ p < (KO s p).2.1 ∧ (KO s p).2.1 + (KO s p).1 ≤ s.length := by
 unfold XW at h
 split at h
 ·exact absurd h ma
 ·rename_i h1
  have h1 : (KO s p).2.2 = 0 := by omega
  split at h
  ·exact absurd h ma
  ·rename_i h2
   split at h
   ·cases h
   ·rename_i h3
    have h4 := jc h1
    refine ⟨h1, by omega, by omega, by omega⟩
theorem Jjp  {b : Nat} (h : a + b ≤ s.length) : ((s.take (a + b)).drop a).length = b := by rw [List.length_drop, List.length_take]; omega
theorem Jjq (s : BS) : ∀ k p, (wcl s k p).1.length ≤ k
 | 0, _ => Z'
 | k + 1, p => by
  unfold wcl
  split
  ·exact Z'
  ·exact Nat.succ_le_succ (Jjq s k _)
theorem Jjr (s : BS) : ∀ k p, p ≤ s.length → (wcl s k p).1.flatten.length ≤ s.length - p
 | 0, _, _ => Z'
 | k + 1, p, _ => by
  unfold wcl
  split
  ·exact Z'
  ·rename_i h
   have h2 := Jrg (s := s) (p := p) m3
   have h3 := Jjr s k ((KO s p).2.1 + (KO s p).1) h2.2.2.2
   have h4 := Jjp h2.2.2.2
   show (List.flatten (_ :: _)).length ≤ _
   rw [List.flatten_cons, C', h4]; omega
theorem Jem (s : BS) : (WZ s).1.length ≤ 64 ∧ (WZ s).1.flatten.length ≤ s.length := by
 unfold WZ
 split
 ·exact EA
 ·rename_i h1
  split
  ·exact EA
  ·split
   ·exact EA
   ·have h2 := Jjq s (KO s 1).1 (KO s 1).2.1
    have h4 := jc (s := s) (p := 1) m3
    have h3 := Jjr s (KO s 1).1 (KO s 1).2.1 h4.2.2.2.1
    exact ⟨by omega, by omega⟩
theorem yt {p : Nat} (h : QT s p = 0) : (lookE s p).1 = 0 ∧ (lookE s p).2.2.2 = false ∧ QQ (lookE s p).2.2.1 = 0 ∧ p < (lookE s p).2.1 + (lookE s p).2.2.1 ∧ (lookE s p).2.1 + (lookE s p).2.2.1 ≤ s.length ∧ p ≤ (lookE s p).2.1 := by
 unfold QT at h
 split at h
 ·exact absurd h ma
 ·rename_i h1
  have h1 : (lookE s p).1 = 0 := by omega
  split at h
  ·cases h
  ·rename_i h2
   have h4 := Zm h1
   exact ⟨h1, by simpa using h2, h, by omega, h4.2.2, xg h1⟩
theorem Jjs (s : BS) : ∀ k p, (ZC s k p).1.length ≤ k
 | 0, _ => Z'
 | k + 1, p => by
  unfold ZC
  split
  ·split
   ·exact Z'
   ·exact Nat.succ_le_succ (Jjs s k _)
  ·exact Z'
theorem Jjt (s : BS) : ∀ k p, p ≤ s.length → (ZC s k p).1.flatten.length ≤ s.length - p
 | 0, _, _ => Z'
 | k + 1, p, _ => by
  unfold ZC
  split
  ·split
   ·exact Z'
   ·have h2 := yt (s := s) (p := p) m3
    have h3 := Jjt s k _ h2.2.2.2.2.1
    have h4 := Jjp h2.2.2.2.2.1
    show (List.flatten (_ :: _)).length ≤ _
    rw [List.flatten_cons, C', h4]; omega
  ·exact Z'
theorem Jbi {p c : Nat} (h : 64 ≤ c) (hp : p < s.length) : ZC s (64 - c) p = ([], 5) := by
 rw [show 64 - c = 0 by omega, ZC, if_pos hp]
theorem WV {p c : Nat} (h : c < 64) (hp : p < s.length) (he : QT s p = e) (h0 : e ≠ 0) : ZC s (64 - c) p = ([], e) := by
 rw [show 64 - c = (63 - c) + 1 by omega, ZC, if_pos hp, he, if_pos h0]
theorem Jrh {p c : Nat} (h : c < 64) (hp : p < s.length) (he : QT s p = 0) : ZC s (64 - c) p = ((s.take ((lookE s p).2.1 + (lookE s p).2.2.1)).drop (lookE s p).2.1 :: (ZC s (64 - (c + 1)) ((lookE s p).2.1 + (lookE s p).2.2.1)).1, (ZC s (64 - (c + 1)) ((lookE s p).2.1 + (lookE s p).2.2.1)).2) := by
 rw [show 64 - c = (63 - c) + 1 by omega, ZC, if_pos hp, if_neg m3, show 63 - c = 64 - (c + 1) by omega]
theorem Jvw {k p : Nat} (hp : ¬ p < s.length) : Jgx (ZC s k p) := by
 cases k with
 | zero => show ZC s 0 p = _; rw [ZC, if_neg hp]
 | succ k => show ZC s (k + 1) p = _; rw [ZC, if_neg hp]
theorem Jri (s : BS) : PureE (α := Nat) prog 87 [Jk s].toArray (fun r => .func (.func 178) #[] #[Kj r]) (fun r => [stB r s]) := by
 refine Qm Tryz.func87 O O fun w => ?_; exact gF
theorem Jlm (hlen : s.length ≤ 1000000) (rs : Nat) : vV prog 178 [Kj rs] [stB rs s] (ZC s 64 0) nxW Jgx := by
  refine Xf Tryz.func178 O O fun q xids w2 XI XF hY => Kl (Ku 7 O (JQ (σ := Nat × Nat) (fun z => z.1 ≤ 64 ∧ z.2 ≤ s.length) (fun z => [(0, .func (.yield q) #[] #[]), (1, Kj rs), (3, .int .i64 (z.2 : Int)), (4, .int .i64 (z.1 : Int))]) (fun _ => []) (fun z => XI (ZC s (64 - z.1) z.2)) (fun z => 64 - z.1) (0, 0) ⟨Z', Z'⟩ (lK O) (S') (fun _ _ h => h) ?_)); rintro ⟨c, p⟩ ⟨hc, hp⟩; simp only at hc hp; change HC _ _ [(0, .func (.yield q) #[] #[]), (1, Kj rs), (3, .int .i64 (p : Int)), (4, .int .i64 (c : Int))] [] (XI (ZC s (64 - c) p)) _ _; refine gw ?_; refine NM ?_; refine Nz ?_; refine NQ ?_; refine cD (fun g => ?_) fun g => ?_
  · refine Hu ?_
    have hlk := Ja9 (s := s) (a := p) m3
    refine HI ?_; refine NM ?_; refine JI O (JC O O O (enters_of Tryz.func179 m4 O) (Jqr hlen m3) ?_); refine MR ?_; refine kg ?_; refine JP 15 O (cD (fun g => ?_) fun g => ?_)
    · refine Ku 12 O (Jl O (fun g => ?_) (fun g => ?_))
      · try simp only [ZZ] at g
        refine gw ?_
        refine QN (XT := XI ([], 0)) (XF := XF) O O O O (hY (ZC s (64 - c) p) _ ([], 0) ⟨[], _, rfl, .inr ⟨by omega, by first | (exfalso; omega) | exact Jbi m3 m3 | exact WV m3 m3 M1 m3 | exact WV m3 m3 ni m3 | exact WV m3 m3 nl m3, rfl⟩⟩) ?_ ?_
        all_goals (
         exact NW
         skip)
      try exact Bool.noConfusion g
    · refine gx ?_
      refine J8 29 O (fun gb => ?_) (fun gb => ?_) <;> (try simp only [ZZ] at gb) <;> first | (refine JI O ?_) | (refine LK O ?_)
      all_goals refine N4 ?_
      all_goals (
       refine kW ?_; refine Jl O (fun g => ?_) (fun g => ?_)
       · try exact Bool.noConfusion g
         all_goals try simp only [ZZ] at g
         all_goals (
          refine Ku 12 O (Jl O (fun g => ?_) (fun g => ?_))
          · try simp only [ZZ] at g
            refine gw ?_
            refine QN (XT := XI ([], 0)) (XF := XF) O O O O (hY (ZC s (64 - c) p) _ ([], 0) ⟨[], _, rfl, .inr ⟨by omega, by first | (exfalso; omega) | exact Jbi m3 m3 | exact WV m3 m3 M1 m3 | exact WV m3 m3 ni m3 | exact WV m3 m3 nl m3, rfl⟩⟩) ?_ ?_
            all_goals (
             exact NW
             skip)
          try exact Bool.noConfusion g
          skip)
       · try simp only [ZZ] at g
         refine Ku 7 O (cD (fun g => ?_) fun g => ?_)
         · refine gz ?_; refine Ql m3 m3 (J4 (show _ = uV ((lookE s p).2.2.1) from congrArg (Value.int .u64) m3) (JC rfl rfl rfl Jnp (Jat (n := (lookE s p).2.2.1) (show (lookE s p).2.2.1 < 18446744073709551616 by omega)) (JP 11 rfl (cD (fun g => ?_) fun g => ?_))))
           · refine gw ?_
             refine QN (XT := XI ([], 0)) (XF := XF) O O O O (hY (ZC s (64 - c) p) _ ([], 0) ⟨[], _, rfl, .inr ⟨by omega, by first | (exfalso; omega) | exact Jbi m3 m3 | exact WV m3 m3 M1 m3 | exact WV m3 m3 ni m3 | exact WV m3 m3 nl m3, rfl⟩⟩) ?_ ?_
             all_goals (
              exact NW
              skip)
           · refine Ku 4 O ?_
             have hwh : QT s p = 0 := by first | (exfalso; omega) | (unfold QT; rw [if_neg m3, if_neg mF]; omega)
             have hwk := yt hwh
             refine gH ?_; refine QN (XT := XI (ZC s (64 - (c + 1)) ((lookE s p).2.1 + (lookE s p).2.2.1))) (XF := XF) O O O O (hY (ZC s (64 - c) p) _ (ZC s (64 - (c + 1)) ((lookE s p).2.1 + (lookE s p).2.2.1)) ⟨_, 0, rfl, .inl ⟨rfl, Jrh m3 m3 hwh⟩⟩) ?_ ?_
             all_goals (
              refine kW ?_; refine Jl O (fun g => ?_) (fun g => ?_)
              · try exact Bool.noConfusion g
                all_goals try simp only [ZZ] at g
                all_goals (
                 refine KF 6 O ?_; exact NJ
                 skip)
              · try exact Bool.noConfusion g
                all_goals try simp only [ZZ] at g
                all_goals (
                 exact H2
                 skip)
              skip)
         · refine Ku 10 O (cD (fun g => ?_) fun g => ?_)
           · refine gw ?_
             refine QN (XT := XI ([], 0)) (XF := XF) O O O O (hY (ZC s (64 - c) p) _ ([], 0) ⟨[], _, rfl, .inr ⟨by omega, by first | (exfalso; omega) | exact Jbi m3 m3 | exact WV m3 m3 M1 m3 | exact WV m3 m3 ni m3 | exact WV m3 m3 nl m3, rfl⟩⟩) ?_ ?_
             all_goals (
              exact NW
              skip)
           · refine Ku 4 O ?_
             have hwh : QT s p = 0 := by first | (exfalso; omega) | (unfold QT; rw [if_neg m3, if_neg mF]; omega)
             have hwk := yt hwh
             refine gH ?_; refine QN (XT := XI (ZC s (64 - (c + 1)) ((lookE s p).2.1 + (lookE s p).2.2.1))) (XF := XF) O O O O (hY (ZC s (64 - c) p) _ (ZC s (64 - (c + 1)) ((lookE s p).2.1 + (lookE s p).2.2.1)) ⟨_, 0, rfl, .inl ⟨rfl, Jrh m3 m3 hwh⟩⟩) ?_ ?_
             all_goals (
              refine kW ?_; refine Jl O (fun g => ?_) (fun g => ?_)
              · try exact Bool.noConfusion g
                all_goals try simp only [ZZ] at g
                all_goals (
                 refine KF 6 O ?_; exact NJ
                 skip)
              · try exact Bool.noConfusion g
                all_goals try simp only [ZZ] at g
                all_goals (
                 exact H2
                 skip)
              skip)
       skip)
  · refine KF 4 O (Gy fun w1 hs1 => ?_)
    obtain ⟨xs1, hx1⟩ := hs1.now
    exact ⟨⟨_, rfl⟩, hs1.keep, .inl ⟨_, _, Jvw m3, hx1⟩⟩
theorem Jbj  {n p : Nat} (h : e ≠ 0) : X2 s n (i, p, e) = ([], e) := if_pos h
theorem yu  {n p p' : Nat} (hi : i < n) (h : XW s p = e) (h0 : e ≠ 0) : X2 s n (i, p, 0) = X2 s n (i + 1, p', e) := by
 rw [Jbj h0]
 show (if (0 : Int) ≠ 0 then _ else wcl s (n - i) p) = _
 rw [if_neg m7, show n - i = (n - (i + 1)) + 1 by omega, wcl, h, if_pos h0]
theorem Jju  {n p : Nat} (hi : i < n) (h : XW s p = 0) : X2 s n (i, p, 0) = ((s.take ((KO s p).2.1 + (KO s p).1)).drop (KO s p).2.1 :: (X2 s n (i + 1, (KO s p).2.1 + (KO s p).1, 0)).1, (X2 s n (i + 1, (KO s p).2.1 + (KO s p).1, 0)).2) := by
 show (if (0 : Int) ≠ 0 then _ else wcl s (n - i) p) = _
 rw [if_neg m7, show n - i = (n - (i + 1)) + 1 by omega, wcl, if_neg m3]
 rfl
theorem Jen  {n p : Nat} (hi : ¬ i < n) : X2 s n (i, p, 0) = ([], if p < s.length then 4 else 0) := by
 show (if (0 : Int) ≠ 0 then _ else wcl s (n - i) p) = _
 rw [if_neg m7, show n - i = 0 by omega, wcl]
theorem Jrj  {n p : Nat} (he : e = 0) (hi : ¬ i < n) (hp : p < s.length) : X2 s n (i, p, e) = ([], 4) := by
 rw [he, Jen hi, if_pos hp]
theorem Jrk  {n p : Nat} (he : e = 0) (hi : ¬ i < n) (hp : ¬ p < s.length) : Jgx (X2 s n (i, p, e)) := by
 show X2 s n (i, p, e) = _
 rw [he, Jen hi, if_neg hp]
theorem J2v {n p0 : Nat} {e0 : Int} (hbad : e0 ≠ 0 → n = 0) (h1 : ¬ (e0 = 0 ∧ n = 0)) (h2 : n ≤ 64) : (if e0 ≠ 0 then ([], e0) else if n = 0 then ([], 2) else if n > 64 then ([], 5) else wcl s n p0) = X2 s n (0, p0, e0) := by
 by_cases h : e0 = 0
 ·subst h
  rw [if_neg m7, if_neg (fun h => h1 ⟨rfl, h⟩), if_neg m3]; rfl
 ·rw [if_pos h]; exact (Jbj h).symm
theorem Jln (hlen : s.length ≤ 1000000) (rs : Nat) : vV prog 181 [Kj rs] [stB rs s] (WZ s) nxW Jgx := by
  have hU0 : Pure prog 182 [Jk s, .int .i64 1].toArray (Jsv (KO s 1)) := X9 m3 1
  have hn0 := Jai s 1
  have hbad : (KO s 1).2.2 ≠ 0 → (KO s 1).1 = 0 := fun h => (Jib h).1
  have hpos : (KO s 1).2.2 = 0 → (KO s 1).2.1 ≤ s.length := fun h => (jc h).2.2.2.1
  obtain ⟨⟨n, p0, e0⟩, hu⟩ : ∃ g, KO s 1 = g := ⟨_, rfl⟩
  have hW : WZ s = if e0 ≠ 0 then ([], e0) else if n = 0 then ([], 2) else if n > 64 then ([], 5) else wcl s n p0 := by unfold WZ; rw [hu]
  rw [hu] at hU0 hn0 hbad hpos; simp only at hn0 hbad hpos; change Pure _ _ _ (.tuple #[uV n, .int .i64 (p0 : Int), .int .i64 e0]) at hU0; refine Xf Tryz.func181 O O fun q xids w2 XI XF hY => MZ ?_; refine NM ?_; refine JC O O O Jh5 hU0 (MR ?_); refine Fh ?_; refine J5 12 O ?_
  refine J8 19 O (fun gb => ?_) (fun gb => ?_) <;> (try simp only [ZZ] at gb) <;> first | (refine JI O ?_) | (refine LK O ?_)
  all_goals refine MQ ?_
  all_goals (
   refine kW ?_; refine QR (α := Int) (fun e1 => WZ s = X2 s n (0, p0, e1) ∧ (e1 = 0 → p0 ≤ s.length ∧ n ≤ 64)) (fun e1 => [(0, .func (.yield q) #[] #[]), (1, Kj rs), (3, uV n), (4, .int .i64 (p0 : Int)), (5, .int .i64 e1)]) (fun _ => []) ?_ ?_
   · rintro e1 ⟨hW1, he1⟩
     rw [hW1]; refine V0 9 O (JQ (σ := Nat × Nat × Int) (fun z => z.1 ≤ n ∧ (z.2.2 = 0 → z.2.1 ≤ s.length ∧ n ≤ 64)) (fun z => [(0, .func (.yield q) #[] #[]), (1, Kj rs), (3, uV n), (4, .int .i64 (z.2.1 : Int)), (5, .int .i64 z.2.2), (6, uV z.1)]) (fun _ => []) (fun z => XI (X2 s n z)) (fun z => n - z.1) (0, p0, e1) ⟨Z', he1⟩ (lK O) (S') (fun _ _ h => h) ?_); rintro ⟨i, p, e⟩ ⟨hi, hpe⟩; simp only at hi hpe; change HC _ _ [(0, .func (.yield q) #[] #[]), (1, Kj rs), (3, uV n), (4, .int .i64 (p : Int)), (5, .int .i64 e), (6, uV i)] [] (XI (X2 s n (i, p, e))) _ _; refine DE ?_
     refine J8 29 O (fun gb => ?_) (fun gb => ?_) <;> (try simp only [ZZ] at gb) <;> first | (refine JI O ?_) | (refine LK O ?_)
     all_goals refine MQ ?_
     all_goals (
      refine kN ?_; refine Jl O (fun h12 => ?_) (fun h12 => ?_)
      · try exact Bool.noConfusion h12
        all_goals try simp only [ZZ] at h12
        all_goals (
         refine Hu ?_
         obtain rfl : e = 0 := by omega
         have hil : i < n := by omega
         have hU : Pure prog 182 [Jk s, .int .i64 (p : Int)].toArray (Jsv (KO s p)) := X9 m3 _
         have hun := Jai s p
         have hok := fun h => (jc (s := s) (p := (p : Nat)) h)
         obtain ⟨⟨un, uq, ue⟩, hu1⟩ : ∃ g, KO s p = g := ⟨_, rfl⟩
         have hstp : XW s p = if ue ≠ 0 then ue else if QQ un ≠ 0 then QQ un else if un > s.length - uq then 3 else 0 := by unfold XW; rw [hu1]
         have hlo := fun h => Jrf (n := un) h
         rw [hu1] at hU hun; rw [hu1] at hok; simp only at hun hok
         have hok2 : ue = 0 → uq ≤ s.length := fun h => (hok h).2.2.2.1
         change Pure _ _ _ (.tuple #[uV un, .int .i64 (uq : Int), .int .i64 ue]) at hU; refine HI ?_; refine NM ?_; refine JI O (JC O O O Jh5 hU ?_); refine MR ?_; refine Fh ?_; refine JP 18 O (cD (fun h18 => ?_) fun h18 => ?_)
         · refine NG ?_; refine JC O O O Jnp (Jat (n := un) hun) (J5 9 O ?_)
           refine J8 49 O (fun gb => ?_) (fun gb => ?_) <;> (try simp only [ZZ] at gb) <;> first | (refine JI O ?_) | (refine LK O ?_)
           all_goals first | (refine KC O ?_; refine JT m3 m3 ?_) | refine LK O ?_
           all_goals refine He ?_
           all_goals refine ko ?_
           all_goals refine Ns ?_
           all_goals first | (refine KC O ?_; refine J4 nq ?_) | refine LK O ?_
           all_goals refine MQ ?_
           all_goals (
            refine kN ?_; refine Jl O (fun h28 => ?_) (fun h28 => ?_)
            · try exact Bool.noConfusion h28
              all_goals try simp only [ZZ] at h28
              all_goals (
               refine Ku 10 O (Jl O (fun h30 => ?_) (fun h30 => ?_))
               try exact Bool.noConfusion h30
               try simp only [ZZ] at h30
               refine Gi ?_
               first
                 | (exfalso; omega)
                 | (rw [if_neg m3, if_neg m3, if_pos m3] at hstp
                    rw [yu (p' := p) hil hstp m3]
                    exact JL (i + 1, p, 3) ⟨by simp only; omega, fun h => absurd h (show ¬ (3 : Int) = 0 by decide)⟩ mj (lK rfl) (S') (fun _ _ h => h))
               skip)
            · try simp only [ZZ] at h28
              refine Ku 8 O (cD (fun h35 => ?_) fun h35 => ?_)
              · refine gx ?_; refine JT m3 m3 ?_
                refine GV ?_; refine J4 nw (G5 ?_)
                have hst : XW s p = 0 := by rw [hstp, if_neg m3, if_neg m3, if_neg m3]
                have hz0 : QQ un = 0 := by omega
                have hz1 := hok2 m3
                try rw [hz0]
                refine Fc ?_; refine QN (XT := XI (X2 s n (i + 1, uq + un, 0))) (XF := XF) O O O O (hY (X2 s n (i, p, 0)) _ (X2 s n (i + 1, uq + un, 0)) ⟨_, _, rfl, .inl ⟨by omega, by rw [Jju hil hst, hu1]⟩⟩) ?_ ?_
                all_goals (
                 refine kW ?_; refine Jl O (fun h38 => ?_) (fun h38 => ?_)
                 · try exact Bool.noConfusion h38
                   all_goals try simp only [ZZ] at h38
                   all_goals (
                    refine KF 6 O (Jh O O .nil (fun w1 hs1 => ?_))
                    obtain ⟨xs1, hx1⟩ := hs1.now
                    first | (exfalso; omega) | exact ⟨⟨_, rfl⟩, hs1.keep, .inr ⟨_, hx1⟩⟩
                    skip)
                 · try exact Bool.noConfusion h38
                   all_goals try simp only [ZZ] at h38
                   all_goals (
                    refine Gi ?_
                    first | (exfalso; omega) | exact JL (i + 1, uq + un, 0) ⟨by simp only; omega, fun _ => ⟨by simp only; omega, by omega⟩⟩ mj (lK rfl) (S') (fun _ _ h => h)
                    skip)
                 skip)
              refine Gi ?_
              first
                | (exfalso; omega)
                | (rw [if_neg m3, if_pos m3] at hstp
                   rw [yu (p' := p) hil hstp m3]
                   exact JL (i + 1, p, QQ un) ⟨by simp only; omega, fun h => absurd h mj⟩ mj (lK rfl) (S') (fun _ _ h => h))
            skip)
         · refine Jv 8 O ?_
           refine J8 49 O (fun gb => ?_) (fun gb => ?_) <;> (try simp only [ZZ] at gb) <;> first | (refine JI O ?_) | (refine LK O ?_)
           all_goals first | (refine KC O ?_; refine JT m3 m3 ?_) | refine LK O ?_
           all_goals refine He ?_
           all_goals refine ko ?_
           all_goals refine Ns ?_
           all_goals first | (refine KC O ?_; refine J4 nq ?_) | refine LK O ?_
           all_goals refine MQ ?_
           all_goals (
            refine kN ?_; refine Jl O (fun h48 => ?_) (fun h48 => ?_)
            · try exact Bool.noConfusion h48
              all_goals try simp only [ZZ] at h48
              all_goals (
               refine Ku 10 O (Jl O (fun h50 => ?_) (fun h50 => ?_))
               try exact Bool.noConfusion h50
               try simp only [ZZ] at h50
               refine Gi ?_
               exfalso; omega
               skip)
            · try simp only [ZZ] at h48
              refine Ku 8 O (cD (fun h55 => ?_) fun h55 => ?_)
              · refine gx ?_; refine JT m3 m3 ?_
                refine GV ?_; refine J4 nw (G5 ?_)
                have hst : XW s p = 0 := by rw [hstp, if_neg m3, if_neg m3, if_neg m3]
                have hz0 : QQ un = 0 := by omega
                have hz1 := hok2 m3
                try rw [hz0]
                refine Fc ?_; refine QN (XT := XI (X2 s n (i + 1, uq + un, 0))) (XF := XF) O O O O (hY (X2 s n (i, p, 0)) _ (X2 s n (i + 1, uq + un, 0)) ⟨_, _, rfl, .inl ⟨by omega, by rw [Jju hil hst, hu1]⟩⟩) ?_ ?_
                all_goals (
                 refine kW ?_; refine Jl O (fun h58 => ?_) (fun h58 => ?_)
                 · try exact Bool.noConfusion h58
                   all_goals try simp only [ZZ] at h58
                   all_goals (
                    refine KF 6 O (Jh O O .nil (fun w1 hs1 => ?_))
                    obtain ⟨xs1, hx1⟩ := hs1.now
                    exfalso; omega
                    skip)
                 · try exact Bool.noConfusion h58
                   all_goals try simp only [ZZ] at h58
                   all_goals (
                    refine Gi ?_
                    exfalso; omega
                    skip)
                 skip)
              refine Gi ?_
              first
                | (exfalso; omega)
                | (rw [if_pos m3] at hstp
                   rw [yu (p' := p) hil hstp m3]
                   exact JL (i + 1, p, ue) ⟨by simp only; omega, fun h => absurd h mj⟩ mj (lK rfl) (S') (fun _ _ h => h))
            skip)
         skip)
      · try simp only [ZZ] at h12
        refine Jv 11 O ?_
        refine J8 74 O (fun gb => ?_) (fun gb => ?_) <;> (try simp only [ZZ] at gb) <;> first | (refine JI O ?_) | (refine LK O ?_)
        all_goals refine He ?_
        all_goals refine ko ?_
        all_goals refine MQ ?_
        all_goals (
         refine kN ?_; refine Jl O (fun h65 => ?_) (fun h65 => ?_)
         · try exact Bool.noConfusion h65
           all_goals try simp only [ZZ] at h65
           all_goals (
            refine Ku 10 O (Jl O (fun h67 => ?_) (fun h67 => ?_))
            · try simp only [ZZ] at h67
              refine gz ?_
              refine QN (XT := XI ([], 0)) (XF := XF) O O O O (hY (X2 s n (i, p, e)) _ ([], 0) ⟨[], _, rfl, .inr ⟨by omega, by first | (exfalso; omega) | exact Jbj m3 | exact Jrj m3 m3 m3, rfl⟩⟩) ?_ ?_
              all_goals (
               refine JD 1 O (KP O O .nil (fun w1 hs1 => ?_))
               obtain ⟨xs1, hx1⟩ := hs1.now
               first | (exfalso; omega) | exact ⟨⟨_, rfl⟩, hs1.keep, .inr ⟨_, hx1⟩⟩ | exact ⟨⟨_, rfl⟩, hs1.keep, .inl ⟨_, _, rfl, hx1⟩⟩
               skip)
            try exact Bool.noConfusion h67
            skip)
         · try simp only [ZZ] at h65
           refine Ku 8 O (cD (fun h69 => ?_) fun h69 => ?_)
           · refine gz ?_
             refine QN (XT := XI ([], 0)) (XF := XF) O O O O (hY (X2 s n (i, p, e)) _ ([], 0) ⟨[], _, rfl, .inr ⟨by omega, by first | (exfalso; omega) | exact Jbj m3 | exact Jrj m3 m3 m3, rfl⟩⟩) ?_ ?_
             all_goals (
              refine JD 1 O (KP O O .nil (fun w1 hs1 => ?_))
              obtain ⟨xs1, hx1⟩ := hs1.now
              first | (exfalso; omega) | exact ⟨⟨_, rfl⟩, hs1.keep, .inr ⟨_, hx1⟩⟩ | exact ⟨⟨_, rfl⟩, hs1.keep, .inl ⟨_, _, rfl, hx1⟩⟩
              skip)
           refine KF 1 O (Gy fun w1 hs1 => ?_)
           obtain ⟨xs1, hx1⟩ := hs1.now
           first | (exfalso; omega) | exact ⟨⟨_, rfl⟩, hs1.keep, .inl ⟨_, _, Jrk m3 m3 m3, hx1⟩⟩
         skip)
      skip)
   · intro hJ
     refine Jl O (fun h70 => ?_) (fun h70 => ?_)
     · try exact Bool.noConfusion h70
       all_goals try simp only [ZZ] at h70
       all_goals (
        refine KF 3 O ?_; exact hJ _ _ 2 ⟨by rw [hW]; rw [if_neg m3, if_pos m3]; rfl, fun h => absurd h m7⟩ (lK rfl) (T')
        skip)
     try simp only [ZZ] at h70
     refine Ku 7 O (cD (fun h72 => ?_) fun h72 => ?_)
     refine KF 3 O ?_; exact hJ _ _ 5 ⟨by rw [hW]; rw [if_neg (by intro h0; have := hbad h0; omega), if_neg m3, if_pos m3]; rfl, fun h => absurd h m7⟩ (lK rfl) (T')
     refine KF 1 O ?_; exact hJ _ _ e0 ⟨by rw [hW]; exact J2v hbad m3 m3, fun h => ⟨hpos h, by omega⟩⟩ (lK rfl) (T')
   skip)
def Wl (s : BS) : Int × Int := if s = [] then (0, 3) else if (s.getD 0 0).toNat = 2 then (2, 0) else if 130 ≤ (s.getD 0 0).toNat ∧ (s.getD 0 0).toNat ≤ 191 then (0, 0) else (0, 9)
def WX (s : BS) : List BS × Int := if (Wl s).1 = 2 then WZ s else ZC s 64 0
def VS (s : BS) : Int × List BS × Int := if (Wl s).2 ≠ 0 then (0, [], (Wl s).2) else if (WX s).2 ≠ 0 then (0, [], (WX s).2) else if (WX s).1.flatten.length ≤ 131072 then ((Wl s).1, (WX s).1, 0) else (0, [], 5)
theorem xl (s : BS) : (WX s).1.length ≤ 64 ∧ (WX s).1.flatten.length ≤ s.length := by
 unfold WX
 split
 ·exact Jem s
 ·exact ⟨Jjs s 64 0, Jjt s 64 0 (Z')⟩
theorem Jze (h : (Wl s).2 = 0) : (Wl s).1 = 2 ∨ (Wl s).1 = 0 := by
 unfold Wl at h ⊢
 split at h
 ·cases h
 ·rename_i h1
  rw [if_neg h1]
  split at h
  ·rename_i h2; rw [if_pos h2]; exact .inl O
  ·rename_i h2
   rw [if_neg h2]
   split at h
   ·rename_i h3; rw [if_pos h3]; exact .inr O
   ·cases h
theorem Jeo (s : BS) : Pure prog 86 [Jk s].toArray (.tuple #[.int .i64 (Wl s).1, .int .i64 (Wl s).2]) := by
  have hb := V6 (s.getD 0 0)
  refine JA Tryz.func86 O O fun w => Kl (Jv 11 O (Hs ?_)); refine NQ ?_; refine cD (fun g => ?_) fun g => ?_
  refine HV fun w1 hs1 => ?_
  unfold Wl
  rw [if_pos ma]; rfl
  · refine Dz ?_
    have hl0 : 0 < s.length := by cases s; contradiction; simp
    refine NG ?_; refine LR O (JW (j := 0) (n := (s.getD 0 0).toNat) O O O O m3 O) (G5 ?_); refine cD (fun g => ?_) fun g => ?_
    refine HV fun w1 hs1 => ?_
    unfold Wl
    rw [if_neg ma, if_pos m3]; rfl
    · refine gz ?_; refine LR O (JW (j := 0) (n := (s.getD 0 0).toNat) O O O O m3 O) (gu ?_)
      refine J8 15 O (fun gb => ?_) (fun gb => ?_) <;> (try simp only [ZZ] at gb) <;> first | (refine JI O ?_) | (refine LK O ?_)
      all_goals first | (refine LR O (JW (j := 0) (n := (s.getD 0 0).toNat) O O O O m3 O) ?_) | refine LK O ?_
      all_goals refine MQ ?_
      all_goals (
       refine kW ?_; refine Jl O (fun g => ?_) (fun g => ?_)
       · try exact Bool.noConfusion g
         all_goals try simp only [ZZ] at g
         all_goals (
          refine HV fun w1 hs1 => ?_
          unfold Wl
          rw [if_neg ma, if_neg m3, if_pos m3]; rfl
          skip)
       try simp only [ZZ] at g
       refine KF 10 O (Np fun w1 hs1 => ?_)
       unfold Wl
       rw [if_neg ma, if_neg m3, if_neg m3]; rfl
       skip)
theorem Jjv (hlen : s.length ≤ 1000000) :
  PureT (α := { row : QZ // rowOk 1 (VS s).2.1.length ((VS s).2.1.map Jk) row }) prog 25 [Jk s].toArray (fun y => .tuple #[.int .i64 (VS s).1, JV (VS s).2.1.length y.1, .int .i64 (VS s).2.2]) [] (fun y => J9 9 ((VS s).2.1.map Jk) y.1) [] := by
 have hrl := xl s
 have hv2 := Jze (s := s)
 have hVP := Jeo s
 have hIt : (∀ rs, (Wl s).1 = 2 → vV prog 181 [Kj rs] [stB rs s] (WX s) nxW Jgx) ∧ ∀ rs, (Wl s).1 = 0 → vV prog 178 [Kj rs] [stB rs s] (WX s) nxW Jgx :=
  ⟨fun rs h => by rw [show WX s = WZ s from if_pos h]; exact Jln hlen rs, fun rs h => by rw [show WX s = ZC s 64 0 from if_neg m3]; exact Jlm hlen rs⟩
 have hG : VS s = if (Wl s).2 ≠ 0 then (0, [], (Wl s).2) else if (WX s).2 ≠ 0 then (0, [], (WX s).2) else if (WX s).1.flatten.length ≤ 131072 then ((Wl s).1, (WX s).1, 0) else (0, [], 5) := rfl
 obtain ⟨⟨l, el⟩, hwr⟩ : ∃ g, WX s = g := ⟨_, rfl⟩
 obtain ⟨⟨v, ve⟩, hv⟩ : ∃ g, Wl s = g := ⟨_, rfl⟩
 rw [hwr] at hrl hIt; rw [hv] at hv2 hIt hVP; rw [hwr, hv] at hG; simp only at hrl hIt hG hv2 hVP; refine Jq Tryz.func25 O O fun w => DI fun r2 => ?_; refine LN O fun r3 => LN O fun r4 => kB ?_; refine JC O O O (enters_of Tryz.func86 m4 O) hVP (H4 ?_); refine cD (fun h5 => ?_) fun h5 => ?_
 refine gz ?_
 refine Hj ?_
 refine kQ ?_
 refine Nx ?_; refine gA ?_
 (refine Jh O O (.cons (JX O (kn 2 O) O O) (.cons (JX O (kn 1 O) O O) (.cons (JX O (kn 0 O) O O) .nil))) (fun w1 hs1 => ?_)
  have hU : VS s = (0, [], ve) := by rw [hG, if_pos m3]
  rw [hU]
  exact ⟨⟨none, ⟨rfl, rfl⟩⟩, rfl, hs1.weakL (S')⟩)
 ·refine gw ?_; refine ZX O O fun rm => QU (q := 0) (key := .int .i64 0) (val := .func (.func 87) #[] #[]) (VP (t := 3) m4) O O O O O O ⟨_, rfl⟩ MF O O ?_
  refine QU (q := 0) (key := .int .i64 2) (val := .func (.func 88) #[] #[]) (VP (t := 3) m4) O O O O O O ⟨_, rfl⟩ nE O O (gp ?_); refine LN O fun r8 => G5 ?_
  obtain ⟨gf, gg, hgv, hGE, hGF, hGI, hGG⟩ : ∃ gf gg, (v = 2 ∧ gf = 88 ∨ v = 0 ∧ gf = 87) ∧ PureE (α := Nat) prog gf [Jk s].toArray (fun r => .func (.func gg) #[] #[Kj r]) (fun r => [stB r s]) ∧ Enters prog gf ∧ (∀ rs, vV prog gg [Kj rs] [stB rs s] (l, el) nxW Jgx) ∧ Enters prog gg := by
   rcases hv2 m3 with h | h
   exact ⟨_, _, .inl ⟨h, rfl⟩, Jpp s, (enters_of Tryz.func88 m4 O), fun rs => hIt.1 rs h, (enters_of Tryz.func181 m4 O)⟩
   exact ⟨_, _, .inr ⟨h, rfl⟩, Jri s, (enters_of Tryz.func87 m4 O), fun rs => hIt.2 rs h, (enters_of Tryz.func178 m4 O)⟩
  refine gz ?_
  refine LR O (Qk (v := .func (.func gf) #[] #[]) (VP (t := 3) m4) O O (kn 1 O) O O ⟨_, rfl⟩ nu (by rcases hgv with ⟨rfl, rfl⟩ | ⟨rfl, rfl⟩ <;> rfl)) ?_; refine JI O (KG O O O hGF hGE fun rs => (JP 3 O ?_)); refine Zc [1, 5, 4, 3, 0, 2] m7 O ?_; refine Zr (τ := Int) (fun i (z : List BS × QZ) => (z.1 ++ i.1, i.2) = (l, el) ∧ rowOk 1 z.1.length (z.1.map Jk) z.2) (fun z => (r8, .cells #[JV z.1.length z.2] 37 (0, 0)) :: (r2, .cells #[.int .i64 0] 3 (0, 0)) :: (r3, .cells #[.slice none 0 0] 37 (0, 0)) :: (r4, .cells #[.int .i64 0] 43 (0, 0)) :: J9 9 (z.1.map Jk) z.2) (fun j e => j = .ret ∧ el = e ∧ e ≠ 0) (fun e => [(r2, .cells #[.int .i64 0] 3 (0, 0)), (r3, .cells #[.slice none 0 0] 37 (0, 0)), (r4, .cells #[.int .i64 e] 43 (0, 0))]) [(rs, _), (rm, _)] ([], none) O O hGG (hGI rs) (by rintro _ _ _ ⟨_, _, rfl, _⟩; rfl) rfl (fun q hq => Or.inl mB) rfl ⟨rfl, ⟨rfl, rfl⟩⟩ ?_ ?_ ?_
  rintro q Xr Xb w3 ⟨rest, e⟩ _ ⟨rest1, e1⟩ ⟨acc, row⟩ ⟨x, xe, rfl, hx⟩ ⟨hW, hrow⟩ Kr hKr; refine inR ?_
  simp only [Prod.mk.injEq] at hx hW hKr hrow ⊢
  have hal : acc.length ≤ 64 := by rw [← hW.1, C'] at hrl; omega
  refine GL ?_; refine EW ?_; clear hKr; refine Ku 8 O (cD (fun h14 => ?_) fun h14 => ?_)
  refine gz ?_
  refine kQ ?_
  refine gj ?_; refine G4 ?_; refine QO [1, 2, 3] (L' := [_, _, _]) m7 O ?_
  exact Yd xe ⟨rfl, by rcases hx with h | h; exact absurd h.1 m3; rw [← hW.2, h.2.1.2], by omega⟩ rfl
  refine gz ?_; refine MS ?_; refine gl ?_; refine Gs fun rb => ?_; refine Kw (L0 := [_, _, _, _, _]) (xs := acc.map Jk) (row := row) (n := acc.length) (sz := 1) (b := 16) (news := [Jk x]) (B' (l₁ := [_, _, _, _, _])) O O O O (kn 0 O) O O O O O m7 O O O m7 hrow m3 m3 fun ra cap sp hra => ?_
  refine Hj ?_; refine JD 2 O (QO [2, 3, 4, 5, 0] (L' := [_, _, _, _, _]) m7 O ?_)
  have hx0 : xe = 0 := by omega
  have hxe : rest = x :: rest1 ∧ e = e1 := by rcases hx with h | h; exact h.2; exact absurd hx0 h.1
  have ea : acc.map Jk ++ [Jk x] = (acc ++ [x]).map Jk := by rw [List.map_append]; rfl
  rw [ea] at hra; refine Xg (acc ++ [x], some (ra, cap, sp)) ⟨by simp only; rw [Ld', ← hW.1, ← hW.2, hxe.1, hxe.2]; exact ⟨rfl, rfl⟩, by simp only; rw [C']; exact hra⟩ ?_; simp only [J9, JV, ← ea, C', List.length_singleton]
  ·rintro D i ⟨acc, row⟩ hfi ⟨hW, hrow⟩
   obtain rfl : i = ([], 0) := hfi
   simp only [Prod.mk.injEq, List.append_nil] at hW hrow ⊢
   obtain ⟨rfl, rfl⟩ := hW
   refine X6 ((((((B').cons _).cons _).cons _).cons _).cons _) ?_; change HQ _ _ _ ((D, _) :: (r8, _) :: (r2, _) :: (r3, _) :: (r4, _) :: (rs, _) :: (rm, _) :: J9 9 (acc.map Jk) row) _ _; refine wh 5 O (LR O (Jc (v := JV acc.length row) O (kn 1 O) O O) (J4 (KK hrow) (Ju O O O (enters_of Tryz.func89 m4 O) (Jph (R := J9 9 (acc.map Jk) row) (Ks hrow m7) m3 m3) (fun q hq => Or.inl (M' (M' (M' (M' (M' (M' (M' hq)))))))) (NQ ?_)))); refine cD (fun h18 => ?_) fun h18 => ?_
   refine NG ?_
   refine gj ?_
   refine Jm (k := 4) O O O O O O O O m6 m5 (gA ?_)
   (refine Wp (k := 0) O O ?_
    refine GT fun w1 hs1 => ?_
    have hU : VS s = (0, [], 5) := by rw [hG, if_neg m3, if_neg m7, if_neg mF]
    rw [hU]
    exact ⟨⟨none, ⟨rfl, rfl⟩⟩, rfl, hs1.weakL (S')⟩)
   ·refine D5 ?_; refine Kk [(r8, .cells #[JV acc.length row] 37 (0, 0))] [(0, .pure), (1, .pure), (2, .turn), (3, .turn), (4, .turn)] 5 [0, 1, 2, 3, 4] m4 m4 (fun p hp => by rw [U'.1 hp]; exact M' N') (Ew ?_); refine NP ?_; refine Qy (k := 2) (q := 2) (cs' := #[.int .i64 v]) O O O O O O O O O O O (fun p hp => by rw [U'.1 hp]; exact M' N') ?_
    refine Qy (k := 3) (q := 3) (cs' := #[JV acc.length row]) O O O O O O O Me O O O (fun p hp => by rw [U'.1 hp]; exact M' N') (Qy (k := 4) (q := 4) (cs' := #[.int .i64 0]) O O O O O O O O O O O (fun p hp => by rw [U'.1 hp]; exact M' N') (KJ (GN ?_)))
    (refine Wp (k := 0) O O ?_
     refine GT fun w1 hs1 => ?_
     have hU : VS s = (v, acc, 0) := by rw [hG, if_neg m3, if_neg m7, if_pos mF]
     rw [hU]
     exact ⟨⟨row, hrow⟩, rfl, hs1.weakL (.cons _ (.cons _ (.cons _ (.cons _ (.cons _ (.cons _ (.cons _ (T'))))))))⟩)
  ·rintro D j t ⟨rfl, hte, ht0⟩
   refine KF 3 O ?_
   (refine Wp (k := 0) O O ?_
    refine Jh O O (.cons (JX O (kn 1 O) O O) (.cons (JX O (kn 2 O) O O) (.cons (JX O (kn 3 O) O O) .nil))) (fun w1 hs1 => ?_)
    have hU : VS s = (0, [], t) := by rw [hG, if_neg m3, if_pos m3, hte]
    rw [hU]
    exact ⟨⟨none, ⟨rfl, rfl⟩⟩, rfl, hs1.weakL (S')⟩)
def sV (s : List UInt8) : Value := .string (bs s)
def pV (p : List (List UInt8)) : Value := .agg (p.map sV).toArray
theorem jX (p : List (List UInt8)) : (p.map sV).all VU = true := by simp [sV, VU, List.all_map, List.all_eq_true]
theorem Jrl {v : Nat} (hv : v ≤ 1) : Pure prog 262 [.int .i64 (v : Int)].toArray (.int .i64 ((128 + 8 * v : Nat) : Int)) := by
 refine JA Tryz.func262 O O fun w => Gm ?_; refine JT m3 m3 (KC O (JT m3 m3 (JD 4 O ?_))); exact Ng
theorem J1j {p : List α} (h : p.length = 3) : ∃ a b c, p = [a, b, c] := by
 match p, h with
 | [a, b, c], _ => exact ⟨a, b, c, rfl⟩
def Jwy (s : List UInt8) (i : Nat) : List UInt8 := (s.take (32 * (i + 2))).drop (32 * (i + 1))
def KL (s : List UInt8) : Nat → List (List UInt8)
 | 0 => [[], [], []]
 | i + 1 => (KL s i).set i (Jwy s i)
theorem Ko (s : List UInt8) : ∀ i, (KL s i).length = 3
 | 0 => rfl
 | i + 1 => by simp [KL, Ko s i]
def wO (s : List UInt8) : List Nat := qp (s.take 32)
def Qe (s : List UInt8) : Nat × List (List UInt8) × Nat × Int :=
 if s.length < 32 then (0, KL s 0, 0, 3) else if ¬ (VC (wO s) = true ∧ (wO s).getD 0 0 ≤ 1) then (0, KL s 0, 0, 9)
 else if s.length < 128 + 8 * (wO s).getD 0 0 then (0, KL s 0, 0, 3) else if s.length > 128 + 8 * (wO s).getD 0 0 then (0, KL s 0, 0, 4)
 else ((wO s).getD 0 0, KL s 3, if (wO s).getD 0 0 = 1 then leV (s.drop 128) else 0, 0)
def Jzf (g : Nat × List (List UInt8) × Nat × Int) : Value := .tuple #[.int .i64 (g.1 : Int), pV g.2.1, uV g.2.2.1, .int .i64 g.2.2.2]
theorem YJ {s : List UInt8} (h : s.length < 32) : Qe s = (0, KL s 0, 0, 3) := by unfold Qe; rw [if_pos h]
theorem ZD {s : List UInt8} (h : ¬ s.length < 32) (h2 : ¬ (VC (wO s) = true ∧ (wO s).getD 0 0 ≤ 1)) : Qe s = (0, KL s 0, 0, 9) := by unfold Qe; rw [if_neg h, if_pos h2]
theorem vO {s : List UInt8} (h : ¬ s.length < 32) (h2 : VC (wO s) = true ∧ (wO s).getD 0 0 ≤ 1) (h3 : s.length < 128 + 8 * (wO s).getD 0 0) : Qe s = (0, KL s 0, 0, 3) := by unfold Qe; rw [if_neg h, if_neg (not_not_intro h2), if_pos h3]
theorem vP {s : List UInt8} (h : ¬ s.length < 32) (h2 : VC (wO s) = true ∧ (wO s).getD 0 0 ≤ 1) (h3 : s.length > 128 + 8 * (wO s).getD 0 0) : Qe s = (0, KL s 0, 0, 4) := by unfold Qe; rw [if_neg h, if_neg (not_not_intro h2), if_neg m3, if_pos h3]
theorem vQ {s : List UInt8} (h2 : VC (wO s) = true ∧ (wO s).getD 0 0 ≤ 1) (h3 : s.length = 128 + 8 * (wO s).getD 0 0) : Qe s = ((wO s).getD 0 0, KL s 3, if (wO s).getD 0 0 = 1 then leV (s.drop 128) else 0, 0) := by
 unfold Qe; rw [if_neg m3, if_neg (not_not_intro h2), if_neg m3, if_neg m3]
theorem Jrm {s : List UInt8} (h : ¬ s.length < 32) : ZI (s.take 32) = (wO s, 0) := by unfold ZI; rw [if_pos n6]; rfl
theorem Jlo {w : List Nat} : (∃ m, ZW w = .tuple #[uV m, .bool true] ∧ VC w = true ∧ m = w.getD 0 0) ∨ (∃ m, ZW w = .tuple #[uV m, .bool false] ∧ VC w = false ∧ m = 0) := by
 cases h : VC w with
 | true => exact .inl ⟨_, by unfold ZW; rw [h]; rfl, rfl, rfl⟩
 | false => exact .inr ⟨_, by unfold ZW; rw [h]; rfl, rfl, rfl⟩
theorem J1k {s : List UInt8} (h : s.length = 136) : wM (s.drop 128) = (leV (s.drop 128), 0) := by unfold wM; rw [if_neg nX]
theorem Jrn {p q : List (List UInt8)} {j : Nat} {x : List UInt8} (h : p.set j x = q) : (p.map sV).set j (.string (bs x)) = q.map sV := by rw [← h, List.map_set]; rfl
theorem Jlp {s : List UInt8} (hs : s.length ≤ 9223372036854775807) : Pure prog 226 [.string (bs s)].toArray (Jzf (Qe s)) := by
  refine JA Tryz.func226 O O fun w => Kl ?_
  have hwk : WOk (wO s) := xI _
  have hwl := hwk.1
  obtain ⟨W, hW⟩ : ∃ W, W = wO s := ⟨_, rfl⟩
  rcases Jlo (w := wO s) with ⟨m, hv, hsm, hm⟩ | ⟨m, hv, hsm, hm⟩
  all_goals (
    refine gz ?_; refine jr (cs := ((KL s 0).map sV).toArray) O O O O fun r1 => gp ?_; refine jr (cs := ((KL s 0).map sV).toArray) O O O O fun r2 => gp ?_; refine Nz ?_; refine NQ ?_; refine cD (fun g => ?_) fun g => ?_
    refine Dz ?_; refine KB 2 m4 m4 (Jt O O O (Ji (xs := (KL s 0).map sV) (n := 3) O (kn 0 O) O O n7) (Gk ?_)); refine Je (k := 1) (n := 3) (ys := (KL s 0).map sV) O O O O O n7 O (jX _) O (JD 6 O ?_)
    (refine Jh O O (.cons (Jg O) (.cons (Jj (vs := (KL s 0).map sV) O (kn 1 O) O mH) (.cons (Jg O) (.cons (Jg O) .nil)))) (fun w1 hs1 => ?_)
     exact ⟨by rw [YJ m3]; rfl, hs1.keep⟩)
    · refine gx ?_; refine LR O (Kt (kl := none) (kh := some (.i64, 32)) (m := 0) (n := 32) O O O O O O m3 m3 (show _ = s.take 32 from by simp)) (JC rfl rfl rfl Jnv (Xp (s.take 32)) (J4 (congrArg Jkc (Jrm m3)) (MR ?_))); refine jr (cs := (zW.map uV).toArray) O O O O fun r3 => Je (k := 0) (n := 4) (ys := (wO s).map uV) O O O O O (by rw [D', hwl]) rfl (wi _) rfl (kB ?_); refine LR O (Ji (xs := (wO s).map uV) (n := 4) O (kn 0 O) O O (by rw [D', hwl])) (JC rfl rfl rfl (enters_of Tryz.func204 m4 rfl) (jE hwk) (J4 (hv) (MR ?_))); refine J5 11 O ?_
      refine Ns ?_
      refine MQ ?_
      refine NQ ?_; refine Jl O (fun g => ?_) (fun g => ?_)
      try simp only [ZZ] at g
      refine kL ?_
      first
        | (refine Jh O O (.cons (Jg O) (.cons (Jj (vs := (KL s 3).map sV) O (kn 2 O) O mH) (.cons (Jg O) (.cons (Jg O) .nil)))) (fun w1 hs1 => ?_)
           refine gS ?_
           rw [vQ ⟨hsm, by omega⟩ m3, ← hm]; first | (rw [if_pos m3]; rfl) | (rw [if_neg m3]; rfl))
        | (refine Jh O O (.cons (Jg O) (.cons (Jj (vs := (KL s 0).map sV) O (kn 2 O) O mH) (.cons (Jg O) (.cons (Jg O) .nil)))) (fun w1 hs1 => ?_)
           refine gS ?_
           first | (rw [ZD m3 nm]; rfl) | (rw [vO m3 ⟨hsm, by omega⟩ m3]; rfl) | (rw [vP m3 ⟨hsm, by omega⟩ m3]; rfl))
        | (refine Jh O O (.cons (Jg O) (.cons (Jj (vs := (KL s 0).map sV) O (kn 1 O) O mH) (.cons (Jg O) (.cons (Jg O) .nil)))) (fun w1 hs1 => ?_)
           exact ⟨by rw [YJ m3]; rfl, hs1.keep⟩)
      · try exact Bool.noConfusion g
        all_goals try simp only [ZZ] at g
        all_goals (
         refine DQ ?_; refine cD (fun g => ?_) fun g => ?_
         refine kL ?_
         first
           | (refine Jh O O (.cons (Jg O) (.cons (Jj (vs := (KL s 3).map sV) O (kn 2 O) O mH) (.cons (Jg O) (.cons (Jg O) .nil)))) (fun w1 hs1 => ?_)
              refine gS ?_
              rw [vQ ⟨hsm, by omega⟩ m3, ← hm]; first | (rw [if_pos m3]; rfl) | (rw [if_neg m3]; rfl))
           | (refine Jh O O (.cons (Jg O) (.cons (Jj (vs := (KL s 0).map sV) O (kn 2 O) O mH) (.cons (Jg O) (.cons (Jg O) .nil)))) (fun w1 hs1 => ?_)
              refine gS ?_
              first | (rw [ZD m3 nm]; rfl) | (rw [vO m3 ⟨hsm, by omega⟩ m3]; rfl) | (rw [vP m3 ⟨hsm, by omega⟩ m3]; rfl))
           | (refine Jh O O (.cons (Jg O) (.cons (Jj (vs := (KL s 0).map sV) O (kn 1 O) O mH) (.cons (Jg O) (.cons (Jg O) .nil)))) (fun w1 hs1 => ?_)
              exact ⟨by rw [YJ m3]; rfl, hs1.keep⟩)
         refine DQ ?_; refine cD (fun g => ?_) fun g => ?_
         refine kL ?_
         (refine Jh O O (.cons (Jg O) (.cons (Jj (vs := (KL s 0).map sV) O (kn 2 O) O mH) (.cons (Jg O) (.cons (Jg O) .nil)))) (fun w1 hs1 => ?_)
          refine gS ?_
          first | (rw [ZD m3 nm]; rfl) | (rw [vO m3 ⟨hsm, by omega⟩ m3]; rfl) | (rw [vP m3 ⟨hsm, by omega⟩ m3]; rfl))
         refine Ku 10 O (JQ (σ := Nat) (fun i => i ≤ 3) (fun i => [(0, .string (bs s)), (3, .pointer (some ⟨r1, 0, none⟩)), (6, .pointer (some ⟨r2, 0, none⟩)), (9, uV m), (52, .int .i64 (i : Int))]) (fun i => [(r3, .cells ((wO s).map uV).toArray 29 (0, 0)), (r2, .cells ((KL s i).map sV).toArray 40 (0, 0)), (r1, .cells ((KL s 0).map sV).toArray 40 (0, 0))]) (fun _ _ _ => True) (fun i => 3 - i) 0 (Z') (lK O) (T') (fun _ _ h => h) ?_); intro i hi; refine gv ?_; refine cD (fun g => ?_) fun g => ?_
         refine Jv 15 O (J4 (show _ = Value.int .i64 ((i + 1 : Nat) : Int) from congrArg (Value.int .i64) my) (GV ?_)); refine J4 (show _ = Value.int .i64 ((32 * (i + 1) : Nat) : Int) from congrArg (Value.int .i64) my) (gu ?_); refine J4 (show _ = Value.int .i64 ((i + 2 : Nat) : Int) from congrArg (Value.int .i64) my) (GV ?_); refine J4 (show _ = Value.int .i64 ((32 * (i + 2) : Nat) : Int) from congrArg (Value.int .i64) my) (LR rfl (Kt (kl := some (.i64, ((32 * (i + 1) : Nat) : Int))) (kh := some (.i64, ((32 * (i + 2) : Nat) : Int))) (m := 32 * (i + 1)) (n := 32 * (i + 2)) rfl rfl rfl rfl rfl rfl m3 m3 (show _ = Jwy s i from rfl)) (LR rfl (Ya (j := i) (m := 1) (off' := i) rfl rfl rfl rfl m3 m3 m3) (Xh (k := 1) (off := i) (xs := (KL s i).map sV) (ys := (KL s (i + 1)).map sV) rfl rfl rfl rfl rfl rfl (by rw [D', Ko]; omega) (Jrn rfl) rfl ?_))); exact Dy
         refine gv ?_
         have hi3 : 3 = i := by omega
         subst hi3; refine Ku 11 O (cD (fun g => ?_) fun g => ?_)
         refine NG ?_; refine LR O (Kt (kl := some (.i64, 128)) (kh := none) (m := 128) (n := s.length) O O O O O O m3 m3 (show _ = s.drop 128 from by rw [List.take_length])) (JC rfl rfl rfl (enters_of Tryz.func263 m4 rfl) (Jfv (s.drop 128)) (J4 (congrArg Jx6 (J1k m3)) (MR ?_))); refine G5 ?_
         refine Dx ?_
         first
           | (refine Jh O O (.cons (Jg O) (.cons (Jj (vs := (KL s 3).map sV) O (kn 2 O) O mH) (.cons (Jg O) (.cons (Jg O) .nil)))) (fun w1 hs1 => ?_)
              refine gS ?_
              rw [vQ ⟨hsm, by omega⟩ m3, ← hm]; first | (rw [if_pos m3]; rfl) | (rw [if_neg m3]; rfl))
           | (refine Jh O O (.cons (Jg O) (.cons (Jj (vs := (KL s 0).map sV) O (kn 2 O) O mH) (.cons (Jg O) (.cons (Jg O) .nil)))) (fun w1 hs1 => ?_)
              refine gS ?_
              first | (rw [ZD m3 nm]; rfl) | (rw [vO m3 ⟨hsm, by omega⟩ m3]; rfl) | (rw [vP m3 ⟨hsm, by omega⟩ m3]; rfl))
           | (refine Jh O O (.cons (Jg O) (.cons (Jj (vs := (KL s 0).map sV) O (kn 1 O) O mH) (.cons (Jg O) (.cons (Jg O) .nil)))) (fun w1 hs1 => ?_)
              exact ⟨by rw [YJ m3]; rfl, hs1.keep⟩)
         refine D5 ?_
         refine Dx ?_
         (refine Jh O O (.cons (Jg O) (.cons (Jj (vs := (KL s 3).map sV) O (kn 2 O) O mH) (.cons (Jg O) (.cons (Jg O) .nil)))) (fun w1 hs1 => ?_)
          refine gS ?_
          rw [vQ ⟨hsm, by omega⟩ m3, ← hm]; first | (rw [if_pos m3]; rfl) | (rw [if_neg m3]; rfl))
         skip)
    skip)
abbrev Er := Option (BS × Int)
variable {E : Er}
def jY : Er → Value
 | none => .nilIface
 | some (w, e) => .iface 415 (.agg #[Jk w, .iface 43 (.int .i64 e)])
def kE (E : Er) (w : BS) (e : Int) : Er := if E = none ∧ e ≠ 0 then some (w, e) else E
theorem Jvx (z : BS × Int) (w : BS) (e : Int) : kE (some z) w e = some z := if_neg (by rintro ⟨h, _⟩; cases h)
def Q2 (q n : Nat) (p : Pl) (E : Er) : Nat × Obj := (q, .cells #[Km n p, jY E] 340 (0, 0))
def QM (ys : List ItL) : ItL := ys.headD itL0
def yO (xs : List It) : It := xs.headD (Q4 [])
def KX (ys : List ItL) (p : Pl) : Pl := if ys = [] then p else JU 3 1 p
theorem Jzg (ys : List ItL) : (QM ys).er = yO (ys.map ItL.er) := by cases ys with
 | nil => exact Wu []
 | cons => rfl
theorem Jbk (h : ∀ y ∈ ys, y.In R) : (QM ys).In R := by cases ys with
 | nil => exact Q8 (Z')
 | cons y r => exact h y N'
theorem YK {p : Pl} (hs : Seg R ys.length (Kq ys) p) : Seg R ys.tail.length (Kq ys.tail) (KX ys p) := by cases ys with
 | nil => exact hs
 | cons y r => exact Jd hs
theorem Jro (p : Pl) (q : Nat) (E : Er) : PureT (α := Unit) prog 276 [Kj q].toArray (fun _ => itL0.val) [Q2 q 0 p E] (fun _ => [Q2 q 0 p E]) R := by
 refine Jq Tryz.func276 O O fun w => Kl ?_
 unfold Q2
 refine NG ?_; refine LN O fun r2 => Ec ?_; refine LR O (Jc (v := Km 0 p) O (kn 1 O) O O) (Fk ?_); refine Jl O (fun h4 => ?_) (fun h4 => ?_)
 try simp only [ZZ] at h4
 refine NG ?_; refine LR O (Jo (r := itL0.cells) O m4) (Je (k := 0) (n := 3) (ys := itL0.cells) O O O O O (ItL.len _) O (ItL.one _) O (gA ?_)); refine Jh O O (.cons (Jj (vs := itL0.cells) O (kn 0 O) O nQ) .nil) (fun w1 hs1 => ?_); exact ⟨(), rfl, hs1.weakL (.cons _ (T'))⟩
 ·exact absurd h4 (m7)
theorem Jrp {r : List ItL} {p : Pl} (hs : Seg R (y :: r).length (Kq (y :: r)) p) (hl : (y :: r).length ≤ 1000000) :
  PureT (α := Unit) prog 276 [Kj q].toArray (fun _ => y.val) [Q2 q (y :: r).length p E] (fun _ => [Q2 q r.length (JU 3 1 p) E]) R := by
 refine Jq Tryz.func276 O O fun w => Kl ?_
 unfold Q2
 refine NG ?_; refine LN O fun r2 => Ec ?_; refine LR O (Jc (v := Km (y :: r).length p) O (kn 1 O) O O) (Fk ?_); refine Jl O (fun h4 => ?_) (fun h4 => ?_)
 exact absurd h4 ((by intro h; have := of_decide_eq_true h; rw [List.length_cons] at this; omega))
 ·try simp only [ZZ] at h4
  refine Hq ?_
  refine MP ?_; refine LR O (Jc (v := Km (y :: r).length p) O (kn 1 O) O O) ?_
  refine gG fun r3 => ?_; refine Ec ?_; refine LR O (Jc (v := Km (y :: r).length p) O (kn 2 O) O O) (G6 ?_); refine Ho ?_; refine Jm (k := 2) (cs' := #[Km r.length (JU 3 1 p), jY E]) O O O O O O O O O O ?_; exact ND
theorem jZ {p : Pl} (hs : Seg R ys.length (Kq ys) p) (hl : ys.length ≤ 1000000) :
  PureT (α := Unit) prog 276 [Kj q].toArray (fun _ => (QM ys).val) [Q2 q ys.length p E] (fun _ => [Q2 q ys.tail.length (KX ys p) E]) R := by
 cases ys with
 | nil => exact Jro p q E
 | cons y r => exact Jrp hs hl
theorem ZE (q n : Nat) (p : Pl) (E : Er) (w0 : BS) (e : Int) : PureT (α := Unit) prog 277 [Kj q, Jk w0, .int .i64 e].toArray (fun _ => .tuple #[]) [Q2 q n p E] (fun _ => [Q2 q n p (kE E w0 e)]) R := by
  refine Jq Tryz.func277 O O fun w => Kl ?_
  unfold Q2
  cases E
  all_goals (
   refine DK ?_; refine gu ?_
   refine Ns ?_
   refine MQ ?_
   refine Dt ?_; refine Jl O (fun g => ?_) (fun g => ?_)
   · try exact Bool.noConfusion g
     all_goals try simp only [ZZ] at g
     all_goals (
      refine gx ?_; refine D6 ?_; refine gu ?_
      refine MP ?_; refine Jm (k := 0) (cs' := #[Km n p, jY (some (w0, e))]) O O O O O O O O O O (JD 1 O (Gy fun w1 hs1 => ?_)); rw [show kE none w0 e = some (w0, e) from if_pos ⟨rfl, by omega⟩]; exact ⟨(), rfl, hs1⟩
      skip)
   try simp only [ZZ] at g
   refine KF 1 O (Gy fun w1 hs1 => ?_)
   first | (rw [show kE none w0 e = none from if_neg (by rintro ⟨_, h⟩; exact h m3)]; exact ⟨(), rfl, hs1⟩) | (rw [Jvx]; exact ⟨(), rfl, hs1⟩)
   skip)
theorem Jgy {p : Pl} (hs : Seg R ys.length (Kq ys) p) (hl : ys.length ≤ 1000000) :
  PureT (α := Unit) prog 279 [Kj q].toArray (fun _ => uV (Jf (QM ys).er).1) [Q2 q ys.length p E] (fun _ => [Q2 q ys.tail.length (KX ys p) (kE E [110, 117, 109, 98, 101, 114] (Jf (QM ys).er).2)]) R := by
 refine Jq Tryz.func279 O O fun w => G7 ?_; refine Jx (T := [_]) (L0 := []) (O') O O O Jc9 (jZ (R := R) hs hl) oR fun _ => Hx ?_; refine Ju O O O XQ (Kz (R := []) (QM ys)) oN (DN ?_); refine Jx (T := [_]) (L0 := []) (O') O O O zK (ZE (R := R) q ys.tail.length (KX ys p) E [110, 117, 109, 98, 101, 114] (Jf (QM ys).er).2) oR fun _ => ?_; change HL _ _ _ [Q2 q ys.tail.length (KX ys p) (kE E [110, 117, 109, 98, 101, 114] (Jf (QM ys).er).2)] _ _ _ _; exact Gf
theorem Jzh {p : Pl} (hs : Seg R ys.length (Kq ys) p) (hl : ys.length ≤ 1000000) :
  PureT (α := Unit) prog 278 [Kj q].toArray (fun _ => .bool (Vc (QM ys).er).1) [Q2 q ys.length p E] (fun _ => [Q2 q ys.tail.length (KX ys p) (kE E [121, 101, 115] (Vc (QM ys).er).2)]) R := by
 refine Jq Tryz.func278 O O fun w => G7 ?_; refine Jx (T := [_]) (L0 := []) (O') O O O Jc9 (jZ (R := R) hs hl) oR fun _ => Hx ?_; refine Ju O O O (enters_of Tryz.func125 m4 O) (xa (R := []) (QM ys)) oN (DN ?_); refine Jx (T := [_]) (L0 := []) (O') O O O zK (ZE (R := R) q ys.tail.length (KX ys p) E [121, 101, 115] (Vc (QM ys).er).2) oR fun _ => ?_; change HL _ _ _ [Q2 q ys.tail.length (KX ys p) (kE E [121, 101, 115] (Vc (QM ys).er).2)] _ _ _ _; exact Gf
theorem Jvy {p : Pl} (hs : Seg R ys.length (Kq ys) p) (hl : ys.length ≤ 1000000) :
  PureT (α := Unit) prog 322 [Kj q].toArray (fun _ => Jk (Js (QM ys).er 0 4096).1) [Q2 q ys.length p E] (fun _ => [Q2 q ys.tail.length (KX ys p) (kE E [100, 97, 116, 97] (Js (QM ys).er 0 4096).2)]) R := by
 refine Jq Tryz.func322 O O fun w => G7 ?_; refine Jx (T := [_]) (L0 := []) (O') O O O Jc9 (jZ (R := R) hs hl) oR fun _ => Hx ?_; refine Ju O O O Jft (WB (R := []) (QM ys) 0 4096) oN (DN ?_); refine Jx (T := [_]) (L0 := []) (O') O O O zK (ZE (R := R) q ys.tail.length (KX ys p) E [100, 97, 116, 97] (Js (QM ys).er 0 4096).2) oR fun _ => ?_; change HL _ _ _ [Q2 q ys.tail.length (KX ys p) (kE E [100, 97, 116, 97] (Js (QM ys).er 0 4096).2)] _ _ _ _; exact Gf
def exE (t : It) (n : Nat) : Int := if t.l = true ∨ t.b.length ≠ n then 2 else 0
theorem J2w (E : Er) (w : BS) : kE E w 0 = E := if_neg (by rintro ⟨_, h⟩; exact h rfl)
theorem Jrq (l : Bool) (b : BS) (p : Pl) (xs : List ItL) : (ItL.mk l b p xs).er.l = l ∧ (ItL.mk l b p xs).er.b = b := ⟨ItL.er_l _, ItL.er_b _⟩
def W3 (t : ItL) (lo hi : Int) : List ItL := if Ka t.er lo hi = 0 then t.xs else []
def qb (t : ItL) (lo hi : Int) : Pl := if Ka t.er lo hi = 0 then t.p else none
theorem Jv0 (t : ItL) (lo hi : Int) : (W3 t lo hi).map ItL.er = if Ka t.er lo hi = 0 then t.er.xs else [] := by
 unfold W3
 split
 ·exact (ItL.er_xs t).symm
 ·rfl
theorem qc {t : ItL} (h : t.In R) (lo hi : Int) : (∀ y ∈ W3 t lo hi, y.In R) ∧ Seg R (W3 t lo hi).length (Kq (W3 t lo hi)) (qb t lo hi) ∧ (W3 t lo hi).length ≤ 1000000 := by
 unfold W3 qb
 split
 ·exact ⟨h.sub, h.seg, h.hl⟩
 ·exact ⟨fun _ h => (nomatch h), rfl, Z'⟩
theorem Jgz {t : ItL} (ht : t.In R) (lo hi : Int) : PureR prog 42 [t.val, .int .i64 lo, .int .i64 hi].toArray (.tuple #[Km (W3 t lo hi).length (qb t lo hi), .int .i64 (Ka t.er lo hi)]) R := by
 have h := Wi ht lo hi
 unfold W3 qb
 split
 ·rename_i h0; rw [if_pos h0] at h; exact h
 ·rename_i h0; rw [if_neg h0] at h; exact h
theorem Jep {p : Pl} (hs : Seg R ys.length (Kq ys) p) (hl : ys.length ≤ 1000000) (n : Nat) :
    PureT (α := Unit) prog 321 [Kj q, .int .i64 (n : Int)].toArray (fun _ => Jk (QM ys).er.b) [Q2 q ys.length p E] (fun _ => [Q2 q ys.tail.length (KX ys p) (kE E [98, 121, 116, 101, 115] (exE (QM ys).er n))]) R := by
  have hT := jZ (R := R) (q := q) (E := E) hs hl
  refine Jq Tryz.func321 O O fun w => Kl ?_
  obtain ⟨y, hy⟩ : ∃ y, QM ys = y := ⟨_, rfl⟩
  rw [hy] at hT ⊢
  obtain ⟨l, b, pp, xs⟩ := y
  rw [(Jrq l b pp xs).2]
  unfold exE
  rw [(Jrq l b pp xs).1, (Jrq l b pp xs).2]; refine Jv 8 O (Jx (T := [_]) (L0 := []) (O') O O O Jc9 hT oR fun _ => Hx ?_); refine LN O fun r5 => Je (k := 0) (n := 3) (ys := [.bool l, Jk b, Km xs.length pp]) O O O O O O O O O (kB ?_)
  refine N5 ?_; refine gl ?_
  refine J8 10 O (fun gb => ?_) (fun gb => ?_) <;> (try simp only [ZZ] at gb) <;> first | (refine LR O (Ja O O m0) ?_) | (refine LK O ?_)
  all_goals refine Nh ?_
  all_goals refine ko ?_
  all_goals refine Ns ?_
  all_goals refine MQ ?_
  all_goals (
   refine kN ?_; refine Jl O (fun g => ?_) (fun g => ?_)
   · try simp only [ZZ] at g
     refine NG ?_; refine Jx (T := [Q2 q ys.tail.length (KX ys p) E]) (L0 := [_]) (Rl := []) (B' (l₁ := [_])) O O O zK (ZE (R := []) q ys.tail.length (KX ys p) E [98, 121, 116, 101, 115] 2) oN fun _ => JY (P') ?_; change HL _ _ _ [(r5, _), Q2 q ys.tail.length (KX ys p) (kE E [98, 121, 116, 101, 115] 2)] _ _ _ _; refine kV ?_
     refine N5 ?_; refine gA ?_; refine N3 fun w1 hs1 => ?_
     rw [if_pos (by first | exact .inl ma | exact .inl rfl | exact .inr m3)]; exact ⟨(), rfl, hs1.weakL (.cons _ (T'))⟩
   · try exact Bool.noConfusion g
     all_goals try simp only [ZZ] at g
     all_goals (
      refine DK ?_; refine gA ?_; refine N3 fun w1 hs1 => ?_
      rw [if_neg Mw, J2w]; exact ⟨(), rfl, hs1.weakL (.cons _ (T'))⟩
      skip)
   skip)
theorem qC {p : Pl} (hs : Seg R ys.length (Kq ys) p) (hl : ys.length ≤ 1000000) (hin : ∀ y ∈ ys, y.In R) (lo hi : Int) :
  PureT (α := Nat) prog 253 [Kj q, .int .i64 lo, .int .i64 hi].toArray (fun r => Kj r) [Q2 q ys.length p E] (fun r => [Q2 r (W3 (QM ys) lo hi).length (qb (QM ys) lo hi) (kE E [108, 105, 115, 116] (Ka (QM ys).er lo hi)), Q2 q ys.tail.length (KX ys p) (kE E [108, 105, 115, 116] (Ka (QM ys).er lo hi))]) R := by
 have hG := Jgz (Jbk hin) lo hi
 have hK := ZE (R := R) q ys.tail.length (KX ys p) E [108, 105, 115, 116] (Ka (QM ys).er lo hi)
 revert hK
 generalize kE E [108, 105, 115, 116] (Ka (QM ys).er lo hi) = E1
 intro hK; refine Jq Tryz.func253 O O fun w => Kl ?_
 cases E1
 all_goals (
  refine Jv 8 O (Jx (T := [_]) (L0 := []) (O') O O O Jc9 (jZ (R := R) hs hl) oR fun _ => Hx ?_); refine gu ?_; refine Ju O O O vh hG oR (DN ?_); refine Jx (T := [_]) (L0 := []) (O') O O O zK hK oR fun _ => g8 ?_
  refine N5 ?_; refine D6 ?_; refine LN O fun r1 => gA ?_; refine N3 fun w1 hs1 => ?_; exact ⟨r1, rfl, hs1⟩
  skip)
structure LgE where
  addr : BS
  ts : List BS
  data : BS
structure LgL where
  addr : BS
  p : Pl
  ts : List BS
  data : BS
def LgL.cells (a : LgL) : List Value := [Jk a.addr, Km a.ts.length a.p, Jk a.data]
def LgL.val (a : LgL) : Value := .agg a.cells.toArray
def LgL.er (a : LgL) : LgE := ⟨a.addr, a.ts, a.data⟩
theorem LgL.len (a : LgL) : a.cells.length = 3 := rfl
theorem LgL.one (a : LgL) : a.cells.all VU = true := rfl
structure LgL.In (R : J3) (a : LgL) : Prop where
  len : a.ts.length ≤ 1000000
  seg : Seg R a.ts.length (Qu a.ts) a.p
theorem LgL.In.mono (hs : ∀ q ∈ R, q ∈ R') {a : LgL} (h : a.In R) : a.In R' := ⟨h.len, h.seg.mono hs⟩
def vk (t : It) (lo hi : Int) : List It := if Ka t lo hi = 0 then t.xs else []
def xm : List It → Er → Er
 | [], E => E
 | t :: r, E => xm r (kE E [98, 121, 116, 101, 115] (exE t 32))
def vl (y : It) (E : Er) : LgE × Er :=
 (⟨(yO (vk y 3 3)).b, (vk (yO (vk y 3 3).tail) 0 4).map It.b, (Js (yO (vk y 3 3).tail.tail) 0 4096).1⟩,
  kE (xm (vk (yO (vk y 3 3).tail) 0 4) (kE (kE (kE E [108, 105, 115, 116] (Ka y 3 3)) [98, 121, 116, 101, 115] (exE (yO (vk y 3 3)) 20)) [108, 105, 115, 116] (Ka (yO (vk y 3 3).tail) 0 4))) [100, 97, 116, 97] (Js (yO (vk y 3 3).tail.tail) 0 4096).2)
theorem vR (t : ItL) (lo hi : Int) : vk t.er lo hi = (W3 t lo hi).map ItL.er := (Jv0 t lo hi).symm
theorem qD (ys : List ItL) : yO (ys.map ItL.er) = (QM ys).er := (Jzg ys).symm
theorem Jjw (ys : List ItL) : (ys.map ItL.er).tail = ys.tail.map ItL.er := by cases ys <;> rfl
def bER (x : ItL) : BS := x.er.b
theorem Jv1 (ys : List ItL) : (ys.map ItL.er).map It.b = ys.map bER := by rw [List.map_map]; rfl
theorem xn (h : ∀ y ∈ ys, y.In R) : ∀ y ∈ ys.tail, y.In R := fun y hy => h y (List.mem_of_mem_tail hy)
theorem YM (h : ys.length ≤ 1000000) : ys.tail.length ≤ 1000000 := by rw [List.length_tail]; omega
structure LgN (g : LgE) where
  x : LgL
  L : J3
  inn : x.In L
  er : x.er = g
structure RtI (R : J3) (T : List ItL) (E3 : Er) (zs : List ItL) (pz : Pl) (Ez : Er) (ts : List BS) (row : QZ) : Prop where
  seg : Seg R zs.length (Kq zs) pz
  len : zs.length ≤ 1000000
  eq : xm (T.map ItL.er) E3 = xm (zs.map ItL.er) Ez
  bs : T.map bER = ts ++ zs.map bER
  ok : rowOk 1 ts.length (ts.map Jk) row
theorem Jzi {p : Pl} (hs : Seg R ys.length (Kq ys) p) (hl : ys.length ≤ 1000000) (hin : ∀ y ∈ ys, y.In R) :
  PureT (α := LgN (vl (QM ys).er E).1) prog 280 [Kj q].toArray (fun z => z.x.val) [Q2 q ys.length p E] (fun z => Q2 q ys.tail.length (KX ys p) (vl (QM ys).er E).2 :: z.L) R := by
 have hM1 := qC (q := q) (E := E) hs hl hin 3 3
 obtain ⟨hSi, hSs, hSl⟩ := qc (Jbk hin) 3 3
 have hrl : vl (QM ys).er E = (⟨(QM (W3 (QM ys) 3 3)).er.b, (W3 (QM (W3 (QM ys) 3 3).tail) 0 4).map bER, (Js (QM (W3 (QM ys) 3 3).tail.tail).er 0 4096).1⟩,
   kE (xm ((W3 (QM (W3 (QM ys) 3 3).tail) 0 4).map ItL.er) (kE (kE (kE E [108, 105, 115, 116] (Ka (QM ys).er 3 3)) [98, 121, 116, 101, 115] (exE (QM (W3 (QM ys) 3 3)).er 20)) [108, 105, 115, 116] (Ka (QM (W3 (QM ys) 3 3).tail).er 0 4))) [100, 97, 116, 97] (Js (QM (W3 (QM ys) 3 3).tail.tail).er 0 4096).2) := by
  simp only [vl, vR, qD, Jjw, Jv1]
 obtain ⟨E1, hE1⟩ : ∃ E1, kE E [108, 105, 115, 116] (Ka (QM ys).er 3 3) = E1 := ⟨_, rfl⟩
 rw [hE1] at hM1 hrl
 obtain ⟨S, hS⟩ : ∃ S, W3 (QM ys) 3 3 = S := ⟨_, rfl⟩
 obtain ⟨sP, hsP⟩ : ∃ sP, qb (QM ys) 3 3 = sP := ⟨_, rfl⟩
 rw [hS, hsP] at hM1 hSs; rw [hS] at hSi hSl hrl
 obtain ⟨E2, hE2⟩ : ∃ E2, kE E1 [98, 121, 116, 101, 115] (exE (QM S).er 20) = E2 := ⟨_, rfl⟩
 have hM2 := fun q3 => Jep (q := q3) (E := E1) hSs hSl 20
 rw [hE2] at hrl hM2
 have hM3 := fun q3 => qC (q := q3) (E := E2) (YK hSs) (YM hSl) (xn hSi) 0 4
 obtain ⟨hTi, hTs, hTl⟩ := qc (Jbk (xn hSi)) 0 4
 obtain ⟨E3, hE3⟩ : ∃ E3, kE E2 [108, 105, 115, 116] (Ka (QM S.tail).er 0 4) = E3 := ⟨_, rfl⟩
 obtain ⟨T, hT⟩ : ∃ T, W3 (QM S.tail) 0 4 = T := ⟨_, rfl⟩
 obtain ⟨tP, htP⟩ : ∃ tP, qb (QM S.tail) 0 4 = tP := ⟨_, rfl⟩
 rw [hE3, hT, htP] at hM3; rw [hT, hE3] at hrl; rw [hT, htP] at hTs; rw [hT] at hTi hTl
 obtain ⟨E4, hE4⟩ : ∃ E4, xm (T.map ItL.er) E3 = E4 := ⟨_, rfl⟩
 have hM4 := fun q3 => Jvy (q := q3) (E := E4) (YK (YK hSs)) (YM (YM hSl))
 obtain ⟨⟨db, de⟩, hD⟩ : ∃ g, Js (QM S.tail.tail).er 0 4096 = g := ⟨_, rfl⟩
 obtain ⟨E5, hE5⟩ : ∃ E5, kE E4 [100, 97, 116, 97] de = E5 := ⟨_, rfl⟩
 rw [hD] at hM4 hrl; rw [hE4] at hrl; simp only at hM4 hrl; rw [hE5] at hM4 hrl; rw [hrl]; refine Jq Tryz.func280 O O fun w => DI fun r2 => ?_; refine kB ?_; refine Jx (T := [_]) (L0 := [_]) (P') O O O zJ hM1 oR fun q3 => ?_; change HL _ _ _ (Q2 q3 S.length sP E1 :: Q2 q ys.tail.length (KX ys p) E1 :: [(r2, _)]) _ _ _ _; refine gp ?_; refine Jx (T := [_]) (L0 := _) (O') O O O (enters_of Tryz.func321 m4 O) (hM2 q3) oR fun _ => ?_; change HL _ _ _ (Q2 q3 S.tail.length (KX S sP) E2 :: Q2 q ys.tail.length (KX ys p) E1 :: [(r2, _)]) _ _ _ _; refine LR O (Jo (r := [Jk (QM S).er.b, .slice none 0 0, Jk []]) O m4) (LN O fun r4 => Je (k := 0) (n := 3) (ys := [Jk (QM S).er.b, .slice none 0 0, Jk []]) O O O O O O O O O (kB ?_)); refine Jx (T := [_]) (L0 := [_, _, _]) (P') O O O zJ (hM3 q3) oR fun q5 => ?_; change HL _ _ _ (Q2 q5 T.length tP E3 :: Q2 q3 S.tail.tail.length (KX S.tail (KX S sP)) E3 :: (r4, _) :: Q2 q ys.tail.length (KX ys p) E1 :: [(r2, _)]) _ _ _ _; refine JP 5 O (Zc [0, 2, 1, 3, 4] m7 O (JQ (σ := List ItL × Pl × Er × List BS × QZ) (fun g => RtI R T E3 g.1 g.2.1 g.2.2.1 g.2.2.2.1 g.2.2.2.2) (fun _ => [(2, Kj r2), (3, Kj q3), (4, Kj r4), (5, Kj q5), (0, Kj q)]) (fun g => Q2 q5 g.1.length g.2.1 g.2.2.1 :: (r4, .cells #[Jk (QM S).er.b, JV g.2.2.2.1.length g.2.2.2.2, Jk []] 179 (0, 0)) :: (J9 9 (g.2.2.2.1.map Jk) g.2.2.2.2 ++ [Q2 q3 S.tail.tail.length (KX S.tail (KX S sP)) E3, Q2 q ys.tail.length (KX ys p) E1, (r2, .cells #[Jk [], .slice none 0 0, Jk []] 179 (0, 0))])) (fun _ _ _ => True) (fun g => g.1.length) (T, tP, E3, [], none) ⟨hTs, hTl, rfl, rfl, ⟨rfl, rfl⟩⟩ (lK O) (T') (fun _ _ h => h) ?_)); rintro ⟨zs, pz, Ez, ts, row⟩ hI; simp only at hI; change HC _ _ [(2, Kj r2), (3, Kj q3), (4, Kj r4), (5, Kj q5), (0, Kj q)] (Q2 q5 zs.length pz Ez :: (r4, .cells #[Jk (QM S).er.b, JV ts.length row, Jk []] 179 (0, 0)) :: (J9 9 (ts.map Jk) row ++ [Q2 q3 S.tail.tail.length (KX S.tail (KX S sP)) E3, Q2 q ys.tail.length (KX ys p) E1, (r2, .cells #[Jk [], .slice none 0 0, Jk []] 179 (0, 0))])) _ _ _; refine EY ?_; refine cD (fun h8 => ?_) fun h8 => ?_
 refine D5 ?_
 obtain ⟨z, zr, rfl⟩ : ∃ z zr, zs = z :: zr := by
  cases zs with
  | nil => exfalso; simp at *
  | cons z zr => exact ⟨z, zr, rfl⟩
 have htl := congrArg List.length hI.bs
 simp only [C', D', List.length_cons] at htl; refine Kk [(r4, .cells #[Jk (QM S).er.b, JV ts.length row, Jk []] 179 (0, 0))] [(0, .pure), (1, .pure), (2, .pure), (3, .turn), (4, .grow (Wg (slV 1) (.cells #[Jk z.er.b] 9 (0, 0))))] 5 [0, 1, 2, 3, 4] m4 m4 (fun p hp => by rw [U'.1 hp]; exact M' N') ?_
 refine gM ?_; refine Jr (k := 1) O O O O O (fun _ hS => Jc (v := JV ts.length row) O (.inl (hS _ (J0 (n := 0) O))) O O) (ku ?_); refine KH (k := 3) (T0 := [Q2 q5 (z :: zr).length pz Ez]) (L0 := (r4, .cells #[Jk (QM S).er.b, JV ts.length row, Jk []] 179 (0, 0)) :: (J9 9 (ts.map Jk) row ++ [Q2 q3 S.tail.tail.length (KX S.tail (KX S sP)) E3, Q2 q ys.tail.length (KX ys p) E1, (r2, .cells #[Jk [], .slice none 0 0, Jk []] 179 (0, 0))])) (E' := fun _ => Q2 q5 zr.length (KX (z :: zr) pz) (kE Ez [98, 121, 116, 101, 115] (exE z.er 32)) :: (r4, .cells #[Jk (QM S).er.b, JV ts.length row, Jk []] 179 (0, 0)) :: (J9 9 (ts.map Jk) row ++ [Q2 q3 S.tail.tail.length (KX S.tail (KX S sP)) E3, Q2 q ys.tail.length (KX ys p) E1, (r2, .cells #[Jk [], .slice none 0 0, Jk []] 179 (0, 0))])) (Rl := R) (O') (fun _ => O') O O O O O (enters_of Tryz.func321 m4 O) (Jep hI.seg hI.len 32) oR (fun _ p hp => by rw [U'.1 hp]; exact M' N') fun _ => VV (k := 4) (n := 1) (sz := 1) (vs := [_]) (zs := [_]) (r := [Jk z.er.b]) O O O O O O O O O O O me O fun rb => KJ (Kw (L0 := (rb, _) :: Q2 q5 zr.length (KX (z :: zr) pz) (kE Ez [98, 121, 116, 101, 115] (exE z.er 32)) :: (r4, .cells #[Jk (QM S).er.b, JV ts.length row, Jk []] 179 (0, 0)) :: [Q2 q3 S.tail.tail.length (KX S.tail (KX S sP)) E3, Q2 q ys.tail.length (KX ys p) E1, (r2, .cells #[Jk [], .slice none 0 0, Jk []] 179 (0, 0))]) (xs := ts.map Jk) (row := row) (n := ts.length) (sz := 1) (b := 16) (news := [Jk z.er.b]) (Ye [_, _, _] _ _) O O O O (kn 0 O) O O O O O m7 O O O m7 hI.ok m3 m3 fun ra cap sp hra => ?_)
 refine MP ?_; refine Jm (k := 3) (cs' := #[Jk (QM S).er.b, JV (ts.length + 1) (some (ra, cap, sp)), Jk []]) O O O O O O O O O O (Nd ?_); refine Wy (A := [_, _, _, _]) (A' := [_, _, _]) [2, 3, 0] m7 O ?_
 have ea : ts.map Jk ++ [Jk z.er.b] = (ts ++ [z.er.b]).map Jk := by rw [List.map_append]; rfl
 rw [ea] at hra ⊢
 have en : ts.length + 1 = (ts ++ [z.er.b]).length := by rw [C']; rfl
 rw [en] at hra ⊢; exact JL (zr, KX (z :: zr) pz, kE Ez [98, 121, 116, 101, 115] (exE z.er 32), ts ++ [z.er.b], some (ra, cap, sp)) ⟨YK hI.seg, YM hI.len, hI.eq, by rw [hI.bs, Ld']; rfl, hra⟩ (by simp only [List.length_cons]; omega) (lK rfl) (T') (fun _ _ h => h)
 ·refine gv ?_
  obtain rfl : zs = [] := by
   cases zs with
   | nil => rfl
   | cons z zr => exfalso; simp only [List.length_cons] at *; omega
  obtain rfl : E4 = Ez := by rw [← hE4, hI.eq]; rfl
  have hrow := hI.ok
  rw [KK hrow]; refine jD (((B').cons _).cons _) (Jbb (A := [_, _, _, _, _]) (A' := [_, _, _, _, _]) [2, 1, 3, 4, 0] m7 O ?_); change HC _ _ _ (Q2 q3 S.tail.tail.length (KX S.tail (KX S sP)) E3 :: (r4, .cells #[Jk (QM S).er.b, Km ts.length (Ke row), Jk []] 179 (0, 0)) :: Q2 q ys.tail.length (KX ys p) E1 :: (r2, _) :: Q2 q5 ([] : List ItL).length pz E4 :: J9 9 (ts.map Jk) row) _ _ _; refine Di ?_; refine LR O (Jc (v := jY E4) O (kn 4 O) O O) (Ho ?_)
  refine Jm (k := 0) (cs' := #[Km S.tail.tail.length (KX S.tail (KX S sP)), jY E4]) O O O O O (by cases E4 <;> rfl) rfl rfl rfl rfl ?_; refine kB ?_; refine Jx (T := [_]) (L0 := _) (O') O O O (enters_of Tryz.func322 m4 O) (hM4 q3) oR fun _ => ?_; change HL _ _ _ (Q2 q3 S.tail.tail.tail.length (KX S.tail.tail (KX S.tail (KX S sP))) E5 :: (r4, _) :: Q2 q ys.tail.length (KX ys p) E1 :: (r2, _) :: Q2 q5 ([] : List ItL).length pz E4 :: J9 9 (ts.map Jk) row) _ _ _ _
  refine MP ?_; refine Jm (k := 1) (cs' := #[Jk (QM S).er.b, Km ts.length (Ke row), Jk db]) O O O O O O O O O O (Ec ?_); refine LR O (Jc (v := jY E5) O (kn 0 O) O O) (Ho ?_)
  refine Jm (k := 2) (cs' := #[Km ys.tail.length (KX ys p), jY E5]) O O O O O (by cases E5 <;> rfl) rfl rfl rfl rfl ?_; refine kV ?_; refine LR O (Ji (xs := [Jk (QM S).er.b, Km ts.length (Ke row), Jk db]) (n := 3) O (kn 1 O) O O O) ?_; refine Je (k := 3) (n := 3) (ys := [Jk (QM S).er.b, Km ts.length (Ke row), Jk db]) O O O O O O O O O ?_; refine GN ?_; refine Jh O O (.cons (Jj (vs := [Jk (QM S).er.b, Km ts.length (Ke row), Jk db]) O (kn 3 O) O O) .nil) (fun w1 hs1 => ?_)
  have hts : T.map bER = ts := by rw [hI.bs]; exact List.append_nil _
  exact ⟨⟨⟨(QM S).er.b, Ke row, ts, db⟩, J9 9 (ts.map Jk) row, ⟨by show ts.length ≤ _; rw [← hts, D']; exact hTl, Ks (e := 9) hrow m7⟩, by rw [hts]; rfl⟩, rfl, hs1.weakL (.cons _ (.cons _ (.cons_cons _ (.cons _ (.cons _ (T'))))))⟩
end Go.Proofs.YtckoepmdmhdepaaGreatDoor
