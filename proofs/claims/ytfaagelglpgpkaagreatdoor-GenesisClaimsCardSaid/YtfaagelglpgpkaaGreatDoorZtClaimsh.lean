import Derived.Test.YtfaagelglpgpkaaGreatDoorZtClaimsg
set_option maxRecDepth 100000
namespace Go.Proofs.YtfaagelglpgpkaaGreatDoor
set_option linter.all false
open Go.SL Go.RowKit Go.Shelf
variable {root rt : BS} {g : FuncId} {f : Int} {L0 R : Jx} {xs : List AcL} {a ts : List Nat} {sp vs : List Value} {α : Type} {ys : List α} {b c cap d e e1 e2 i j m rv sz : Nat} {fr : Nat × Nat} {x y : Operand} {P : Program} {row : QC} {r rc : Rec} {s : StL} {ps : String} {t x0 : Ty} {z : Value} {q v : Vl} {w : World} {X : XP}
theorem Jz9 (X : SortR xs) {x y : AcL} (hx : X.1[i]? = some x) (hy : X.1[i + 1]? = some y) (h : y.addr = x.addr) : V6 (xs.map AcL.er) = 13 := by
 rw [← vd X]
 have h1 := Yt hx
 have h2 := Yt hy
 rw [h] at h2
 unfold xY; rw [if_pos (Jef h1 h2)]
theorem Jpy (X : SortR xs) (h : ∀ i a, i + 1 < X.1.length → (Y1 X.1)[i]? = some a → (Y1 X.1)[i + 1]? = some a → False) : V6 (xs.map AcL.er) = KP (X.1.map AcL.er) ∧ X.1.map AcL.er = V5 (xs.map AcL.er) := by
 have hn : Y0 (Y1 X.1) = false := Jeg fun i a h1 h2 => h i a (by have := (List.getElem?_eq_some_iff.1 h2).1; rwa [List.length_map] at this) h1 h2
 have e : xY X.1 = KP (X.1.map AcL.er) := by unfold xY; rw [hn]; rfl
 rw [← vd X, e]; refine ⟨rfl, X.uniq ?_⟩
 have hp : ((X.1.map AcL.er).map AcE.addr).Perm ((xs.map AcL.er).map AcE.addr) := (X.2.1.map _).map _
 have ha : Y1 X.1 = (X.1.map AcL.er).map AcE.addr := by simp [Y1, AcL.er]
 have h2 := wb X.pair
 rw [← ha, hn] at h2; rw [← hp.nodup_iff, ← ha]; exact Decidable.not_not.1 fun h3 => by simpa using h2.2 h3
def BldR.cs {R : Jx} {e : List AcE × Int × Int} (x : BldR R e) : List Value := [KA x.s.accts.length x.s.p, .int .i64 x.f, .int .i64 x.err]
def BldR.bv {R : Jx} {e : List AcE × Int × Int} (x : BldR R e) : Value := .agg x.cs.toArray
theorem Jh0 {g : GenL} (hg : g.In R) (hf : g.accts.length ≤ 1000) : PureT (α := BldR R (VM g.ts g.time g.rc g.ac)) Tryz.prog 12 [g.val].toArray (fun x => x.bv) [] (fun x => x.L) R := by
 refine J4 Tryz.func12 O O fun w => gD fun r1 => ?_; refine LN O fun r2 => XG 8 [1, 1] O O (Ji O O O (enters_of Tryz.func31 m6 O) (Jps hg.tlen hg.tseg g.time) oR (JN 14 O (cD (fun h5 => ?_) fun h5 => ?_)))
 refine Gy ?_; refine k8 ?_
 refine NQ ?_; refine gM ?_; refine GI fun w1 hs1 => ?_
 (have hne : (QB g.ts g.time).2 ≠ 0 := by omega
  exact ⟨⟨st0L, 0, (QB g.ts g.time).2, [], vD, (J23 hne).symm⟩, rfl, hs1.weakL (List.nil_sublist _)⟩)
 ·refine GU ?_
  have hact : (QB g.ts g.time).2 = 0 := by omega
  refine Qy 3 [1] O O (Kn O O O (enters_of Tryz.func32 m6 O) (Jpx hf hg.st.seg) oR fun y => ?_)
  obtain ⟨row, hrow⟩ := y
  refine GL ?_; change HL _ _ ((25, J9 (vf [] g.accts).length row) :: _) ((r2, _) :: (r1, _) :: JE 48 (KV (vf [] g.accts)) row) _ _ _ _
  obtain ⟨X, hX1, hX2⟩ : ∃ X : Step2R g, X.ys.1 = vf [] g.accts ∧ X.row = row := ⟨⟨J54 g.accts, row, hrow⟩, rfl, rfl⟩
  subst hX2; rw [← hX1] at hrow ⊢
  have hXl : X.ys.1.length = g.accts.length := X.ys.2.1.length_eq
  have hso := JQ (e := 48) hrow m7
  have hXin := xF hg X
  refine Q1 O (Jq (QG _ _ hrow.zero).symm (JN 9 O ?_)); refine Jw (σ := Nat) (fun j => 1 ≤ j ∧ ∀ i a, i + 1 < j → (Y1 X.ys.1)[i]? = some a → (Y1 X.ys.1)[i + 1]? = some a → False) (fun j => [(1, Q4 r1 0), (2, Q4 r2 0), (3, .int .i64 (QB g.ts g.time).1), (5, KA X.ys.1.length (KY X.row)), (6, .int .i64 (j : Int))]) (fun _ => (r2, .cells #[KA 0 none, .int .i64 0, .int .i64 0] 41 (0, 0)) :: (r1, .cells g.cells.toArray 32 (0, 0)) :: X.L) (fun _ _ _ => True) (fun j => X.ys.1.length - j) 1 ⟨Nat.le_refl _, fun i a hi => absurd hi m5⟩ (lK O) (List.Sublist.refl _) (fun _ _ h => h) ?_; rintro j ⟨hj0, hinv⟩; refine gn ?_; refine LR O (Jy O hso O) (ki ?_); refine cD (fun h12 => ?_) fun h12 => ?_
  refine gk ?_
  obtain ⟨i, hi⟩ : ∃ i, j = i + 1 := ⟨j - 1, by omega⟩
  subst hi
  obtain ⟨x, hx, hmx⟩ := QD (show i < X.ys.1.length by omega)
  obtain ⟨y, hy, hmy⟩ := QD (show i + 1 < X.ys.1.length by omega)
  refine JK 12 m6 m6 (k5 ?_)
  refine Ja O O O (Jk (j := i + 1) O hso O O O me m5) (Ja O O O (JV (off' := Xe (KY X.row) + ((i + 1) * 8 + 0)) O O (by show Xe (KY X.row) + (i + 1) * 8 + 0 = _; omega)) (Ja rfl rfl rfl (Qc AcL.len (k := 0) (v := J5 y.addr) (fun q hq => Or.inl (List.mem_cons_of_mem _ (List.mem_cons_of_mem _ hq))) rfl hso hy rfl rfl) (k5 ?_))); refine Nn ?_; refine QT m5 m5 (Ks M3 ?_)
  refine Ja O O O (Jk (j := i) O hso O O O me m5) (Ja O O O (JV (off' := Xe (KY X.row) + (i * 8 + 0)) O O (by show Xe (KY X.row) + i * 8 + 0 = _; omega)) (Ja rfl rfl rfl (Qc AcL.len (k := 0) (v := J5 x.addr) (fun q hq => Or.inl (List.mem_cons_of_mem _ (List.mem_cons_of_mem _ hq))) rfl hso hx rfl rfl) (Ja rfl rfl rfl (W7 (a := y.addr) (b := x.addr) rfl rfl) (F4 ?_)))); refine cD (fun h15 => ?_) fun h15 => ?_
  refine kE ?_; refine k8 ?_
  refine NQ ?_; refine J1 8 O (GI fun w1 hs1 => ?_)
  (have hd : V6 g.ac = 13 := Jz9 X.ys hx hy m9
   exact ⟨⟨st0L, 0, 13, [], vD, by rw [Jj5 hact m5, hd]; rfl⟩, rfl, hs1.weakL (List.nil_sublist _)⟩)
  refine Hs ?_
  exact Jo (i + 1 + 1) ⟨by omega, fun q a hq h1 h2 => by
   rcases Nat.lt_or_ge (q + 1) (i + 1) with hq2 | hq2
   exact hinv q a hq2 h1 h2
   obtain rfl : q = i := by omega
   have e1 := Option.some.inj ((Yt hx).symm.trans h1)
   have e2 := Option.some.inj ((Yt hy).symm.trans h2)
   have e3 : y.addr = x.addr := e2.trans e1.symm
   simp_all⟩ m5 (lK rfl) (List.Sublist.refl _) (fun _ _ h => h)
  ·refine NO ?_
   obtain ⟨hchk, hsrt⟩ := Jpy X.ys fun i a hi => hinv i a m5
   change V6 g.ac = KP X.st.er at hchk; change X.st.er = V5 g.ac at hsrt; refine kE ?_; refine F5 ?_; refine LN O fun r7 => Jj (k := 0) (n := 1) (ys := X.st.cells) O O O O O O O O O (Ge ?_); refine LR O (Jd (xs := X.st.cells) (n := 1) O (kn 0 O) O O O) (Ji O O O Joj (YO (R := X.L ++ R) hXin) (fun q hq => (List.mem_append.1 hq).elim (fun h => Or.inl (List.mem_cons_of_mem _ (List.mem_cons_of_mem _ (List.mem_cons_of_mem _ h)))) (fun hq => Or.inr hq)) (Ht ?_)); refine cD (fun h21 => ?_) fun h21 => ?_
   refine Gy ?_; refine k8 ?_
   refine LT 1 O O (gM ?_); refine Jf O O (.cons (Js (vs := [_, _, _]) O (kn 1 O) O O) .nil) (fun w1 hs1 => ?_)
   (have hne : KP X.st.er ≠ 0 := by omega
    exact ⟨⟨st0L, 0, KP X.st.er, [], vD, by rw [Jj5 hact m5, hchk]; rfl⟩, rfl, hs1.weakL (List.nil_sublist _)⟩)
   ·refine GU ?_
    have hc0 : KP X.st.er = 0 := by omega
    have hq : QP (QB g.ts g.time).1 X.st.er g.rc = QP (QB g.ts g.time).1 (V5 g.ac) g.rc := by rw [hsrt]
    refine kE ?_; refine LR O (Jd (xs := X.st.cells) (n := 1) O (kn 0 O) O O O) ?_
    refine LS 2 [2] O O (Kn O O O (enters_of Tryz.func34 m6 O) (Jvm (R := X.L ++ R) (QB g.ts g.time).1 hXin hg.rc) (fun q hq => (List.mem_append.1 hq).elim (fun h => Or.inl (List.mem_cons_of_mem _ (List.mem_cons_of_mem _ (List.mem_cons_of_mem _ h)))) (fun hq => Or.inr hq)) fun y => Kv (QX y.L [_, _, _] (X.L)) ?_); change HL _ _ ((58, .tuple #[y.s.val, .int .i64 y.err]) :: _) ((r7, _) :: (r2, _) :: (r1, _) :: (y.L ++ (X.L))) _ _ _ _; refine HO ?_; refine LN O fun r9 => DX ?_; refine Ht ?_; refine cD (fun h26 => ?_) fun h26 => ?_
    refine Gy ?_; refine k8 ?_
    refine LT 2 O O (gM ?_); refine Jf O O (.cons (Js (vs := [_, _, _]) O (kn 2 O) O O) .nil) (fun w1 hs1 => ?_)
    (have hy := y.eq.trans hq
     have hne : y.err ≠ 0 := by omega
     exact ⟨⟨st0L, 0, y.err, [], vD, by rw [Jei hact m5, ← hy, if_pos hne]; rfl⟩, rfl, hs1.weakL (List.nil_sublist _)⟩)
    ·refine gZ ?_; refine LR O (Jd (xs := y.s.cells) (n := 1) O (kn 0 O) O O O) (Q1 O (LR O (Ju (r := [_, _, _]) O O) ?_))
     refine LT 2 O O (H6 ?_); refine Jf O O (.cons (Js (vs := [_, _, _]) O (kn 2 O) O O) .nil) (fun w1 hs1 => ?_)
     (have hy := y.eq.trans hq
      have he0 : y.err = 0 := by omega
      exact ⟨⟨y.s, (QB g.ts g.time).1, 0, y.L ++ X.L, by rw [List.append_assoc]; exact y.ok, by rw [Jei hact m5, ← hy, if_neg (by simpa using he0)]⟩, rfl, hs1.weakL (List.sublist_append_right [_, _, _, _] _)⟩)
theorem J0a {g : GenL} (hg : g.In R) (hf : je g.ac = true) : PureR Tryz.prog 15 [g.val].toArray (Wm (vg g.ts g.time g.rc g.ac)) R := by
 have hl := jh hf
 refine Jc Tryz.func15 O O fun w => FV fun r1 x => ?_; change HL _ _ ((8, x.bv) :: _) ((r1, _) :: x.L) _ _ _ _; refine LN O fun r4 => FO ?_; refine cD (fun h5 => ?_) fun h5 => ?_
 refine HS ?_
 have hbad := jA x.eq m5
 refine JK 4 m6 m6 ?_
 refine Nx ?_; refine HW ?_; refine gM ?_; refine Nl fun w1 hs1 => ?_
 (refine ⟨?_, hs1.keep⟩
  rw [hbad.1]; rfl)
 ·refine GU ?_
  have he : x.err = 0 := by omega
  obtain ⟨hck, hw⟩ := Jek (Jel x he) hf
  obtain ⟨rt, hrt, hrl⟩ := j9 hck (YV x.ok)
  have hG := Jhz x.eq he hrt
  refine Qy 3 [0] O O (Jq (show _ = x.s.val from rfl) (H3 ?_)); refine XG 12 [1] O O (Jn O O O J1x (Jee (root := rt) hg.time m5) (gy ?_)); refine Nl fun w1 hs1 => ?_
  (refine ⟨?_, hs1.keep⟩
   rw [hG]; rfl)
theorem Jwg {g : GenL} (hg : g.In R) (hf : je g.ac = true) : PureR Tryz.prog 17 [g.val].toArray (Wm (Z0 g.ts g.time g.rc g.ac)) R := by
 have hl := jh hf
 have hn0 : g.rc.number < 18446744073709551616 := hg.rc.1
 refine Jc Tryz.func17 O O fun w => FV fun r1 x => ?_; change HL _ _ ((15, x.bv) :: _) ((r1, _) :: x.L) _ _ _ _; refine LN O fun r4 => FO ?_; refine cD (fun h5 => ?_) fun h5 => ?_
 refine HS ?_
 have hbad := jA x.eq m5
 refine JK 4 m6 m6 ?_
 refine Nx ?_; refine HW ?_; refine gM ?_; refine Nl fun w1 hs1 => ?_
 (refine ⟨?_, hs1.keep⟩
  rw [hbad.2]; rfl)
 ·refine GU ?_
  have he : x.err = 0 := by omega
  have hok := Jel x he
  obtain ⟨hck, hw⟩ := Jek hok hf
  obtain ⟨hck2, hw2⟩ := Jhy (Jro hok.wr)
  obtain ⟨rt, hrt, hrl⟩ := j9 hck (YV x.ok)
  obtain ⟨st, hst, hsl⟩ := j9 hck2 MZ
  have hC := Jbu x.eq he hrt hst
  obtain ⟨v, hv⟩ : ∃ v, v = xI x.f := ⟨_, rfl⟩
  have hv01 := Jwe x.f
  rw [← hv] at hC hv01; refine Qy 3 [0] O O (Jq (show _ = x.s.val from rfl) (H3 ?_)); refine JN 8 O ?_
  refine JI [] [(0, .pure), (4, .pure), (5, .pure), (6, .pure), (7, .grow (Vu vr (.cells #[.string ⟨#[]⟩, .int .u64 0, .int .u64 0, .int .u64 0, .int .u64 0, .int .u64 0, .string ⟨#[]⟩, .slice none 0 0] 48 (0, 0)))), (8, .turn), (9, .pure)] 10 [0, 1, 2, 3, 4, 5, 6, 7, 8, 9] m6 m6 m8 ?_
  refine EK ?_; refine JY (k := 1) O O O O O (Jz (vs := [KA x.s.accts.length x.s.p]) O (kn 0 O) O O O O) (Qt (show _ = x.s.val from rfl) (JW (k := 2) rfl rfl rfl rfl rfl J1z (P_rAddr0.toR) (fun q hq => .inr hq) (JW (k := 3) rfl rfl rfl rfl rfl J1y (Jd1 (R := x.L ++ R) x.ok A0) (fun q hq => (List.mem_append.1 hq).elim (fun h => Or.inl (List.mem_cons_of_mem _ (List.mem_cons_of_mem _ h))) (fun hq => Or.inr hq)) (kq ?_)))); refine VZ (k := 7) (cs := #[_, _, _, _, _, _, _, _]) O O O O O O fun r9 => Vk (k := 8) (q := 0) (n := 8) (ys := (Q5 x.s A0).cells) O O O O O O O O O O O (fun _ h => absurd h List.not_mem_nil) (gm ?_); refine Ka (GF fun rv => ?_); refine Ji (v := Wm (Q6 (StL.er ⟨[Q5 x.s A0], some (⟨rv, 0, none⟩, 1)⟩))) O O O J1w (vW (vV (jr x.ok A0) rv) (fun _ => by rw [YW]; exact hw2)) (fun q hq => (List.mem_cons.1 hq).elim (fun h => .inl Mt) fun hq => (List.mem_append.1 hq).elim (fun h => Or.inl (List.mem_cons_of_mem _ (List.mem_cons_of_mem _ (List.mem_cons_of_mem _ (List.mem_cons_of_mem _ h))))) (fun hq => Or.inr hq)) (Jq (congrArg Wm ((congrArg Q6 (YW x.s rv)).trans hst)) (XG 11 [2] O O (Jn O O O (enters_of Tryz.func40 m6 O) (J2w x.f 5) (Jq M4 (JN 19 O (cD (fun h14 => ?_) fun h14 => ?_))))))
  refine Qy 15 [3, 3] O O (Gx ?_); refine Nl fun w1 hs1 => ?_
  (refine ⟨?_, hs1.keep⟩
   rw [hC, show wd x.f g.rc = g.rc.number from by unfold wd; rw [← hv, if_pos m5]]; rfl)
  ·refine Qy 10 [3] O O (Gx ?_); refine Nl fun w1 hs1 => ?_
   (refine ⟨?_, hs1.keep⟩
    rw [hC, show wd x.f g.rc = 0 from by unfold wd; rw [← hv, if_neg m5]]; rfl)
def U1 : BS := [173, 50, 40, 182, 118, 247, 211, 205, 66, 132, 165, 68, 63, 23, 241, 150, 43, 54, 228, 145, 179, 10, 64, 178, 64, 88, 73, 229, 151, 186, 95, 181]
def U2 : BS := [180, 193, 25, 81, 149, 124, 111, 143, 100, 44, 74, 246, 28, 214, 178, 70, 64, 254, 198, 220, 127, 198, 7, 238, 130, 6, 169, 158, 146, 65, 13, 48]
def U3 : BS := [33, 221, 185, 163, 86, 129, 92, 63, 172, 16, 38, 182, 222, 197, 223, 49, 36, 175, 186, 219, 72, 92, 155, 165, 163, 227, 57, 138, 4, 183, 186, 133]
def U4 : BS := [229, 135, 105, 179, 42, 27, 234, 241, 234, 39, 55, 90, 68, 9, 90, 13, 31, 182, 100, 206, 45, 211, 88, 231, 252, 191, 183, 140, 38, 161, 147, 68]
def U5 : BS := [14, 176, 30, 191, 201, 237, 39, 80, 12, 212, 223, 201, 121, 39, 45, 31, 9, 19, 204, 159, 102, 84, 13, 126, 128, 5, 129, 17, 9, 225, 207, 45]
def J0b : BS := [111, 110, 101, 0, 0, 0, 0, 0, 0, 0, 0, 0, 0, 0, 0, 0, 0, 0, 0, 0, 0, 0, 0, 0, 0, 0, 0, 0, 0, 0, 0, 0]
def UAd : BS := [66, 0, 0, 0, 0, 0, 0, 0, 0, 0, 0, 0, 0, 0, 0, 0, 0, 0, 0, 1, 0, 0, 0, 0, 0, 0, 0, 0, 0, 0, 0, 0]
def U6 : BS := [35, 243, 31, 87, 200, 20, 215, 123, 214, 192, 83, 67, 196, 40, 91, 130, 219, 75, 152, 38, 171, 132, 39, 130, 169, 132, 223, 125, 157, 106, 47, 69]
def U7 : BS := [131, 241, 113, 45, 226, 69, 37, 146, 43, 71, 20, 186, 3, 103, 171, 114, 46, 40, 106, 0, 255, 158, 222, 54, 24, 194, 237, 212, 173, 254, 220, 131]
def U8 : BS := [242, 186, 62, 27, 111, 140, 127, 23, 29, 217, 54, 77, 62, 57, 244, 120, 135, 65, 67, 42, 144, 41, 240, 241, 210, 153, 39, 8, 186, 55, 34, 213]
def U9 : BS := [33, 180, 236, 129, 209, 3, 231, 208, 120, 175, 195, 1, 158, 91, 71, 27, 49, 166, 79, 106, 42, 35, 105, 27, 30, 222, 120, 211, 167, 168, 139, 135]
def U10 : BS := [125, 225, 35, 91, 207, 235, 186, 242, 16, 196, 211, 228, 105, 77, 66, 123, 190, 229, 22, 9, 253, 235, 200, 196, 240, 97, 205, 75, 152, 210, 249, 126]
def U11 : BS := [50, 178, 115, 232, 148, 162, 253, 184, 200, 103, 108, 40, 44, 53, 250, 226, 67, 39, 85, 153, 173, 52, 25, 113, 190, 215, 6, 171, 166, 218, 61, 3]
def U12 : BS := [113, 204, 200, 86, 198, 253, 158, 85, 5, 131, 130, 73, 154, 154, 255, 0, 169, 41, 85, 96, 145, 202, 185, 51, 234, 104, 27, 232, 152, 96, 71, 248]
def U13 : BS := [132, 90, 164, 89, 164, 191, 80, 223, 178, 73, 159, 94, 140, 113, 233, 133, 102, 110, 174, 45, 34, 63, 195, 68, 238, 232, 104, 179, 81, 128, 234, 139]
def U14 : BS := [235, 114, 203, 217, 247, 64, 52, 193, 8, 30, 239, 190, 180, 198, 98, 176, 42, 249, 8, 173, 66, 240, 249, 56, 193, 75, 35, 171, 233, 208, 193, 195]
def U15 : BS := [164, 30, 190, 90, 41, 216, 190, 217, 85, 253, 216, 224, 7, 23, 171, 243, 88, 41, 83, 46, 207, 20, 69, 81, 243, 174, 71, 105, 10, 76, 147, 226]
def U16 : BS := [105, 102, 245, 27, 161, 222, 241, 181, 192, 86, 124, 98, 245, 190, 192, 54, 192, 63, 144, 3, 170, 4, 51, 225, 238, 10, 187, 77, 166, 236, 80, 115]
def U17 : BS := [10, 27, 235, 237, 66, 167, 30, 71, 6, 137, 246, 233, 78, 173, 243, 225, 156, 94, 59, 228, 197, 207, 199, 254, 209, 32, 79, 241, 25, 121, 182, 70]
def U18 : BS := [45, 63, 26, 239, 217, 230, 108, 101, 248, 231, 99, 101, 145, 158, 81, 76, 1, 45, 239, 215, 186, 35, 73, 247, 12, 176, 246, 235, 168, 152, 41, 208]
def U19 : BS := [83, 222, 232, 149, 76, 179, 109, 14, 136, 74, 190, 125, 178, 41, 59, 97, 160, 72, 246, 61, 180, 126, 236, 139, 6, 133, 137, 19, 179, 63, 187, 122]
def U20 : BS := [17, 238, 144, 76, 186, 158, 216, 91, 9, 196, 227, 243, 243, 253, 17, 83, 74, 68, 104, 161, 76, 150, 16, 48, 11, 32, 58, 250, 73, 27, 28, 188]
def U21 : BS := [220, 132, 225, 78, 18, 16, 82, 55, 250, 166, 171, 196, 184, 137, 66, 234, 243, 70, 30, 243, 118, 93, 157, 90, 173, 62, 193, 0, 44, 42, 179, 104]
def U22 : BS := [168, 203, 117, 212, 196, 131, 35, 196, 128, 0, 198, 72, 59, 250, 217, 105, 45, 64, 183, 82, 19, 160, 167, 124, 155, 84, 205, 96, 106, 220, 133, 188]
def U23 : BS := [226, 171, 200, 37, 18, 134, 109, 196, 173, 119, 38, 26, 229, 87, 194, 26, 95, 114, 197, 167, 124, 172, 103, 224, 254, 45, 15, 145, 239, 132, 203, 46]
def ULe : BS := [6, 0, 0, 0, 0, 0, 0, 0]
def U24 : BS := [42, 123, 160, 192, 217, 163, 200, 255, 136, 106, 193, 125, 8, 79, 43, 190, 169, 215, 147, 160, 73, 244, 233, 147, 58, 4, 119, 152, 128, 29, 116, 250]
def UHd : BS := [0, 0, 0, 0, 0, 0, 0, 0, 0, 0, 0, 0, 0, 0, 0, 0, 0, 0, 0, 0, 0, 0, 0, 0, 0, 0, 0, 0, 0, 0, 0, 0]
def U25 : BS := [156, 238, 190, 167, 74, 13, 235, 10, 52, 177, 34, 104, 132, 238, 41, 29, 152, 1, 252, 49, 101, 106, 191, 80, 101, 242, 97, 240, 51, 57, 169, 37]
theorem uq1 : WN (z32 ++ z32) = U1 := by decide +kernel
theorem uq2 : WN (U1 ++ U1) = U2 := by decide +kernel
theorem uq3 : WN (U2 ++ U2) = U3 := by decide +kernel
theorem uq4 : WN (U3 ++ U3) = U4 := by decide +kernel
theorem uq5 : WN (U4 ++ U4) = U5 := by decide +kernel
theorem uq6 : WN (J0b ++ z32) = U6 := by decide +kernel
theorem uq7 : WN (U6 ++ U1) = U7 := by decide +kernel
theorem uq8 : WN (U7 ++ U2) = U8 := by decide +kernel
theorem uq9 : WN (U8 ++ U3) = U9 := by decide +kernel
theorem J6a : Yj U9 3 = U10 := by decide +kernel
theorem J6b : Yj U4 0 = U11 := by decide +kernel
theorem J6c : WN (UAd ++ z32) = U12 := by decide +kernel
theorem J6d : WN (z32 ++ U10) = U13 := by decide +kernel
theorem J6e : WN (U11 ++ z32) = U14 := by decide +kernel
theorem J6f : WN (U12 ++ U13) = U15 := by decide +kernel
theorem J6g : WN (U14 ++ U1) = U16 := by decide +kernel
theorem J6h : WN (U15 ++ U16) = U17 := by decide +kernel
theorem J6i : WN (U17 ++ z32) = U18 := by decide +kernel
theorem J6j : WN (U18 ++ U1) = U19 := by decide +kernel
theorem J6k : WN (U19 ++ U2) = U20 := by decide +kernel
theorem J6l : WN (U20 ++ U3) = U21 := by decide +kernel
theorem J6m : WN (U21 ++ U4) = U22 := by decide +kernel
theorem J6n : Yj U22 1 = U23 := by decide +kernel
theorem J6o : WN (ULe ++ U23) = U24 := by decide +kernel
theorem J6p : WN (UHd ++ [U23, U23, U24].flatten) = U25 := by decide +kernel
theorem vh (k : Nat) (a z : BS) : We (k + 1) [a] z = We k [WN (a ++ z)] (WN (z ++ z)) := rfl
theorem Jnm (k : Nat) (z : BS) : We (k + 1) [] z = We k [] (WN (z ++ z)) := rfl
theorem J4u (k : Nat) (a b z : BS) : We (k + 1) [a, b] z = We k [WN (a ++ b)] (WN (z ++ z)) := by rw [We]; simp [QA, SL.pairUp]
theorem J4v (k : Nat) (a b c z : BS) : We (k + 1) [a, b, c] z = We k [WN (a ++ b), WN (c ++ z)] (WN (z ++ z)) := by rw [We]; simp [QA, SL.pairUp]
theorem J4w (k : Nat) (a b c d e z : BS) : We (k + 1) [a, b, c, d, e] z = We k [WN (a ++ b), WN (c ++ d), WN (e ++ z)] (WN (z ++ z)) := by rw [We]; simp [QA, SL.pairUp]
theorem Jwh (a z : BS) : We 0 [a] z = a := rfl
theorem J4x (z : BS) : We 0 [] z = z := rfl
theorem Jbv {l : List Vl} {x : Ty} {n : Int} (hx : WJ x = false) : KZ (Qv l 0) (.mk 4 n none [x]) = Yj (QY (Kg l 4 0 [x] 0) n.toNat) l.length := by
 unfold Qv
 rw [Xu, if_neg m7, if_pos rfl]
 unfold VS
 rw [if_neg m7, if_neg (by rw [show [x].getD 0 default = x from rfl, hx]; decide)]
theorem Jwi {l : List Vl} {ins : List Ty} : KZ (Qv l 0) (.mk 7 0 none ins) = QY (Kg l 7 0 ins 0) ins.length := by
 unfold Qv
 rw [Xu, if_neg m7, if_neg m7, if_neg m7, if_neg m7, if_neg m7]
 unfold VS
 rw [if_pos rfl]
def b25 : AcE := ⟨A0, 0, w40, cOne, []⟩
theorem Jp0 : KZ (xK cOne) (Yk 4 512) = U10 := by
 have e1 : VS 4 512 [byT] (cOne.map Zt) (Kg (cOne.map Zt) 4 0 [byT] 0) = QY [J0b] 16 := by
  unfold VS
  rw [if_neg m7, if_pos MS, show Wo (WK (cOne.map Zt) ([byT].getD 0 default)) = [J0b] by decide +kernel, show ((512 : Int).toNat * (KX ([byT].getD 0 default)).toNat + 31) / 32 = 16 by decide +kernel]
 have e2 : QY [J0b] 16 = U9 := by
  rw [← qG m7, show lg 16 = 4 by decide +kernel, vh, uq6, uq1, vh, uq7, uq2, vh, uq8, uq3, vh, uq9, uq4, Jwh]
 unfold xK Qv Yk
 rw [Xu, if_neg m7, if_pos rfl]
 show Yj (VS 4 512 [byT] (cOne.map Zt) (Kg (cOne.map Zt) 4 0 [byT] 0)) 3 = _
 rw [e1, e2, J6a]
theorem Jwj : KZ (xK A0) (Yk 3 20) = UAd := by decide +kernel
theorem Jj8 : KZ (Qv [] 0) (.mk 4 16 none [Jdl]) = U11 := by
 rw [Jbv MS]
 show Yj (QY [] 16) 0 = _
 rw [← qG m7, show lg 16 = 4 by decide +kernel, Jnm, uq1, Jnm, uq2, Jnm, uq3, Jnm, uq4, J4x, J6b]
theorem J0c : KZ (acV b25) acT = U17 := by
 unfold acV acT
 rw [Jwi]
 show QY [KZ (xK A0) (Yk 3 20), KZ (.mk 0 0 0 0 [] none [] none 0) (.mk 1 8 none []), KZ (.mk 0 0 0 0 [] none [] none 0) (.mk 1 32 none []), KZ (xK cOne) (Yk 4 512), KZ (Qv [] 0) (.mk 4 16 none [Jdl])] 5 = _
 rw [Jwj, Jp0, Jj8, show KZ (.mk 0 0 0 0 [] none [] none 0) (.mk 1 8 none []) = z32 by decide +kernel, show KZ (.mk 0 0 0 0 [] none [] none 0) (.mk 1 32 none []) = z32 by decide +kernel, ← qG m7, show lg 5 = 3 by decide +kernel, J4w, J6c, J6d, J6e, uq1, J4v, J6f, J6g, uq2, J4u, J6h, Jwh]
theorem Jwk : KZ (YM [b25]) ZG = U23 := by
 unfold YM ZG
 rw [Jbv MS]
 show Yj (QY [KZ (acV b25) acT] 32) 1 = _
 rw [J0c, ← qG m7, show lg 32 = 5 by decide +kernel, vh, J6i, uq1, vh, J6j, uq2, vh, J6k, uq3, vh, J6l, uq4, vh, J6m, uq5, Jwh, J6n]
theorem J4y : KP [b25] = 0 := by decide +kernel
theorem J4z : Q6 [b25] = (U23, 0) := by rw [xt J4y MS, Jwk]
theorem J40 : Wx 6 U23 = U24 := by
 unfold Wx
 rw [show (jZ 6 8).1 = ULe by decide +kernel, J6o]
theorem J6q : xI 0 = 0 := by decide +kernel
theorem J6r : VT 0 [U23, U23, U24] 0 = (U25, 0) := by
 have e : Ww 0 [U23, U23, U24] 0 = (UHd ++ [U23, U23, U24].flatten, 0) := by decide +kernel
 unfold VT
 rw [e, if_pos rfl, J6p]
theorem J6s : U24 ≠ U25 := by decide +kernel
theorem Jh1 {l m : List AcE} (h : m.Perm l) (hp : m.Pairwise fun x y => xZ x y = true) (hn : (l.map AcE.addr).Nodup) : V5 l = m := by
 have h1 : (V5 l).Perm l := List.mergeSort_perm _ _
 exact List.Perm.eq_of_pairwise (fun x y hx hy a b => Jng hn (h1.mem_iff.1 hx) (h.mem_iff.1 hy) (xG a b)) (List.pairwise_mergeSort wa Jbo _) hp (h1.trans h.symm)
def xN (b : BS) : AcE := ⟨b, 0, w40, [], []⟩
def xJ : BS := List.replicate 20 0
def m25 : BS := 98 :: List.replicate 19 0
theorem J25 : VM [5, 9] 6 rec0 [] = ([b25], 0, 0) := by
 have e : V5 [] = [] := Jh1 (List.Perm.refl _) List.Pairwise.nil List.nodup_nil
 have e1 : V6 [] = 0 := by unfold V6; rw [e]; decide +kernel
 unfold VM
 rw [e1, e, show QB [5, 9] 6 = (0, 0) by decide +kernel, show QP 0 [] rec0 = ([b25], 0) by decide +kernel]
 rfl
theorem J6t : VM [5, 9] 6 rec0 [xN m25, xN xJ] = ([xN xJ, b25, xN m25], 0, 0) := by
 have hn : ([xN m25, xN xJ].map AcE.addr).Nodup := by decide +kernel
 have e : V5 [xN m25, xN xJ] = [xN xJ, xN m25] := Jh1 (List.Perm.swap _ _ _) MS hn
 have e1 : V6 [xN m25, xN xJ] = 0 := by unfold V6; rw [if_pos hn, e]; decide +kernel
 unfold VM
 rw [e1, e, show QB [5, 9] 6 = (0, 0) by decide +kernel, show QP 0 [xN xJ, xN m25] rec0 = ([xN xJ, b25, xN m25], 0) by decide +kernel]
 rfl
theorem J6u : VM [5, 9] 6 rec0 [xN m25, xN xJ, xN xJ] = ([], 0, 13) := by
 have e1 : V6 [xN m25, xN xJ, xN xJ] = 13 := by unfold V6; rw [if_neg MS]
 unfold VM
 rw [e1, show QB [5, 9] 6 = (0, 0) by decide +kernel]
 rfl
theorem J6v (l : List AcE) : VM [5, 9] 4 rec0 l = ([], 0, 10) := by
 unfold VM
 rw [show QB [5, 9] 4 = (0, 10) by decide +kernel]
 rfl
theorem J6w : vg [5, 9] 6 rec0 [] = (U24, 0) := by
 unfold vg
 rw [J25]
 show (if (0 : Int) ≠ 0 then _ else (Wx 6 (Q6 [b25]).1, 0)) = _
 rw [if_neg ml, J4z, J40]
theorem J6x : Z0 [5, 9] 6 rec0 [] = (U25, 0) := by
 have e : X6 [b25] = [b25] := by decide +kernel
 unfold Z0
 rw [J25]
 show (if (0 : Int) ≠ 0 then _ else VT (xI 0) [(Q6 [b25]).1, (Q6 (X6 [b25])).1, Wx 6 (Q6 [b25]).1] (wd 0 rec0)) = _
 rw [if_neg ml, e, J4z, J6q, J40, show wd 0 rec0 = 0 by decide +kernel]
 exact J6r
def WO (fs : Array Field) (i : Nat) : Option (TypeId × Nat) := (fs[i]?).map (fun f => (f.type, f.offset))
section
variable {H : Type} {enc : TypeId × Value → H} {P : Program} {w : World} {base : Nat} {sp : Nat → Bool} {held : Bool}
theorem Jp2 {tR tW tu tI fuel : Nat} {fa : Array Field} (ha : P.underlying tR = some (.struct fa)) (hA : P.cellsOf tR = 17) (a0 : WO fa 0 = some (tI, 0)) (a1 : WO fa 1 = some (tI, 1)) (a2 : WO fa 2 = some (tW, 2)) (a3 : WO fa 3 = some (tW, 6)) (a4 : WO fa 4 = some (tW, 10))
  (a5 : WO fa 5 = some (tI, 14)) (a6 : WO fa 6 = some (tI, 15)) (a7 : WO fa 7 = some (tI, 16))
  (hI : P.underlying tI = some (.int .u64)) (hIc : P.cellsOf tI = 1) (hW : P.underlying tW = some (.array 4 tu)) (hWc : P.cellsOf tW = 4) (hu : P.underlying tu = some (.int .u64)) (huc : P.cellsOf tu = 1)
  {cs : List Value} {x : DataW H × List MemPlace} (h : DataW.trod enc P w base sp held fuel tR cs = some x) : ∃ s : Rec, cs = s.cells ∧ s.ok := by
 have hl := jp ha hA h
 match cs, hl with
 | [c0, c1, c2, c3, c4, c5, c6, c7, c8, c9, c10, c11, c12, c13, c14, c15, c16], _ =>
  obtain ⟨n0, y0, _, e0⟩ := KG ha a0 hIc h
  obtain ⟨n1, y1, _, e1⟩ := KG ha a1 hIc h
  obtain ⟨n2, y2, _, e2⟩ := KG ha a2 hWc h
  obtain ⟨n3, y3, _, e3⟩ := KG ha a3 hWc h
  obtain ⟨n4, y4, _, e4⟩ := KG ha a4 hWc h
  obtain ⟨n5, y5, _, e5⟩ := KG ha a5 hIc h
  obtain ⟨n6, y6, _, e6⟩ := KG ha a6 hIc h
  obtain ⟨n7, y7, _, e7⟩ := KG ha a7 hIc h
  obtain ⟨x0, f0, g0⟩ := Xo hI e0
  obtain ⟨x1, f1, g1⟩ := Xo hI e1
  obtain ⟨u0, u1, u2, u3, f2, k0, k1, k2, k3⟩ := yl hW hWc huc hu e2
  obtain ⟨v0, v1, v2, v3, f3, l0, l1, l2, l3⟩ := yl hW hWc huc hu e3
  obtain ⟨w0, w1, w2, w3, f4, m0, m1, m2, m3⟩ := yl hW hWc huc hu e4
  obtain ⟨x5, f5, g5⟩ := Xo hI e5
  obtain ⟨x6, f6, g6⟩ := Xo hI e6
  obtain ⟨x7, f7, g7⟩ := Xo hI e7
  obtain rfl : c0 = uV x0 := by simpa using f0
  obtain rfl : c1 = uV x1 := by simpa using f1
  obtain ⟨rfl, rfl, rfl, rfl⟩ : c2 = uV u0 ∧ c3 = uV u1 ∧ c4 = uV u2 ∧ c5 = uV u3 := by simpa using f2
  obtain ⟨rfl, rfl, rfl, rfl⟩ : c6 = uV v0 ∧ c7 = uV v1 ∧ c8 = uV v2 ∧ c9 = uV v3 := by simpa using f3
  obtain ⟨rfl, rfl, rfl, rfl⟩ : c10 = uV w0 ∧ c11 = uV w1 ∧ c12 = uV w2 ∧ c13 = uV w3 := by simpa using f4
  obtain rfl : c14 = uV x5 := by simpa using f5
  obtain rfl : c15 = uV x6 := by simpa using f6
  obtain rfl : c16 = uV x7 := by simpa using f7
  exact ⟨⟨x0, x1, ⟨u0, u1, u2, u3⟩, ⟨v0, v1, v2, v3⟩, ⟨w0, w1, w2, w3⟩, x5, x6, x7⟩, rfl, ⟨g0, g1, ⟨k0, k1, k2, k3⟩, ⟨l0, l1, l2, l3⟩, ⟨m0, m1, m2, m3⟩, g5, g6, g7⟩⟩
theorem Jh2 {α β : Type} (f : α → β) : ∀ l : List α, l.flatMap (fun x => [f x]) = l.map f
 | [] => rfl
 | x :: l => by rw [List.flatMap_cons, Jh2 f l]; rfl
theorem open_gen {tG tC tN tR tX tA tT tS tL tW tu tI : Nat} {fg fc fr fs fa : Array Field} (ht : P.underlying tT = some (.struct fs)) (hT : P.cellsOf tT = 2) (h0 : WO fs 0 = some (tS, 0)) (h1 : WO fs 1 = some (tS, 1)) (hS : P.underlying tS = some .string) (hSc : P.cellsOf tS = 1)
  (ha : P.underlying tA = some (.struct fa)) (hA : P.cellsOf tA = 8) (a0 : WO fa 0 = some (tS, 0)) (a1 : WO fa 1 = some (tI, 1)) (a2 : WO fa 2 = some (tW, 2)) (a3 : WO fa 3 = some (tS, 6)) (a4 : WO fa 4 = some (tL, 7))
  (hI : P.underlying tI = some (.int .u64)) (hIc : P.cellsOf tI = 1) (hW : P.underlying tW = some (.array 4 tu)) (hWc : P.cellsOf tW = 4) (hu : P.underlying tu = some (.int .u64)) (huc : P.cellsOf tu = 1) (hL : P.underlying tL = some (.slice tT)) (hLc : P.cellsOf tL = 1)
  (hX : P.underlying tX = some (.slice tA)) (hXc : P.cellsOf tX = 1)
  (hr : P.underlying tR = some (.struct fr)) (hRc : P.cellsOf tR = 17) (r0 : WO fr 0 = some (tI, 0)) (r1 : WO fr 1 = some (tI, 1)) (r2 : WO fr 2 = some (tW, 2)) (r3 : WO fr 3 = some (tW, 6)) (r4 : WO fr 4 = some (tW, 10))
  (r5 : WO fr 5 = some (tI, 14)) (r6 : WO fr 6 = some (tI, 15)) (r7 : WO fr 7 = some (tI, 16))
  (hc : P.underlying tC = some (.struct fc)) (hCc : P.cellsOf tC = 1) (c0 : WO fc 0 = some (tN, 0)) (hN : P.underlying tN = some (.slice tI)) (hNc : P.cellsOf tN = 1)
  (hg : P.underlying tG = some (.struct fg)) (hGc : P.cellsOf tG = 20) (g0 : WO fg 0 = some (tC, 0)) (g1 : WO fg 1 = some (tI, 1)) (g2 : WO fg 2 = some (tR, 2)) (g3 : WO fg 3 = some (tX, 19))
  {r : Reach} {b0 : Nat} {v : Value} {d : DataW H} {ps : List MemPlace} (hval : Value.okWide P w r b0 tG v) (hd : DataW.Trod enc P w base sp held tG v d ps) : ∃ g : GenL, v = g.val ∧ g.In (Jih w) := by
 obtain ⟨fuel, h⟩ := hd
 have hl := jp hg hGc h
 generalize hcs : v.cells.toList = cs at h hl
 obtain ⟨n0, y0, _, e0⟩ := KG hg g0 hCc h
 obtain ⟨n1, y1, _, e1⟩ := KG hg g1 hIc h
 obtain ⟨n2, y2, _, e2⟩ := KG hg g2 hRc h
 obtain ⟨n3, y3, _, e3⟩ := KG hg g3 hXc h
 obtain ⟨m0, z0, _, k0⟩ := KG hc c0 hNc e0
 obtain ⟨ts, tp, ets, tsg, tlen, tok⟩ := ZR (f := fun n => [uV n]) (ok := Wr) m7 (fun _ => rfl) hN hIc (fun m hm cs x hx => Xo hI hx) k0
 obtain ⟨t, et, tu64⟩ := Xo hI e1
 obtain ⟨rc, erc, hrc⟩ := Jp2 hr hRc r0 r1 r2 r3 r4 r5 r6 r7 hI hIc hW hWc hu huc e2
 obtain ⟨l, p, ep, hsg, hlen, hok⟩ := ZR (f := AcL.cells) (ok := AcL.In (Jih w)) m7 AcL.len hX hA (fun m hm cs x hx => Jxg ht hT h0 h1 hS hSc ha hA a0 a1 a2 a3 a4 hI hIc hW hWc hu huc hL hLc hx) e3
 rw [Jh2] at tsg
 refine ⟨⟨ts, tp, t, rc, l, p⟩, Jfl hg hval (hcs.trans ?_), ⟨tlen, tsg, tok, tu64, hrc, ⟨hlen, hsg, hok⟩⟩⟩
 rw [GenL.cells_eq]
 have q0 : cs.take 1 = [KA ts.length tp] := by rw [← ets]; simp [List.take_take]
 have q3 : cs.drop 19 = [KA l.length p] := by
  rw [← ep, List.take_of_length_le]; rw [List.length_drop, hl]; decide
 have s1 : cs = cs.take 1 ++ ((cs.drop 1).take 1 ++ ((cs.drop 2).take 17 ++ cs.drop 19)) := by
  have a : ∀ (k n : Nat), cs.drop k = (cs.drop k).take n ++ cs.drop (k + n) := fun k n => by rw [← List.drop_drop, List.take_append_drop]
  rw [← a 2 17, ← a 1 1, List.take_append_drop]
 rw [s1, q0, et, erc, q3]
 rfl
end
theorem J41 {a b : Bool} (h : a = b) : Value.bool a = .bool b := congrArg _ h
theorem J42 {a b : BS} (h : a ≠ b) : (!decide (a = b)) = true := by simp [h]
theorem Jwl {s : BS} {n : Nat} (h : s.length = n) : Value.int .i64 (s.length : Int) = .int .i64 (n : Int) := by rw [h]
def g25 (r t : Nat) (l : List AcL) (p : Pl) : GenL := ⟨[5, 9], some (⟨r, 0, none⟩, 2), t, rec0, l, p⟩
def tB (r : Nat) : Nat × Obj := (r, .cells #[uV 5, uV 9] 25 (0, 0))
theorem Jem {r t : Nat} {l : List AcL} {p : Pl} (h : tB r ∈ R) (ht : Wr t) (hs : StL.In R ⟨l, p⟩) : (g25 r t l p).In R := by
 refine ⟨show (2 : Nat) ≤ ZS by decide, ?_, ?_, ht, Jxe, hs⟩
 ·exact (JQ (row := some (r, 2, [])) (sz := 1) (n := 2) (e := 25) (cs := [uV 5, uV 9]) ⟨rfl, rfl⟩ m7).mono fun q hq => by rw [List.mem_singleton.1 hq]; exact h
 ·intro x hx
  rcases List.mem_cons.1 hx with rfl | hx
  ·exact vT m7
  ·rw [List.mem_singleton.1 hx]; exact vT m7
def xL (b : BS) : AcL := ⟨b, 0, w40, [], [], none⟩
theorem Jh3 {b : BS} (h : b.length ≤ ZS) : (xL b).In R := ⟨h, Vb, w40_ok, Nat.zero_le _, Nat.zero_le _, rfl, by simp [xL]⟩
def l25 : List AcL := [xL m25, xL xJ]
def k25 : List AcL := [xL m25, xL xJ, xL xJ]
theorem J26 : ∀ a ∈ l25, a.In R := fun a ha => by
 rcases List.mem_cons.1 ha with rfl | ha
 ·exact Jh3 m7
 ·rw [List.mem_singleton.1 ha]; exact Jh3 m7
theorem J27 : ∀ a ∈ k25, a.In R := fun a ha => by
 rcases List.mem_cons.1 ha with rfl | ha
 ·exact Jh3 m7
 rcases List.mem_cons.1 ha with rfl | ha
 ·exact Jh3 m7
 ·rw [List.mem_singleton.1 ha]; exact Jh3 m7
def aB (rv : Nat) : Nat × Obj := (rv, .cells (KV l25).toArray 48 (0, 0))
theorem J43 (r rv : Nat) : StL.In [tB r, aB rv] ⟨l25, some (⟨rv, 0, none⟩, 2)⟩ :=
 ⟨show (2 : Nat) ≤ ZS by decide, (JQ (row := some (rv, 2, [])) (sz := 8) (n := 2) (e := 48) (cs := KV l25) ⟨rfl, rfl⟩ m7).mono fun q hq => by rw [List.mem_singleton.1 hq]; exact List.mem_cons_of_mem _ (List.mem_singleton.2 (by simp [aB])), J26⟩
def cB (ra : Nat) (sp : List Value) : Nat × Obj := (ra, .cells (KV l25 ++ (xL xJ).cells ++ sp).toArray 48 (0, 0))
theorem J1a {r ra : Nat} (h : rowOk 8 3 (KV l25 ++ (xL xJ).cells) (some (ra, cap, sp))) : StL.In [tB r, cB ra sp] ⟨k25, some (⟨ra, 0, none⟩, cap)⟩ :=
 ⟨show (3 : Nat) ≤ ZS by decide, (JQ (n := 3) (e := 48) (cs := KV l25 ++ (xL xJ).cells) h m7).mono fun q hq => by rw [List.mem_singleton.1 hq]; exact List.mem_cons_of_mem _ (List.mem_singleton.2 O), J27⟩
set_option maxHeartbeats 2000000 in
theorem Jp3 : PureR Tryz.prog 9 #[] (.bool true) R := by
 have hH := J6w
 have hK := J6x
 have hne := J6s
 have hl1 : U24.length = 32 := by decide
 have hl2 : U25.length = 32 := by decide
 generalize U24 = hh at hH hne hl1
 generalize U25 = cc at hK hne hl2
 refine Jc Tryz.func9 O O fun w => E3 ?_; refine J0 (n := 2) (sz := 1) (vs := [_, _]) (zs := [_, _]) (r := [uV 5, uV 9]) O O O O O O O O O mj O fun r1 => F5 ?_; refine LR O (Ju (r := [_, _, _, _, _, _, _, _, _, _, _, _, _, _, _, _, _, _, _, _]) O O) (LN O fun r2 => Jj (k := 0) (n := 20) (ys := ((g25 r1 6 [] none)).cells) O O O O O O O O O ?_)
 have hg1 : GenL.In [tB r1] (g25 r1 6 [] none) := Jem (List.mem_singleton.2 rfl) (vT m7) vD
 refine Ge ?_; refine LR O (Jd (xs := (g25 r1 6 [] none).cells) (n := 20) O (kn 0 O) O O O) (Kn O O O Joi (j6 (R := [tB r1]) hg1 (Nat.zero_le _)) (fun q hq => by rw [List.mem_singleton.1 hq]; exact .inl (List.mem_cons_of_mem _ List.mem_cons_self)) fun x => GL ?_); change HL _ _ ((24, .tuple #[x.s.val, .int .i64 x.f, .int .i64 x.err]) :: _) ((r2, _) :: (r1, _) :: x.L) _ _ _ _
 obtain ⟨hx1, hx2⟩ := Prod.mk.inj (x.eq.trans J25)
 obtain ⟨hx2, hx3⟩ := Prod.mk.inj hx2
 rw [hx2, hx3]; refine LS 4 [] O O (LN O fun r3 => Ha ?_); refine Gu ?_; refine LR O (Jd (xs := (g25 r1 6 [] none).cells) (n := 20) O (kn 1 O) O O O) (Ji O O O (enters_of Tryz.func14 m6 O) (Jwf (R := [tB r1]) hg1 (show je [] = true by decide)) (fun q hq => by rw [List.mem_singleton.1 hq]; exact .inl (List.mem_cons_of_mem _ (List.mem_cons_of_mem _ List.mem_cons_self))) (Jq (congrArg Wm hH) (JH 9 O (LR O (Jd (xs := (g25 r1 6 [] none).cells) (n := 20) O (kn 1 O) O O O) (Ji O O O (enters_of Tryz.func16 m6 O) (Jnl (R := [tB r1]) hg1 (show je [] = true by decide)) (fun q hq => by rw [List.mem_singleton.1 hq]; exact .inl (List.mem_cons_of_mem _ (List.mem_cons_of_mem _ List.mem_cons_self))) (Jq (congrArg Wm hK) (JH 9 O (V2 (n := 20) (b := 1) O O O O O O O O O m7 m7 fun rk => ?_)))))))); rw [show List.replicate 20 (Value.int .u8 0) = (xJ).map bV from rfl]; refine LR O (Kw (b := xJ) (row := some (rk, 20, [])) (e := 5) (show _ = some (J9 (List.length xJ) _) from rfl) ⟨rfl, rfl⟩ (fun p hp => .inl nC) rfl rfl rfl) (Gu ?_); refine LR O (Y6 (kl := some (.i64, 1)) (kh := none) (m := 1) (n := 20) O O O O O O m7 m7 (show _ = List.replicate 19 0 from rfl)) (LR rfl (KB (a := [98]) (b := List.replicate 19 0) rfl rfl m7) (Jq (show _ = J5 m25 from rfl) (DR ?_))); refine Q1 O (LR O (Ju (r := [_, _, _, _, _, _, _, _]) O O) ?_); refine J0 (n := 2) (sz := 8) (vs := [_, _]) (zs := [_, _, _, _, _, _, _, _, _, _, _, _, _, _, _, _]) (r := KV l25) O O O O O O O O O mj O fun rv => ?_
 refine LS 1 [] O O (Ko (k := 3) (cs' := ((g25 r1 6 l25 (some (⟨rv, 0, none⟩, 2)))).cells.toArray) O O O O O O O O O O ?_)
 have hg2 : GenL.In [tB r1, aB rv] (g25 r1 6 l25 (some (⟨rv, 0, none⟩, 2))) := Jem List.mem_cons_self (vT m7) (J43 r1 rv)
 refine Ge ?_; refine LR O (Jd (xs := (g25 r1 6 l25 (some (⟨rv, 0, none⟩, 2))).cells) (n := 20) O (kn 3 O) O O O) (Kn O O O Joi (j6 (R := [tB r1, aB rv]) hg2 (show (2 : Nat) ≤ 1000 by decide)) (fun q hq => (List.mem_cons.1 hq).elim (fun h => .inl (by rw [h]; exact (List.mem_cons_of_mem _ (List.mem_cons_of_mem _ (List.mem_cons_of_mem _ (List.mem_cons_of_mem _ List.mem_cons_self)))))) fun h => .inl MP) fun y => Kv (QX y.L [_, _, _, _, _] (x.L)) ?_); change HL _ _ ((50, .tuple #[y.s.val, .int .i64 y.f, .int .i64 y.err]) :: _) ((rv, _) :: (rk, _) :: (r3, _) :: (r2, _) :: (r1, _) :: (y.L ++ (x.L))) _ _ _ _
 obtain ⟨hy1, hy2⟩ := Prod.mk.inj (y.eq.trans J6t)
 obtain ⟨hy2, hy3⟩ := Prod.mk.inj hy2
 rw [hy2, hy3]; refine LS 4 [] O O (LN O fun r10 => DX ?_); refine XG 9 [4] O O (DR ?_); refine J0 (n := 1) (sz := 8) (vs := [_]) (zs := [_, _, _, _, _, _, _, _]) (r := (xL xJ).cells) O O O O O O O O O mj O fun rw1 => JA (L0 := _ :: _ :: _ :: _ :: _ :: _ :: (y.L ++ x.L)) (xs := KV l25) (row := some (rv, 2, [])) (n := 2) (sz := 8) (b := 96) (news := (xL xJ).cells) (List.perm_middle (l₁ := [_, _])) O O O O (kn 0 O) O O O O O m7 O O O m7 ⟨rfl, rfl⟩ m7 m7 fun ra cap sp hra => ?_
 refine LS 1 [] O O (Ko (k := 5) (cs' := ((g25 r1 6 k25 (some (⟨ra, 0, none⟩, cap)))).cells.toArray) O O O O O O O O O O ?_)
 have hg3 : GenL.In [tB r1, cB ra sp] (g25 r1 6 k25 (some (⟨ra, 0, none⟩, cap))) := Jem List.mem_cons_self (vT m7) (J1a hra)
 have hg4 : GenL.In [tB r1, cB ra sp] (g25 r1 4 k25 (some (⟨ra, 0, none⟩, cap))) := Jem List.mem_cons_self (vT m7) (J1a hra)
 refine Ge ?_; refine LR O (Jd (xs := (g25 r1 6 k25 (some (⟨ra, 0, none⟩, cap))).cells) (n := 20) O (kn 5 O) O O O) (Kn O O O Joi (j6 (R := [tB r1, cB ra sp]) hg3 (show (3 : Nat) ≤ 1000 by decide)) (fun q hq => (List.mem_cons.1 hq).elim (fun h => .inl (by rw [h]; exact (List.mem_cons_of_mem _ (List.mem_cons_of_mem _ (List.mem_cons_of_mem _ (List.mem_cons_of_mem _ (List.mem_cons_of_mem _ (List.mem_cons_of_mem _ List.mem_cons_self)))))))) fun h => .inl MP) fun z => Kv (QX z.L [_, _, _, _, _, _, _] (y.L ++ x.L)) ?_); change HL _ _ ((63, .tuple #[z.s.val, .int .i64 z.f, .int .i64 z.err]) :: _) ((ra, _) :: (rw1, _) :: (r10, _) :: (rk, _) :: (r3, _) :: (r2, _) :: (r1, _) :: (z.L ++ (y.L ++ x.L))) _ _ _ _
 obtain ⟨hz1, hz2⟩ := Prod.mk.inj (z.eq.trans J6u)
 obtain ⟨hz2, hz3⟩ := Prod.mk.inj hz2
 rw [hz2, hz3]; refine LS 4 [] O O (LN O fun r13 => Jj (k := 0) (n := 1) (ys := z.s.cells) O O O O O O O O O (gY ?_)); refine Ko (k := 6) (cs' := ((g25 r1 4 k25 (some (⟨ra, 0, none⟩, cap)))).cells.toArray) O O O O O O O O O O (Ge ?_); refine LR O (Jd (xs := (g25 r1 4 k25 (some (⟨ra, 0, none⟩, cap))).cells) (n := 20) O (kn 6 O) O O O) (Kn O O O Joi (j6 (R := [tB r1, cB ra sp]) hg4 (show (3 : Nat) ≤ 1000 by decide)) (fun q hq => (List.mem_cons.1 hq).elim (fun h => .inl (by rw [h]; exact (List.mem_cons_of_mem _ (List.mem_cons_of_mem _ (List.mem_cons_of_mem _ (List.mem_cons_of_mem _ (List.mem_cons_of_mem _ (List.mem_cons_of_mem _ (List.mem_cons_of_mem _ List.mem_cons_self))))))))) fun h => .inl (by rw [List.mem_singleton.1 h]; exact (List.mem_cons_of_mem _ List.mem_cons_self))) fun u => Kv (QX u.L [_, _, _, _, _, _, _, _] (z.L ++ (y.L ++ x.L))) ?_); change HL _ _ ((70, .tuple #[u.s.val, .int .i64 u.f, .int .i64 u.err]) :: _) ((r13, _) :: (ra, _) :: (rw1, _) :: (r10, _) :: (rk, _) :: (r3, _) :: (r2, _) :: (r1, _) :: (u.L ++ (z.L ++ (y.L ++ x.L)))) _ _ _ _
 obtain ⟨hu1, hu2⟩ := Prod.mk.inj (u.eq.trans (J6v _))
 obtain ⟨hu2, hu3⟩ := Prod.mk.inj hu2
 rw [hu2, hu3]; refine LS 4 [] O O (LN O fun r16 => Jj (k := 0) (n := 1) (ys := u.s.cells) O O O O O O O O O (XG 8 [6] O O (LR O (Jy O x.ok.seg O) (Jq (Ju4 (show _ = (1 : Int) by rw [← x.s.er_len, hx1]; rfl)) (LS 11 [] rfl rfl (LR rfl (yK rfl rfl rfl) (Jq (show _ = Value.int .i64 32 from Jwl hl1) (LS 8 [] rfl rfl (LR rfl (yK rfl rfl rfl) (Jq (show _ = Value.int .i64 32 from Jwl hl2) (LS 5 [] rfl rfl (LR rfl (ji (a := cc) (b := hh) rfl rfl) (Jq (J41 (J42 hne.symm)) (XG 8 [4] rfl rfl (LR rfl (Jy rfl y.ok.seg rfl) (Jq (Ju4 (show _ = (3 : Int) by rw [← y.s.er_len, hy1]; rfl)) (J1 22 rfl ?_))))))))))))))))); exact Nz
end Go.Proofs.YtfaagelglpgpkaaGreatDoor
