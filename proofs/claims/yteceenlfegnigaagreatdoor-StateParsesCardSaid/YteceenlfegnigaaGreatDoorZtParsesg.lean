import Derived.Test.YteceenlfegnigaaGreatDoorZtParsesf
set_option maxRecDepth 100000
namespace Go.Proofs.YteceenlfegnigaaGreatDoor
set_option linter.all false
open Go.SL Go.RowKit Go.Shelf
open Go.Proofs (Enters enters_of)
variable {a : AcL} {cs : Array Value} {Y s : BS} {g : FuncId} {L R Rl : Jj} {xs : List (BS × BS)} {acs : List AcL} {sp vs : List Value} {us yitems : List Vl} {M b c cap d e i j m r rb sz : Nat} {pb pi : Pl} {P : Program} {T t x : Ty} {q : Ty × Nat × Nat} {α : Type} {row : Vg} {v y z : Vl} {w : World} {V : α → Value}
theorem Ju3 (n : Nat) : wB [n, 0, 0, 0] = .tuple #[uV n, .bool true] := by unfold wB; rw [Jdv]; rfl
theorem ZJ  {a : Nat} {bits : List Bool} {items : List Vl} {pick : Int} (h : Vl.In R (.mk a b c d bits pb items pi pick)) : Seg R items.length (KC items) pi := by cases h; assumption
theorem Jrd  {a : Nat} {bits : List Bool} {items : List Vl} {pick : Int} (h : Vl.In R (.mk a b c d bits pb items pi pick)) : W4.ok ⟨a, b, c, d⟩ := by cases h; exact ⟨by assumption, by assumption, by assumption, by assumption⟩
theorem wl {a : Nat} {bits : List Bool} {items : List Vl} {pick k n : Int} {p : Pl} {ins : List Ty} (h : Kz (.mk a b c d bits pb items pi pick) (.mk k n p ins) = 0) : ¬ (k = 4 ∧ n < items.length) ∧ zO k n ins.length (.mk a b c d bits pb items pi pick) = true ∧ Qx items k pick ins 0 = 0 := by
 rw [Kz] at h
 split at h
 ·cases h
 ·rename_i h1
  split at h
  ·cases h
  ·rename_i h2
   exact ⟨fun e => h1 (.inl e), by simpa using h2, h⟩
theorem yW {n : Int} {p : Pl} (h : Kz v (.mk 4 n p [x]) = 0) : (v.items.length : Int) ≤ n ∧ ∀ y ∈ v.items, Kz y x = 0 := by
 obtain ⟨a, b, c, d, bits, pb, items, pi, pick⟩ := v
 obtain ⟨h1, _, h3⟩ := wl h
 refine ⟨by show (items.length : Int) ≤ n; omega, fun y hy => ?_⟩
 obtain ⟨j, hj⟩ := List.getElem?_of_mem hy
 exact Wy h3 hj
theorem Jbx {n : Int} {p : Pl} (h : Kz v (.mk 3 n p [x]) = 0) : (v.items.length : Int) = n := by
 obtain ⟨a, b, c, d, bits, pb, items, pi, pick⟩ := v
 obtain ⟨_, h2, _⟩ := wl h
 rw [Qw 3 n _ a b c d bits pb items pi pick _ rfl] at h2; simp at h2; exact h2.2
theorem Jjo {p : Pl} {ins : List Ty} (h : Kz v (.mk 7 0 p ins) = 0) : v.items.length = ins.length ∧ ∀ (j : Nat) y, v.items[j]? = some y → Kz y (ins.getD j default) = 0 := by
 obtain ⟨a, b, c, d, bits, pb, items, pi, pick⟩ := v
 obtain ⟨_, h2, h3⟩ := wl h
 rw [Qw 7 0 _ a b c d bits pb items pi pick _ rfl] at h2; simp at h2; refine ⟨h2.2, fun j y hy => ?_⟩
 have := Wy h3 hy
 rw [Nat.zero_add] at this; exact this
theorem Jx6 {p : Pl} {ins : List Ty} (hv : v.In R) (h : Kz v (.mk 1 8 p ins) = 0) : ∃ n, v.num = [n, 0, 0, 0] ∧ YK n := by
 obtain ⟨a, b, c, d, bits, pb, items, pi, pick⟩ := v
 obtain ⟨_, h2, _⟩ := wl h
 rw [Qw 1 8 _ a b c d bits pb items pi pick _ rfl] at h2; simp at h2
 have hw := Jrd hv
 have h1 := zR (l := [a, b, c, d]) hw.wok
 rw [decide_eq_true (by have := h2.2; omega)] at h1; exact ⟨a, (Jo3 h1).symm, hw.a⟩
theorem Jre (h : Kz z qR = 0) : ∃ k0 k1, z.items = [k0, k1] ∧ k0.items.length = 32 ∧ k1.items.length = 32 := by
 obtain ⟨h1, h2⟩ := Jjo h
 match hz : z.items, h1 with
 | [k0, k1], _ =>
  have e0 := h2 0 k0 MG
  have e1 := h2 1 k1 MG
  exact ⟨k0, k1, rfl, by have := Jbx e0; omega, by have := Jbx e1; omega⟩
theorem Jjp {x : Vl} (hx : x.In R) (h : Kz x acT = 0) : ∃ p0 p1 p2 p3 p4 : Vl, x.items = [p0, p1, p2, p3, p4] ∧ p0.items.length = 20 ∧ (p1.num.getD 1 0 = 0 ∧ p1.num.getD 2 0 = 0 ∧ p1.num.getD 3 0 = 0 ∧ YK (p1.num.getD 0 0)) ∧ True ∧ p3.items.length ≤ 512 ∧ (p4.items.length ≤ 16 ∧ ∀ z ∈ p4.items, ∃ k0 k1, z.items = [k0, k1] ∧ k0.items.length = 32 ∧ k1.items.length = 32) := by
 obtain ⟨h1, h2⟩ := Jjo h
 match hz : x.items, h1 with
 | [p0, p1, p2, p3, p4], _ =>
  have e0 := h2 0 p0 MG
  have e1 := h2 1 p1 MG
  have e3 := h2 3 p3 MG
  have e4 := h2 4 p4 MG
  have hi1 : p1.In R := by obtain ⟨a, b, c, d, bits, pb, items, pi, pick⟩ := x; exact hx.sub p1 (by show p1 ∈ items; rw [show items = _ from hz]; simp)
  obtain ⟨n, hn, hu⟩ := Jx6 hi1 e1
  obtain ⟨g3, _⟩ := yW e3
  obtain ⟨g4, g5⟩ := yW e4
  refine ⟨p0, p1, p2, p3, p4, rfl, by have := Jbx e0; omega, by rw [hn]; exact ⟨rfl, rfl, rfl, hu⟩, trivial, by omega, by omega, fun z hz => Jre (g5 z hz)⟩
theorem Jv6 {gv : Vl} {ya yb yc yd : Nat} {ybits : List Bool} {ypb : Pl} {ypi : Pl} {ypick : Int} (h : Kz gv Qo = 0) (e : W0 (.mk ya yb yc yd ybits ypb yitems ypi ypick) = gv) : (yitems.length : Int) ≤ 32 ∧ ∀ y ∈ yitems, Kz y acT = 0 := by
 rw [← e, Jgu] at h; exact yW h
theorem qv (v : Vl) : (W0 v).items = v.items.map W0 := by obtain ⟨a, b, c, d, bits, pb, items, pi, pick⟩ := v; rw [KB, VK]; rfl
theorem Jgz (v : Vl) : (W0 v).num = v.num := by obtain ⟨a, b, c, d, bits, pb, items, pi, pick⟩ := v; rw [KB]; rfl
theorem Jby (v : Vl) : WO (W0 v) = WO v := by
 unfold WO; rw [qv, List.map_map]; exact List.map_congr_left fun x _ => by show UInt8.ofNat ((W0 x).num.getD 0 0) = _; rw [Jgz]
theorem v0_er : W0 v0L = v0L := by unfold v0L; rw [KB, Xp]
theorem Zb (v : Vl) (i : Nat) : qr (W0 v) i = W0 (qr v i) := by
 unfold qr
 rw [qv, List.getD_eq_getElem?_getD, List.getD_eq_getElem?_getD, List.getElem?_map]
 cases v.items[i]? with
 | none => exact v0_er.symm
 | some x => rfl
theorem Ju4 (v : Vl) : Wd (W0 v) = Wd v := by unfold Wd; rw [Zb, Zb, Jby, Jby]
theorem Jx7 (v : Vl) : acB (W0 v) = acB v := by
 unfold acB w4B
 rw [Zb, Zb, Zb, Zb, Zb, Jby, Jby, Jgz, Jgz, qv, List.map_map, show (Wd ∘ W0) = Wd from funext Ju4]
theorem Jjq (v : Vl) : Y8 (W0 v) = Y8 v := by unfold Y8; rw [qv, List.map_map, show (acB ∘ W0) = acB from funext Jx7]
theorem Je4 {l : List Vl} {a : Nat} {bits : List Bool} {k0 k1 : Vl} {pick : Int} {cs : List Value} (h : l[j]? = some (.mk a b c d bits pb [k0, k1] pi pick)) (hc : cs = [Jw (WO k0), Jw (WO k1)]) : jq ((l.take j).map Wd) ++ cs = jq ((l.take (j + 1)).map Wd) := by
 rw [Ke h, List.map_append, hc]; unfold jq; rw [List.flatMap_append]; rfl
theorem wm (v : Vl) : (WO v).length = v.items.length := by unfold WO; rw [List.length_map]
theorem Jrf {E S : Jj} {p0a p0b p0c p0d p3a p3b p3c p3d : Nat} {p0bi p3bi : List Bool} {p0pb p0pi p3pb p3pi p : Pl} {p0it p3it zs : List Vl} {p0pk p3pk : Int} {n : Nat} {w : W4} (hin : ∀ a ∈ acs, AcL.In E a) (hs : Seg S (zs.map Wd).length (jq (zs.map Wd)) p) (h0 : p0it.length = 20) (h3 : p3it.length ≤ 512) (hz : zs.length ≤ 16) (hn : YK n) (hw : w.ok) (hzz : ∀ z ∈ zs, ∃ k0 k1, z.items = [k0, k1] ∧ k0.items.length = 32 ∧ k1.items.length = 32) {q : AcL}
  (hq : q ∈ acs ++ [(⟨WO (.mk p0a p0b p0c p0d p0bi p0pb p0it p0pi p0pk), n, w, WO (.mk p3a p3b p3c p3d p3bi p3pb p3it p3pi p3pk), zs.map Wd, p⟩ : AcL)]) : AcL.In (S ++ E) q := by
 rcases List.mem_append.1 hq with hq | hq
 ·exact (hin q hq).mono fun p hp => List.mem_append_right _ hp
 ·rw [List.mem_singleton.1 hq]
  refine ⟨?_, hn, hw, ?_, ?_, hs.mono fun p hp => List.mem_append_left _ hp, fun x hx => ?_⟩
  ·show (WO _).length ≤ Yj; rw [wm]; show p0it.length ≤ Yj; unfold Yj; omega
  ·show (WO _).length ≤ Yj; rw [wm]; show p3it.length ≤ Yj; unfold Yj; omega
  ·show (zs.map Wd).length ≤ Yj; rw [List.length_map]; unfold Yj; omega
  ·obtain ⟨z, hz, rfl⟩ := List.mem_map.1 hx
   obtain ⟨k0, k1, e, e0, e1⟩ := hzz z hz
   have f0 : qr z 0 = k0 := by unfold qr; rw [e]; rfl
   have f1 : qr z 1 = k1 := by unfold qr; rw [e]; rfl
   unfold Wd
   rw [f0, f1]; exact ⟨by show (WO k0).length ≤ Yj; rw [wm]; unfold Yj; omega, by show (WO k1).length ≤ Yj; rw [wm]; unfold Yj; omega⟩
theorem Jrg  {zs : List Vl} {xa xb xc xd : Nat} {xbits : List Bool} {xpb xpi p p1pb p1pi p2pb p2pi p4pb p4pi : Pl} {xpick p1pk p2pk p4pk : Int} {P0 P3 : Vl} {n ba bb bc bd p4a p4b p4c p4d n1 n2 n3 : Nat} {p1bi p2bi p4bi : List Bool} {p1it p2it : List Vl} (her : acs.map AcL.er = (yitems.take i).map acB)
  (hx : yitems[i]? = some (.mk xa xb xc xd xbits xpb [P0, .mk n n1 n2 n3 p1bi p1pb p1it p1pi p1pk, .mk ba bb bc bd p2bi p2pb p2it p2pi p2pk, P3, .mk p4a p4b p4c p4d p4bi p4pb zs p4pi p4pk] xpi xpick)) :
  (acs ++ [(⟨WO P0, n, ⟨ba, bb, bc, bd⟩, WO P3, zs.map Wd, p⟩ : AcL)]).map AcL.er = (yitems.take (i + 1)).map acB := by
 rw [List.map_append, her, Ke hx, List.map_append]; rfl
theorem Jrh {E : Jj} (h : rowOk 8 acs.length (Xn acs) row) (hl : acs.length ≤ 100000) (hin : ∀ a ∈ acs, AcL.In E a) : StL.In (JL e (Xn acs) row ++ E) ⟨acs, QD row⟩ :=
 ⟨by show acs.length ≤ Yj; unfold Yj; omega, (KY h m7).mono fun q hq => List.mem_append_left _ hq, fun a ha => (hin a ha).mono fun q hq => List.mem_append_right _ hq⟩
theorem Je5 (t : TR T) (s : BS) : getR t.x s = getR T s := by obtain ⟨x, L, ok, rfl⟩ := t; rw [Jqi]
theorem Je6 (h : (getR Qo s).2 = 0) : Kz (getR Qo s).1 Qo = 0 := by
 unfold getR at h ⊢
 rw [if_neg (by rw [Jbq]; decide)] at h ⊢
 by_cases h1 : 65536 < s.length
 ·rw [if_pos h1] at h; cases h
 ·rw [if_neg h1] at h ⊢
  exact (Jt2 Qo 0 Jbq s _ m0 (Prod.ext rfl h)).1
open Classical in
theorem Jri (b c : α) (Y T : List α) : (b :: (Y ++ (T ++ [c]))).Perm (b :: c :: (Y ++ T)) := by
 rw [List.perm_iff_count]; intro x; simp only [List.count_append, List.count_cons, List.count_nil]; omega
open Classical in
theorem qV (M S W : List α) : (M ++ (S ++ W)).Perm (S ++ (M ++ W)) := by
 exact DP
open Classical in
theorem Jrj (M S V W : List α) : (M ++ (S ++ (V ++ W))).Perm (V ++ (M ++ (S ++ W))) := by
 exact DP
open Classical in
theorem Jrk (r : α) (P M W : List α) : (r :: (P ++ (M ++ W))).Perm (P ++ (M ++ (r :: W))) := by
 exact Nr
open Classical in
theorem Jrl (r a b : α) (M S E W : List α) : (r :: a :: b :: (M ++ (S ++ (E ++ W)))).Perm (a :: b :: (M ++ (r :: ((S ++ E) ++ W)))) := by
 exact Nr
set_option maxHeartbeats 4000000 in
theorem xv (s : BS) : PureT (α := StRes [] (VU s)) Tryz.prog 31 [Jw s].toArray (fun x => x.val) [] (fun x => x.L) [] := by
 have hgt : ∀ t : TR Qo, PureT (α := VR (getR Qo s).1) Tryz.prog 60 [t.x.val, Jw s].toArray (fun y => .tuple #[y.x.val, .int .i64 (getR Qo s).2]) [] (fun y => y.L) t.L := fun t => by
  have := Jy9 t.ok s
  rw [Je5 t s] at this; exact this
 have hfit := Je6 (s := s)
 have hPa : (getR Qo s).2 ≠ 0 → VU s = ([], (getR Qo s).2) := fun h => by unfold VU; rw [if_pos h]
 have hPb : (getR Qo s).2 = 0 → Qi (Y8 (getR Qo s).1) ≠ 0 → VU s = ([], Qi (Y8 (getR Qo s).1)) := fun h h2 => by unfold VU; rw [if_neg m0, if_pos h2]
 have hPc : (getR Qo s).2 = 0 → Qi (Y8 (getR Qo s).1) = 0 → VU s = (Y8 (getR Qo s).1, 0) := fun h h2 => by unfold VU; rw [if_neg m0, if_neg m0]
 generalize (getR Qo s).1 = gv at hgt hfit hPa hPb hPc
 generalize (getR Qo s).2 = ge at hgt hfit hPa hPb hPc
 refine J2 Tryz.func31 rfl rfl fun w => MX fun r1 => ?_; refine ND ?_; refine JW rfl rfl rfl Jwx (Jbk) oN fun t => QK rfl (JW rfl rfl rfl (enters_of Tryz.func60 m5 rfl) (hgt t) (fun q hq => .inl (List.mem_append_left _ hq)) fun y => ?_)
 obtain ⟨⟨ya, yb, yc, yd, ybits, ypb, yitems, ypi, ypick⟩, yL, yok, yer⟩ := y
 refine gw ?_; refine LN rfl fun r2 => JY (Jri ..) ?_
 refine Nm ?_; refine JQ 10 rfl (cD (fun g => ?_) fun g => ?_)
 exact g9
 ·refine Gw ?_
  have hge : ge = 0 := by assumption
  have hyfit := Jv6 (hfit hge) yer
  have hsY : Seg yL yitems.length (KC yitems) ypi := ZJ yok
  obtain ⟨hy32, hyf⟩ := hyfit
  have hyin := yok.sub
  have hby : Y8 gv = yitems.map acB := by rw [← yer]; exact Jjq _
  refine H4 ?_; refine LN rfl fun r3 => X6 7 [1] rfl rfl (LR rfl (Jq rfl hsY rfl) (kR ?_)); refine Jy (σ := Nat × List AcL × Vg × Jj) (fun q => q.1 ≤ yitems.length ∧ rowOk 8 q.1 (Xn q.2.1) q.2.2.1 ∧ (∀ a ∈ q.2.1, AcL.In q.2.2.2 a) ∧ q.2.1.map AcL.er = (yitems.take q.1).map acB) (fun q => [(2, QR r1), (6, QR r3), (26, Ky yitems.length ypi), (27, .int .i64 (yitems.length : Int)), (28, .int .i64 (q.1 : Int))]) (fun q => (r3, .cells #[J3 q.1 q.2.2.1] 24 (0, 0)) :: (r2, .cells #[uV ya, uV yb, uV yc, uV yd, Ky ybits.length ypb, Ky yitems.length ypi, .int .i64 ypick] 81 (0, 0)) :: (r1, .cells #[.slice none 0 0] 24 (0, 0)) :: (JL 34 (Xn q.2.1) q.2.2.1 ++ (q.2.2.2 ++ yL))) (fun _ _ _ => True) (fun q => yitems.length - q.1) (0, [], none, []) ⟨Nat.zero_le _, ⟨rfl, rfl⟩, fun x hx => (nomatch hx), rfl⟩ (lK rfl) nf (fun _ _ h => h) ?_; rintro ⟨i, acs, row, E⟩ ⟨hi1, hrow, hin, her⟩; simp only at hi1 hrow hin her; refine Nv ?_; refine cD (fun g => ?_) fun g => ?_
  ·refine kX ?_
   obtain ⟨x, hx, hxm⟩ := Q0 (show i < yitems.length by omega)
   obtain ⟨p0, p1, p2, p3, p4, hxi, hp0, hp1, hp2, hp3, hp4⟩ := Jjp (hyin x hxm) (hyf x hxm)
   obtain ⟨xa, xb, xc, xd, xbits, xpb, xitems, xpi, xpick⟩ := x
   change xitems = _ at hxi; subst hxi
   have hxin : Vl.In yL _ := hyin _ hxm
   have hsx : Seg yL _ (KC _) xpi := ZJ hxin
   have hpi0 := hxin.sub p0 mf
   have hpi1 := hxin.sub p1 mf
   have hpi2 := hxin.sub p2 mf
   have hpi3 := hxin.sub p3 mf
   have hpi4 := hxin.sub p4 mf
   obtain ⟨p0a, p0b, p0c, p0d, p0bi, p0pb, p0it, p0pi, p0pk⟩ := p0
   obtain ⟨p1a, p1b, p1c, p1d, p1bi, p1pb, p1it, p1pi, p1pk⟩ := p1
   obtain ⟨p2a, p2b, p2c, p2d, p2bi, p2pb, p2it, p2pi, p2pk⟩ := p2
   obtain ⟨p3a, p3b, p3c, p3d, p3bi, p3pb, p3it, p3pi, p3pk⟩ := p3
   obtain ⟨p4a, p4b, p4c, p4d, p4bi, p4pb, p4it, p4pi, p4pk⟩ := p4
   obtain ⟨hq0, hq1, hq2, hq3⟩ : p1b = 0 ∧ p1c = 0 ∧ p1d = 0 ∧ YK p1a := hp1
   subst hq0 hq1 hq2
   obtain ⟨hz16, hzz⟩ := hp4
   change p4it.length ≤ 16 at hz16
   have hsz : Seg yL p4it.length (KC p4it) p4pi := ZJ hpi4
   change p0it.length = 20 at hp0; change p3it.length ≤ 512 at hp3
   have hba : W4.ok ⟨p2a, p2b, p2c, p2d⟩ := Jrd hpi2
   refine H4 ?_; refine LR rfl (Jg (j := i) rfl hsY rfl rfl rfl rfl m0) (LR rfl (Qe (fun q hq => .inl mb) rfl hsY hx rfl rfl) (LN rfl fun r4 => ?_))
   refine Nm ?_; refine X6 6 [0] rfl rfl (LR rfl (Jg (j := 1) rfl hsx rfl rfl rfl rfl mm) (LR rfl (JR (off' := XO xpi + 7) rfl rfl (by show XO xpi + 1 * 7 + 0 = _; omega)) (LR rfl (WA (j := 7) (vs := [uV p1a, uV 0, uV 0, uV 0]) (fun q hq => .inl mb) rfl hsx (Nat.le_of_ble_eq_true rfl) rfl rfl rfl rfl) (J6 rfl rfl rfl (enters_of Tryz.func61 m5 rfl) (Jat (l := [p1a, 0, 0, 0]) (Jw7 hq3)) (Jk ((Ju3 p1a)) (JQ 8 rfl ?_))))))
   refine JJ [(r4, .cells #[uV xa, uV xb, uV xc, uV xd, Ky xbits.length xpb, Ky 5 xpi, .int .i64 xpick] 81 (0, 0))] [(0, .pure), (1, .pure), (2, .pure), (5, .pure), (6, .pure), (7, .pure), (8, .pure), (9, .pure), (11, .pure), (12, .pure), (13, .pure), (16, .pure), (17, .grow (V1 vv (.cells #[.string ⟨#[]⟩, .int .u64 0, .int .u64 0, .int .u64 0, .int .u64 0, .int .u64 0, .string ⟨#[]⟩, .slice none 0 0] 34 (0, 0))))] 18 [0, 1, 2, 3, 4, 5, 6, 7, 8, 9, 10, 11, 12, 13, 14, 15, 16, 17] m5 m5 m6 ?_
   refine N6 ?_; refine Ji (k := 2) rfl rfl rfl rfl rfl (fun _ _ => Jg (j := 0) rfl hsx rfl rfl rfl rfl mm) (KG (k := 3) rfl rfl rfl rfl rfl (Qe (fun q hq => .inl mb) rfl hsx rfl rfl rfl) (KR (k := 4) (Rl := yL) rfl rfl rfl rfl rfl Js0 (Juf hpi0 Mu) (fun q hq => .inl mb) (Dt ?_)))
   refine Ji (k := 6) rfl rfl rfl rfl rfl (fun _ hS => (J5 rfl rfl rfl)) (Ji (k := 7) rfl rfl rfl rfl rfl (fun _ hS => (Je rfl (.inl (hS _ (Kn (n := 0) rfl))) rfl rfl)) (Ji (k := 8) rfl rfl rfl rfl rfl (fun _ _ => Jg (j := 2) rfl hsx rfl rfl rfl rfl mm) (Ji (k := 9) rfl rfl rfl rfl rfl (fun _ _ => JR (off' := XO xpi + 14) rfl rfl (by show XO xpi + 2 * 7 + 0 = _; omega)) (KG (k := 10) rfl rfl rfl rfl rfl (WA (j := 14) (vs := [uV p2a, uV p2b, uV p2c, uV p2d]) (fun q hq => .inl mb) rfl hsx (Nat.le_of_ble_eq_true rfl) rfl rfl rfl rfl) ?_))))
   refine HU ?_; refine Ji (k := 12) rfl rfl rfl rfl rfl (fun _ hS => (Je rfl (.inl (hS _ (Kn (n := 0) rfl))) rfl rfl)) (Ji (k := 13) rfl rfl rfl rfl rfl (fun _ _ => Jg (j := 3) rfl hsx rfl rfl rfl rfl mm) (KG (k := 14) rfl rfl rfl rfl rfl (Qe (fun q hq => .inl mb) rfl hsx rfl rfl rfl) (KR (k := 15) (Rl := yL) rfl rfl rfl rfl rfl Js0 (Juf hpi3 Mv) (fun q hq => .inl mb) (Ji (k := 16) rfl rfl rfl rfl rfl (fun _ hS => (Js (r := [_, _, _, _, _, _, _, _]) rfl rfl)) (Wt (k := 17) (cs := #[_, _, _, _, _, _, _, _]) rfl rfl rfl rfl rfl rfl fun r5 => Kk ?_)))))
   refine Nm ?_; refine X6 7 [1] rfl rfl (NN ?_); refine LR rfl (Jq rfl hsz rfl) (kR ?_); refine Jy (σ := Nat × Vg) (fun q => q.1 ≤ p4it.length ∧ rowOk 2 q.1 (jq ((p4it.take q.1).map Wd)) q.2) (fun q => [(2, QR r1), (6, QR r3), (11, QR r5), (26, Ky yitems.length ypi), (27, .int .i64 (yitems.length : Int)), (28, .int .i64 (i : Int)), (62, Ky p4it.length p4pi), (63, .int .i64 (p4it.length : Int)), (64, .int .i64 (q.1 : Int))]) (fun q => (r5, .cells #[Jw (WO (.mk p0a p0b p0c p0d p0bi p0pb p0it p0pi p0pk)), uV p1a, uV p2a, uV p2b, uV p2c, uV p2d, Jw (WO (.mk p3a p3b p3c p3d p3bi p3pb p3it p3pi p3pk)), J3 q.1 q.2] 34 (0, 0)) :: (r3, .cells #[J3 i row] 24 (0, 0)) :: (r2, .cells #[uV ya, uV yb, uV yc, uV yd, Ky ybits.length ypb, Ky yitems.length ypi, .int .i64 ypick] 81 (0, 0)) :: (r1, .cells #[.slice none 0 0] 24 (0, 0)) :: (JL 59 (jq ((p4it.take q.1).map Wd)) q.2 ++ (JL 34 (Xn acs) row ++ (E ++ yL)))) (fun _ _ _ => True) (fun q => p4it.length - q.1) (0, none) ⟨Nat.zero_le _, ⟨rfl, rfl⟩⟩ (lK rfl) (by simp only [JL, List.nil_append]; exact .cons_cons _ (.cons _ (List.Sublist.refl _))) (fun _ _ h => h) ?_; rintro ⟨j, rw2⟩ ⟨hj1, hrow2⟩; simp only at hj1 hrow2; refine Nv ?_; refine cD (fun g => ?_) fun g => ?_
   ·refine kX ?_
    obtain ⟨z, hz, hzm⟩ := Q0 (show j < p4it.length by omega)
    obtain ⟨k0, k1, hzi, hk0, hk1⟩ := hzz z hzm
    obtain ⟨za, zb, zc, zd, zbits, zpb, zitems, zpi, zpick⟩ := z
    change zitems = _ at hzi; subst hzi
    have hzin : Vl.In yL _ := hpi4.sub _ hzm
    have hsq : Seg yL _ (KC _) zpi := ZJ hzin
    have hki0 := hzin.sub k0 mf
    have hki1 := hzin.sub k1 mf
    refine H4 ?_; refine LR rfl (Jg (j := j) rfl hsz rfl rfl rfl rfl m0) (LR rfl (Qe (fun q hq => .inl mb) rfl hsz hz rfl rfl) (LN rfl fun r6 => ?_))
    refine Nm ?_; refine Gj ?_
    refine JJ [(r5, .cells #[Jw (WO (.mk p0a p0b p0c p0d p0bi p0pb p0it p0pi p0pk)), uV p1a, uV p2a, uV p2b, uV p2c, uV p2d, Jw (WO (.mk p3a p3b p3c p3d p3bi p3pb p3it p3pi p3pk)), J3 j rw2] 34 (0, 0)), (r6, .cells #[uV za, uV zb, uV zc, uV zd, Ky zbits.length zpb, Ky 2 zpi, .int .i64 zpick] 81 (0, 0))] [(0, .pure), (1, .pure), (2, .pure), (3, .pure), (4, .pure), (7, .pure), (8, .pure), (9, .pure), (12, .pure), (13, .grow (V1 (slV 1) (.cells #[Jw (WO k0), Jw (WO k1)] 59 (0, 0))))] 14 [0, 1, 2, 3, 4, 5, 6, 7, 8, 9, 10, 11, 12, 13] m5 m5 m6 ?_
    refine gt ?_; refine Ji (k := 4) rfl rfl rfl rfl rfl (fun _ _ => Jg (j := 0) rfl hsq rfl rfl rfl rfl mm) (KG (k := 5) rfl rfl rfl rfl rfl (Qe (fun q hq => .inl mb) rfl hsq rfl rfl rfl) (KR (k := 6) (Rl := yL) rfl rfl rfl rfl rfl Js0 (Juf hki0 Mw) (fun q hq => .inl mb) ?_))
    refine Dl ?_; refine Ji (k := 9) rfl rfl rfl rfl rfl (fun _ _ => Jg (j := 1) rfl hsq rfl rfl rfl rfl mm) (KG (k := 10) rfl rfl rfl rfl rfl (Qe (fun q hq => .inl mb) rfl hsq rfl rfl rfl) (KR (k := 11) (Rl := yL) rfl rfl rfl rfl rfl Js0 (Juf hki1 Mw) (fun q hq => .inl mb) (Ji (k := 12) rfl rfl rfl rfl rfl (fun _ hS => (Js (r := [_, _]) rfl rfl)) (Vb (k := 13) (n := 1) (sz := 2) (vs := [_]) (zs := [_, _]) (r := [Jw (WO k0), Jw (WO k1)]) rfl rfl rfl rfl rfl rfl rfl rfl rfl rfl rfl mn rfl fun rc => Kk (JY (qV (M := [_, _, _, _, _, _]) ..) (JF (L0 := _) (xs := jq ((p4it.take j).map Wd)) (row := rw2) (n := j) (sz := 2) (b := 32) (news := [_, _]) (List.Perm.refl _) rfl rfl rfl rfl (kn 0 rfl) rfl rfl rfl rfl rfl m7 rfl rfl rfl m7 hrow2 m0 m0 fun ra cap sp hra => ?_))))))
    refine LS 1 [] rfl rfl (Kt (k := 3) (cs' := #[Jw (WO (.mk p0a p0b p0c p0d p0bi p0pb p0it p0pi p0pk)), uV p1a, uV p2a, uV p2b, uV p2c, uV p2d, Jw (WO (.mk p3a p3b p3c p3d p3bi p3pb p3it p3pi p3pk)), J3 (j + 1) (some (ra, cap, sp))]) rfl rfl rfl rfl rfl rfl rfl rfl rfl rfl (ND ?_)); refine Jk mJ (Dy ?_); rw [Je4 hz rfl] at hra ⊢; refine VI (Jrk (P := [_, _]) (M := [_, _, _, _]) ..) ?_; exact Jr (j + 1, some (ra, cap, sp)) ⟨by simp only; omega, hra⟩ ml (lK rfl) (.cons _ (.cons _ (List.Sublist.refl _))) (fun _ _ h => h)
   ·refine kX ?_
    obtain rfl : j = p4it.length := by omega
    rw [List.take_length] at hrow2 ⊢
    have hvr2 : J3 p4it.length rw2 = Ky (p4it.map Wd).length (QD rw2) := by rw [List.length_map]; exact (VE _ _ (fun h => by rw [h] at hrow2; exact hrow2.1)).symm
    rw [hvr2]; rw [show p4it.length = (p4it.map Wd).length by rw [List.length_map]] at hrow2; refine QZ 4 [1, 0] rfl rfl (J7 (vs := [_]) (zs := [_, _, _, _, _, _, _, _]) (r := [_, _, _, _, _, _, _, _]) rfl rfl rfl rfl rfl rfl rfl rfl rfl mn rfl fun r7 => JY (Jrj (M := [_, _, _, _, _]) ..) (JF (L0 := _) (xs := Xn acs) (row := row) (n := i) (sz := 8) (b := 96) (news := [_, _, _, _, _, _, _, _]) (List.Perm.refl _) rfl rfl rfl rfl (kn 0 rfl) rfl rfl rfl rfl rfl m7 rfl rfl rfl m7 hrow m0 m0 fun ra cap sp hra => ?_))
    refine HY ?_; refine ND ?_; refine Nf ?_
    exact N9
  ·refine JE 7 rfl ?_
   have hiM : i = yitems.length := by omega
   have hvl : acs.length = i := by have := congrArg List.length her; simp at this; omega
   rw [hiM, List.take_length] at her
   have hvr : J3 i row = Ky acs.length (QD row) := by rw [← hvl]; exact (VE _ _ (fun h => by rw [h] at hrow; rw [hvl]; exact hrow.1)).symm
   rw [hvr]; rw [← hvl] at hrow
   have hsin : StL.In (JL 34 (Xn acs) row ++ E) ⟨acs, QD row⟩ := Jrh hrow m0 hin
   have hck : Qi (StL.er ⟨acs, QD row⟩) = Qi (Y8 gv) := by show Qi (acs.map AcL.er) = _; rw [her, ← hby]
   refine H4 ?_; refine GN ?_
   refine Jb (Rl := JL 34 (Xn acs) row ++ E) rfl rfl rfl Jkv (Xy (s := ⟨acs, QD row⟩) hsin) (fun q hq => .inl nl) (Jk (congrArg (Value.int .i64) hck) ?_); generalize hcz : Qi (Y8 gv) = ck at *; refine HW ?_; refine cD (fun g => ?_) fun g => ?_
   refine Nw ?_; exact kF
   ·exact NZ
set_option maxHeartbeats 4000000 in
theorem Jg0 (s : BS) : PureT (α := StRes [] (VU s)) Tryz.prog 32 [Jw s].toArray (fun x => x.val) [] (fun x => x.L) [] := by
 have hgt : ∀ t : TR Qo, PureT (α := VR (getR Qo s).1) Tryz.prog 63 [t.x.val, Jw s].toArray (fun y => .tuple #[y.x.val, .int .i64 (getR Qo s).2]) [] (fun y => y.L) t.L := fun t => by
  have := Jxv t.ok s
  rw [Je5 t s] at this; exact this
 have hfit := Je6 (s := s)
 have hPa : (getR Qo s).2 ≠ 0 → VU s = ([], (getR Qo s).2) := fun h => by unfold VU; rw [if_pos h]
 have hPb : (getR Qo s).2 = 0 → Qi (Y8 (getR Qo s).1) ≠ 0 → VU s = ([], Qi (Y8 (getR Qo s).1)) := fun h h2 => by unfold VU; rw [if_neg m0, if_pos h2]
 have hPc : (getR Qo s).2 = 0 → Qi (Y8 (getR Qo s).1) = 0 → VU s = (Y8 (getR Qo s).1, 0) := fun h h2 => by unfold VU; rw [if_neg m0, if_neg m0]
 generalize (getR Qo s).1 = gv at hgt hfit hPa hPb hPc
 generalize (getR Qo s).2 = ge at hgt hfit hPa hPb hPc
 refine J2 Tryz.func32 rfl rfl fun w => MX fun r1 => ?_; refine ND ?_; refine JW rfl rfl rfl (enters_of Tryz.func56 m5 rfl) (Jp2) oN fun t => QK rfl (JW rfl rfl rfl (enters_of Tryz.func63 m5 rfl) (hgt t) (fun q hq => .inl (List.mem_append_left _ hq)) fun y => ?_)
 obtain ⟨⟨ya, yb, yc, yd, ybits, ypb, yitems, ypi, ypick⟩, yL, yok, yer⟩ := y
 refine gw ?_; refine LN rfl fun r2 => JY (Jri ..) ?_
 refine Nm ?_; refine JQ 10 rfl (cD (fun g => ?_) fun g => ?_)
 exact g9
 ·refine Gw ?_
  have hge : ge = 0 := by assumption
  have hyfit := Jv6 (hfit hge) yer
  have hsY : Seg yL yitems.length (KC yitems) ypi := ZJ yok
  obtain ⟨hy32, hyf⟩ := hyfit
  have hyin := yok.sub
  have hby : Y8 gv = yitems.map acB := by rw [← yer]; exact Jjq _
  refine H4 ?_; refine Hh ?_; refine HT fun r3 => ?_; refine HW ?_; refine Jy (σ := Nat × List AcL × Vg × Jj) (fun q => q.1 ≤ yitems.length ∧ rowOk 8 q.1 (Xn q.2.1) q.2.2.1 ∧ (∀ a ∈ q.2.1, AcL.In q.2.2.2 a) ∧ q.2.1.map AcL.er = (yitems.take q.1).map acB) (fun q => [(2, QR r1), (4, QR r2), (6, QR r3), (7, .int .i64 (q.1 : Int))]) (fun q => (r3, .cells #[J3 q.1 q.2.2.1] 24 (0, 0)) :: (r2, .cells #[uV ya, uV yb, uV yc, uV yd, Ky ybits.length ypb, Ky yitems.length ypi, .int .i64 ypick] 81 (0, 0)) :: (r1, .cells #[.slice none 0 0] 24 (0, 0)) :: (JL 34 (Xn q.2.1) q.2.2.1 ++ (q.2.2.2 ++ yL))) (fun _ _ _ => True) (fun q => yitems.length - q.1) (0, [], none, []) ⟨Nat.zero_le _, ⟨rfl, rfl⟩, fun x hx => (nomatch hx), rfl⟩ (lK rfl) nf (fun _ _ h => h) ?_; rintro ⟨i, acs, row, E⟩ ⟨hi1, hrow, hin, her⟩; simp only at hi1 hrow hin her; refine QZ 6 [1] rfl rfl (LR rfl (Jq rfl hsY rfl) (NR ?_)); refine cD (fun g => ?_) fun g => ?_
  ·refine kX ?_
   obtain ⟨x, hx, hxm⟩ := Q0 (show i < yitems.length by omega)
   obtain ⟨p0, p1, p2, p3, p4, hxi, hp0, hp1, hp2, hp3, hp4⟩ := Jjp (hyin x hxm) (hyf x hxm)
   obtain ⟨xa, xb, xc, xd, xbits, xpb, xitems, xpi, xpick⟩ := x
   change xitems = _ at hxi; subst hxi
   have hxin : Vl.In yL _ := hyin _ hxm
   have hsx : Seg yL _ (KC _) xpi := ZJ hxin
   have hpi0 := hxin.sub p0 mf
   have hpi1 := hxin.sub p1 mf
   have hpi2 := hxin.sub p2 mf
   have hpi3 := hxin.sub p3 mf
   have hpi4 := hxin.sub p4 mf
   obtain ⟨p0a, p0b, p0c, p0d, p0bi, p0pb, p0it, p0pi, p0pk⟩ := p0
   obtain ⟨p1a, p1b, p1c, p1d, p1bi, p1pb, p1it, p1pi, p1pk⟩ := p1
   obtain ⟨p2a, p2b, p2c, p2d, p2bi, p2pb, p2it, p2pi, p2pk⟩ := p2
   obtain ⟨p3a, p3b, p3c, p3d, p3bi, p3pb, p3it, p3pi, p3pk⟩ := p3
   obtain ⟨p4a, p4b, p4c, p4d, p4bi, p4pb, p4it, p4pi, p4pk⟩ := p4
   obtain ⟨hq0, hq1, hq2, hq3⟩ : p1b = 0 ∧ p1c = 0 ∧ p1d = 0 ∧ YK p1a := hp1
   subst hq0 hq1 hq2
   obtain ⟨hz16, hzz⟩ := hp4
   change p4it.length ≤ 16 at hz16
   have hsz : Seg yL p4it.length (KC p4it) p4pi := ZJ hpi4
   change p0it.length = 20 at hp0; change p3it.length ≤ 512 at hp3
   have hba : W4.ok ⟨p2a, p2b, p2c, p2d⟩ := Jrd hpi2
   refine QZ 4 [1] rfl rfl (LR rfl (Jg (j := i) rfl hsY rfl rfl rfl rfl m0) (LR rfl (JR (off' := XO ypi + (i * 7 + 5)) rfl rfl (by show XO ypi + i * 7 + 5 = _; omega)) (LR rfl (Wa Vl.len (k := 5) (v := Ky 5 xpi) (fun q hq => .inl mb) rfl hsY hx rfl rfl) (kR ?_))))
   refine JJ [] [(0, .pure), (1, .pure), (4, .pure), (5, .pure), (6, .pure), (7, .pure), (9, .pure), (10, .pure), (11, .pure), (13, .pure), (14, .pure), (17, .pure), (18, .grow (V1 vv (.cells #[.string ⟨#[]⟩, .int .u64 0, .int .u64 0, .int .u64 0, .int .u64 0, .int .u64 0, .string ⟨#[]⟩, .slice none 0 0] 34 (0, 0))))] 19 [0, 1, 2, 3, 4, 5, 6, 7, 8, 9, 10, 11, 12, 13, 14, 15, 16, 17, 18] m5 m5 m6 (Nn ?_); refine Ji (k := 1) rfl rfl rfl rfl rfl (fun _ _ => Jg (j := 0) rfl hsx rfl rfl rfl rfl mm) (KG (k := 2) rfl rfl rfl rfl rfl (Qe (fun q hq => .inl mb) rfl hsx rfl rfl rfl) (KR (k := 3) (Rl := yL) rfl rfl rfl rfl rfl Js1 (wk hpi0 Mu) (fun q hq => .inl mb) (Dr ?_))); refine Ji (k := 5) rfl rfl rfl rfl rfl (fun _ _ => Jg (j := 1) rfl hsx rfl rfl rfl rfl mm) (Ji (k := 6) rfl rfl rfl rfl rfl (fun _ _ => JR (off' := XO xpi + 7) rfl rfl (by show XO xpi + 1 * 7 + 0 = _; omega)) (Ji (k := 7) rfl rfl rfl rfl rfl (fun _ _ => JN (off' := XO xpi + 7) (m := 1) (j := 0) rfl rfl rfl rfl rfl m7 m0) (KG (k := 8) rfl rfl rfl rfl rfl (X8 (j := 7) (v := uV p1a) (fun q hq => .inl mb) rfl hsx (Nat.le_of_ble_eq_true rfl) rfl rfl) (Ji (k := 9) rfl rfl rfl rfl rfl (fun _ hS => (Jf rfl)) (Ji (k := 10) rfl rfl rfl rfl rfl (fun _ _ => Jg (j := 2) rfl hsx rfl rfl rfl rfl mm) (Ji (k := 11) rfl rfl rfl rfl rfl (fun _ _ => JR (off' := XO xpi + 14) rfl rfl (by show XO xpi + 2 * 7 + 0 = _; omega)) (KG (k := 12) rfl rfl rfl rfl rfl (WA (j := 14) (vs := [uV p2a, uV p2b, uV p2c, uV p2d]) (fun q hq => .inl mb) rfl hsx (Nat.le_of_ble_eq_true rfl) rfl rfl rfl rfl) (Ji (k := 13) rfl rfl rfl rfl rfl (fun _ hS => (Jf rfl)) (Ji (k := 14) rfl rfl rfl rfl rfl (fun _ _ => Jg (j := 3) rfl hsx rfl rfl rfl rfl mm) (KG (k := 15) rfl rfl rfl rfl rfl (Qe (fun q hq => .inl mb) rfl hsx rfl rfl rfl) (KR (k := 16) (Rl := yL) rfl rfl rfl rfl rfl Js1 (wk hpi3 Mv) (fun q hq => .inl mb) (Ji (k := 17) rfl rfl rfl rfl rfl (fun _ hS => (Js (r := [_, _, _, _, _, _, _, _]) rfl rfl)) (Wt (k := 18) (cs := #[_, _, _, _, _, _, _, _]) rfl rfl rfl rfl rfl rfl fun r4 => Kk ?_)))))))))))))
   refine Nm ?_; refine HW ?_; refine Jy (σ := Nat × Vg) (fun q => q.1 ≤ p4it.length ∧ rowOk 2 q.1 (jq ((p4it.take q.1).map Wd)) q.2) (fun q => [(2, QR r1), (4, QR r2), (6, QR r3), (7, .int .i64 (i : Int)), (8, Ky 5 xpi), (9, QR r4), (10, .int .i64 (q.1 : Int))]) (fun q => (r4, .cells #[Jw (WO (.mk p0a p0b p0c p0d p0bi p0pb p0it p0pi p0pk)), uV p1a, uV p2a, uV p2b, uV p2c, uV p2d, Jw (WO (.mk p3a p3b p3c p3d p3bi p3pb p3it p3pi p3pk)), J3 q.1 q.2] 34 (0, 0)) :: (r3, .cells #[J3 i row] 24 (0, 0)) :: (r2, .cells #[uV ya, uV yb, uV yc, uV yd, Ky ybits.length ypb, Ky yitems.length ypi, .int .i64 ypick] 81 (0, 0)) :: (r1, .cells #[.slice none 0 0] 24 (0, 0)) :: (JL 59 (jq ((p4it.take q.1).map Wd)) q.2 ++ (JL 34 (Xn acs) row ++ (E ++ yL)))) (fun _ _ _ => True) (fun q => p4it.length - q.1) (0, none) ⟨Nat.zero_le _, ⟨rfl, rfl⟩⟩ (lK rfl) (by simp only [JL, List.nil_append]; exact List.Sublist.refl _) (fun _ _ h => h) ?_; rintro ⟨j, rw2⟩ ⟨hj1, hrow2⟩; simp only at hj1 hrow2; refine kS ?_; refine NN ?_; refine LR rfl (Jq rfl hsz rfl) (NR ?_); refine cD (fun g => ?_) fun g => ?_
   ·refine kX ?_
    obtain ⟨z, hz, hzm⟩ := Q0 (show j < p4it.length by omega)
    obtain ⟨k0, k1, hzi, hk0, hk1⟩ := hzz z hzm
    obtain ⟨za, zb, zc, zd, zbits, zpb, zitems, zpi, zpick⟩ := z
    change zitems = _ at hzi; subst hzi
    have hzin : Vl.In yL _ := hpi4.sub _ hzm
    have hsq : Seg yL _ (KC _) zpi := ZJ hzin
    have hki0 := hzin.sub k0 mf
    have hki1 := hzin.sub k1 mf
    refine Nw ?_; refine NN ?_; refine QK rfl (LR rfl (Jg (j := j) rfl hsz rfl rfl rfl rfl m0) ?_); refine LR rfl (JR (off' := XO p4pi + (j * 7 + 5)) rfl rfl (by show XO p4pi + j * 7 + 5 = _; omega)) (LR rfl (Wa Vl.len (k := 5) (v := Ky 2 zpi) (fun q hq => .inl mb) rfl hsz hz rfl rfl) (NR ?_))
    refine JJ [(r4, .cells #[Jw (WO (.mk p0a p0b p0c p0d p0bi p0pb p0it p0pi p0pk)), uV p1a, uV p2a, uV p2b, uV p2c, uV p2d, Jw (WO (.mk p3a p3b p3c p3d p3bi p3pb p3it p3pi p3pk)), J3 j rw2] 34 (0, 0))] [(0, .pure), (1, .pure), (2, .pure), (3, .pure), (6, .pure), (7, .pure), (10, .pure), (11, .grow (V1 (slV 1) (.cells #[Jw (WO k0), Jw (WO k1)] 59 (0, 0))))] 12 [0, 1, 2, 3, 4, 5, 6, 7, 8, 9, 10, 11] m5 m5 m6 ?_
    refine N6 ?_; refine gW ?_; refine Ji (k := 3) rfl rfl rfl rfl rfl (fun _ _ => Jg (j := 0) rfl hsq rfl rfl rfl rfl mm) (KG (k := 4) rfl rfl rfl rfl rfl (Qe (fun q hq => .inl mb) rfl hsq rfl rfl rfl) (KR (k := 5) (Rl := yL) rfl rfl rfl rfl rfl Js1 (wk hki0 Mw) (fun q hq => .inl mb) (GM ?_))); refine Ji (k := 7) rfl rfl rfl rfl rfl (fun _ _ => Jg (j := 1) rfl hsq rfl rfl rfl rfl mm) (KG (k := 8) rfl rfl rfl rfl rfl (Qe (fun q hq => .inl mb) rfl hsq rfl rfl rfl) (KR (k := 9) (Rl := yL) rfl rfl rfl rfl rfl Js1 (wk hki1 Mw) (fun q hq => .inl mb) (Ji (k := 10) rfl rfl rfl rfl rfl (fun _ hS => (Js (r := [_, _]) rfl rfl)) (Vb (k := 11) (n := 1) (sz := 2) (vs := [_]) (zs := [_, _]) (r := [Jw (WO k0), Jw (WO k1)]) rfl rfl rfl rfl rfl rfl rfl rfl rfl rfl rfl mn rfl fun rc => Kk (JY (qV (M := [_, _, _, _, _]) ..) (JF (L0 := _) (xs := jq ((p4it.take j).map Wd)) (row := rw2) (n := j) (sz := 2) (b := 32) (news := [_, _]) (List.Perm.refl _) rfl rfl rfl rfl (kn 0 rfl) rfl rfl rfl rfl rfl m7 rfl rfl rfl m7 hrow2 m0 m0 fun ra cap sp hra => ?_))))))
    refine LS 1 [] rfl rfl (Kt (k := 2) (cs' := #[Jw (WO (.mk p0a p0b p0c p0d p0bi p0pb p0it p0pi p0pk)), uV p1a, uV p2a, uV p2b, uV p2c, uV p2d, Jw (WO (.mk p3a p3b p3c p3d p3bi p3pb p3it p3pi p3pk)), J3 (j + 1) (some (ra, cap, sp))]) rfl rfl rfl rfl rfl rfl rfl rfl rfl rfl (Gc ?_)); refine Jk mJ (Dy ?_); rw [Je4 hz rfl] at hra ⊢; refine VI (Jrk (P := [_]) (M := [_, _, _, _]) ..) ?_; exact Jr (j + 1, some (ra, cap, sp)) ⟨by simp only; omega, hra⟩ ml (lK rfl) (.cons _ (List.Sublist.refl _)) (fun _ _ h => h)
   ·refine kX ?_
    obtain rfl : j = p4it.length := by omega
    rw [List.take_length] at hrow2 ⊢
    have hvr2 : J3 p4it.length rw2 = Ky (p4it.map Wd).length (QD rw2) := by rw [List.length_map]; exact (VE _ _ (fun h => by rw [h] at hrow2; exact hrow2.1)).symm
    rw [hvr2]; rw [show p4it.length = (p4it.map Wd).length by rw [List.length_map]] at hrow2; refine QZ 4 [1, 0] rfl rfl (J7 (vs := [_]) (zs := [_, _, _, _, _, _, _, _]) (r := [_, _, _, _, _, _, _, _]) rfl rfl rfl rfl rfl rfl rfl rfl rfl mn rfl fun r5 => JY (Jrj (M := [_, _, _, _, _]) ..) (JF (L0 := _) (xs := Xn acs) (row := row) (n := i) (sz := 8) (b := 96) (news := [_, _, _, _, _, _, _, _]) (List.Perm.refl _) rfl rfl rfl rfl (kn 0 rfl) rfl rfl rfl rfl rfl m7 rfl rfl rfl m7 hrow m0 m0 fun ra cap sp hra => ?_))
    refine HY ?_; refine Gc ?_; refine Nf ?_
    exact N9
  ·refine Nv ?_
   have hiM : i = yitems.length := by omega
   have hvl : acs.length = i := by have := congrArg List.length her; simp at this; omega
   rw [hiM, List.take_length] at her
   have hvr : J3 i row = Ky acs.length (QD row) := by rw [← hvl]; exact (VE _ _ (fun h => by rw [h] at hrow; rw [hvl]; exact hrow.1)).symm
   rw [hvr]; rw [← hvl] at hrow
   have hsin : StL.In (JL 34 (Xn acs) row ++ E) ⟨acs, QD row⟩ := Jrh hrow m0 hin
   have hck : Qi (StL.er ⟨acs, QD row⟩) = Qi (Y8 gv) := by show Qi (acs.map AcL.er) = _; rw [her, ← hby]
   refine H4 ?_; refine GN ?_
   refine Jb (Rl := JL 34 (Xn acs) row ++ E) rfl rfl rfl (enters_of Tryz.func13 m5 rfl) (Jq7 (s := ⟨acs, QD row⟩) hsin) (fun q hq => .inl nl) (Jk (congrArg (Value.int .i64) hck) ?_); generalize hcz : Qi (Y8 gv) = ck at *; refine JQ 10 rfl (cD (fun g => ?_) fun g => ?_)
   refine Nw ?_; exact kF
   ·exact NZ
def VV : BS := List.replicate 32 0
def ZK : BS := List.replicate 31 0 ++ [7]
def a0W : AcE := ⟨List.replicate 20 0, 1, ⟨5, 0, 0, 0⟩, [99], []⟩
def qx : AcE := ⟨List.replicate 20 0, 1, ⟨5, 0, 0, 0⟩, [99], [(VV, ZK)]⟩
theorem J0p : wI a0W VV ZK = (qx, 0) := by decide +kernel
theorem J0q : Jsi [] qx = ([qx], 0) := by decide +kernel
theorem Jzi : (Xj [qx]).2 = 0 ∧ (Xj [qx]).1.length = 137 := by decide +kernel
theorem J0r : Xj [] = ([], 0) := by decide +kernel
theorem J0s : VU (Xj [qx]).1 = ([qx], 0) := by decide +kernel
theorem J0t : wI qx VV VV = (a0W, 0) := by decide +kernel
theorem Jzj : Qr qx VV = ZK ∧ Qr a0W VV = VV := by decide +kernel
theorem Jx8 : Qi [qx] = 0 ∧ Qi [ac0] = 2 := by decide +kernel
theorem J0u : VN [qx] a0W.addr = some qx := by decide +kernel
theorem Jzk : V3 Qo (Yn []) = 0 ∧ V3 Qo (Yn [qx]) = 0 := by decide +kernel
def Q1 : BS := [173, 50, 40, 182, 118, 247, 211, 205, 66, 132, 165, 68, 63, 23, 241, 150, 43, 54, 228, 145, 179, 10, 64, 178, 64, 88, 73, 229, 151, 186, 95, 181]
def Q2 : BS := [180, 193, 25, 81, 149, 124, 111, 143, 100, 44, 74, 246, 28, 214, 178, 70, 64, 254, 198, 220, 127, 198, 7, 238, 130, 6, 169, 158, 146, 65, 13, 48]
def Q3 : BS := [33, 221, 185, 163, 86, 129, 92, 63, 172, 16, 38, 182, 222, 197, 223, 49, 36, 175, 186, 219, 72, 92, 155, 165, 163, 227, 57, 138, 4, 183, 186, 133]
def Q4 : BS := [229, 135, 105, 179, 42, 27, 234, 241, 234, 39, 55, 90, 68, 9, 90, 13, 31, 182, 100, 206, 45, 211, 88, 231, 252, 191, 183, 140, 38, 161, 147, 68]
def Q5 : BS := [14, 176, 30, 191, 201, 237, 39, 80, 12, 212, 223, 201, 121, 39, 45, 31, 9, 19, 204, 159, 102, 84, 13, 126, 128, 5, 129, 17, 9, 225, 207, 45]
def Q6 : BS := [96, 77, 89, 36, 103, 234, 171, 101, 127, 86, 19, 141, 165, 3, 154, 226, 46, 200, 192, 119, 115, 164, 178, 43, 215, 43, 143, 81, 243, 38, 157, 220]
def P99 : BS := [99, 0, 0, 0, 0, 0, 0, 0, 0, 0, 0, 0, 0, 0, 0, 0, 0, 0, 0, 0, 0, 0, 0, 0, 0, 0, 0, 0, 0, 0, 0, 0]
def PK : BS := [0, 0, 0, 0, 0, 0, 0, 0, 0, 0, 0, 0, 0, 0, 0, 0, 0, 0, 0, 0, 0, 0, 0, 0, 0, 0, 0, 0, 0, 0, 0, 0]
def PV : BS := [0, 0, 0, 0, 0, 0, 0, 0, 0, 0, 0, 0, 0, 0, 0, 0, 0, 0, 0, 0, 0, 0, 0, 0, 0, 0, 0, 0, 0, 0, 0, 7]
def PA : BS := [0, 0, 0, 0, 0, 0, 0, 0, 0, 0, 0, 0, 0, 0, 0, 0, 0, 0, 0, 0, 0, 0, 0, 0, 0, 0, 0, 0, 0, 0, 0, 0]
def PN : BS := [1, 0, 0, 0, 0, 0, 0, 0, 0, 0, 0, 0, 0, 0, 0, 0, 0, 0, 0, 0, 0, 0, 0, 0, 0, 0, 0, 0, 0, 0, 0, 0]
def PB : BS := [5, 0, 0, 0, 0, 0, 0, 0, 0, 0, 0, 0, 0, 0, 0, 0, 0, 0, 0, 0, 0, 0, 0, 0, 0, 0, 0, 0, 0, 0, 0, 0]
def Q7 : BS := [128, 254, 150, 100, 183, 3, 234, 100, 255, 5, 28, 105, 143, 172, 232, 125, 162, 79, 15, 193, 202, 27, 191, 186, 36, 126, 5, 43, 158, 34, 177, 205]
def Q8 : BS := [12, 143, 253, 230, 89, 92, 177, 101, 195, 65, 172, 208, 17, 208, 134, 148, 105, 130, 245, 12, 127, 155, 223, 118, 245, 87, 156, 192, 149, 130, 164, 20]
def Q9 : BS := [231, 246, 47, 82, 53, 130, 220, 255, 58, 248, 170, 101, 254, 92, 10, 94, 129, 224, 115, 51, 214, 167, 236, 16, 87, 100, 76, 60, 193, 22, 77, 189]
def Q10 : BS := [62, 120, 232, 158, 100, 195, 92, 170, 194, 97, 28, 191, 252, 174, 252, 159, 248, 79, 56, 159, 46, 150, 149, 73, 15, 76, 171, 79, 8, 134, 182, 49]
def Q11 : BS := [159, 191, 115, 214, 144, 225, 62, 161, 22, 15, 4, 77, 135, 125, 79, 179, 121, 216, 64, 99, 137, 162, 186, 191, 199, 253, 71, 153, 77, 133, 6, 62]
def Q12 : BS := [109, 82, 87, 32, 78, 190, 125, 136, 253, 145, 174, 135, 148, 28, 178, 221, 157, 128, 98, 182, 74, 229, 162, 189, 45, 40, 236, 64, 185, 251, 246, 223]
def Q13 : BS := [219, 84, 93, 126, 90, 22, 97, 214, 219, 12, 175, 14, 24, 35, 121, 19, 96, 147, 115, 67, 116, 140, 18, 143, 200, 28, 219, 18, 126, 175, 208, 40]
def Q14 : BS := [23, 242, 83, 39, 154, 106, 105, 48, 122, 17, 49, 169, 103, 30, 223, 237, 241, 103, 177, 103, 204, 94, 81, 103, 51, 252, 125, 148, 139, 186, 173, 45]
def Q15 : BS := [52, 223, 211, 179, 13, 160, 50, 23, 248, 175, 8, 3, 182, 4, 200, 151, 161, 119, 191, 139, 113, 79, 167, 155, 96, 200, 79, 82, 8, 239, 145, 74]
def Q16 : BS := [186, 37, 126, 111, 240, 170, 21, 181, 16, 119, 161, 166, 87, 169, 48, 133, 3, 137, 27, 65, 143, 247, 91, 85, 73, 120, 43, 235, 92, 122, 96, 239]
def Q17 : BS := [180, 173, 121, 44, 79, 132, 42, 240, 211, 151, 148, 221, 8, 138, 131, 255, 77, 30, 250, 106, 90, 143, 30, 18, 161, 252, 51, 238, 73, 69, 76, 177]
def Q18 : BS := [84, 232, 13, 242, 58, 159, 134, 25, 68, 76, 175, 139, 251, 62, 114, 226, 64, 114, 104, 255, 38, 198, 163, 22, 62, 224, 158, 73, 64, 114, 159, 201]
def Q19 : BS := [115, 202, 162, 40, 166, 138, 128, 42, 134, 248, 234, 146, 132, 24, 105, 205, 223, 138, 177, 25, 35, 114, 55, 117, 208, 134, 150, 85, 151, 188, 191, 229]
def Q20 : BS := [180, 10, 97, 218, 138, 109, 67, 207, 163, 113, 133, 201, 96, 160, 57, 16, 63, 175, 109, 127, 187, 77, 142, 232, 170, 181, 195, 67, 58, 55, 225, 169]
def Q21 : BS := [253, 23, 46, 35, 170, 157, 49, 24, 12, 247, 30, 169, 0, 87, 50, 185, 216, 5, 140, 215, 36, 182, 139, 203, 0, 33, 239, 230, 200, 70, 39, 49]
def Q22 : BS := [244, 78, 169, 243, 102, 83, 141, 100, 144, 182, 111, 119, 6, 61, 2, 212, 232, 28, 167, 44, 206, 184, 74, 212, 24, 116, 209, 86, 62, 76, 252, 225]
def Q23 : BS := [9, 105, 40, 196, 205, 136, 217, 62, 206, 76, 176, 220, 112, 142, 1, 36, 83, 196, 135, 68, 65, 28, 63, 234, 254, 89, 74, 34, 119, 48, 210, 228]
def Q24 : BS := [88, 211, 15, 198, 238, 204, 186, 245, 5, 111, 150, 205, 215, 28, 56, 16, 233, 35, 194, 185, 183, 143, 241, 68, 99, 169, 24, 34, 58, 107, 231, 130]
def Q25 : BS := [181, 114, 115, 158, 66, 182, 22, 134, 105, 251, 139, 3, 221, 144, 86, 197, 8, 77, 55, 53, 110, 249, 221, 86, 58, 43, 248, 36, 64, 34, 148, 171]
def Q26 : BS := [52, 127, 120, 91, 102, 123, 138, 53, 132, 85, 67, 94, 157, 185, 194, 118, 141, 49, 10, 26, 63, 78, 145, 197, 145, 212, 176, 30, 206, 94, 6, 183]
def Q27 : BS := [135, 195, 149, 32, 136, 174, 247, 12, 19, 129, 47, 222, 135, 39, 233, 95, 192, 198, 12, 79, 85, 128, 196, 204, 132, 162, 119, 43, 49, 122, 252, 83]
def Q28 : BS := [204, 113, 241, 227, 0, 55, 44, 218, 77, 42, 78, 41, 79, 110, 129, 142, 159, 90, 155, 61, 22, 163, 210, 15, 17, 201, 135, 63, 61, 32, 192, 95]
def Q29 : BS := [211, 5, 113, 100, 174, 43, 94, 143, 48, 107, 194, 22, 250, 134, 93, 174, 214, 17, 81, 90, 35, 252, 254, 108, 57, 144, 147, 130, 70, 243, 107, 235]
theorem hq1 : WZ (z32 ++ z32) = Q1 := by decide +kernel
theorem hq2 : WZ (Q1 ++ Q1) = Q2 := by decide +kernel
theorem hq3 : WZ (Q2 ++ Q2) = Q3 := by decide +kernel
theorem hq4 : WZ (Q3 ++ Q3) = Q4 := by decide +kernel
theorem hq5 : WZ (Q4 ++ Q4) = Q5 := by decide +kernel
theorem hq6 : Yk Q5 0 = Q6 := by decide +kernel
theorem hq7 : WZ (P99 ++ z32) = Q7 := by decide +kernel
theorem hq8 : WZ (Q7 ++ Q1) = Q8 := by decide +kernel
theorem hq9 : WZ (Q8 ++ Q2) = Q9 := by decide +kernel
theorem J00 : WZ (Q9 ++ Q3) = Q10 := by decide +kernel
theorem J01 : Yk Q10 1 = Q11 := by decide +kernel
theorem J02 : WZ (PK ++ PV) = Q12 := by decide +kernel
theorem J03 : WZ (Q12 ++ z32) = Q13 := by decide +kernel
theorem J04 : WZ (Q13 ++ Q1) = Q14 := by decide +kernel
theorem J05 : WZ (Q14 ++ Q2) = Q15 := by decide +kernel
theorem J06 : WZ (Q15 ++ Q3) = Q16 := by decide +kernel
theorem J07 : Yk Q16 1 = Q17 := by decide +kernel
theorem J08 : WZ (PA ++ PN) = Q18 := by decide +kernel
theorem J09 : WZ (PB ++ Q11) = Q19 := by decide +kernel
theorem J1a : WZ (Q17 ++ z32) = Q20 := by decide +kernel
theorem J1b : WZ (Q18 ++ Q19) = Q21 := by decide +kernel
theorem J1c : WZ (Q20 ++ Q1) = Q22 := by decide +kernel
theorem J1d : WZ (Q21 ++ Q22) = Q23 := by decide +kernel
theorem J1e : WZ (Q23 ++ z32) = Q24 := by decide +kernel
theorem J1f : WZ (Q24 ++ Q1) = Q25 := by decide +kernel
theorem J1g : WZ (Q25 ++ Q2) = Q26 := by decide +kernel
theorem J1h : WZ (Q26 ++ Q3) = Q27 := by decide +kernel
theorem J1i : WZ (Q27 ++ Q4) = Q28 := by decide +kernel
theorem J1j : Yk Q28 1 = Q29 := by decide +kernel
theorem YB (k : Nat) (a z : BS) : Wb (k + 1) [a] z = Wb k [WZ (a ++ z)] (WZ (z ++ z)) := rfl
theorem Je7 (k : Nat) (z : BS) : Wb (k + 1) [] z = Wb k [] (WZ (z ++ z)) := rfl
theorem Jv7 (k : Nat) (a b z : BS) : Wb (k + 1) [a, b] z = Wb k [WZ (a ++ b)] (WZ (z ++ z)) := by rw [Wb]; simp [QA, SL.pairUp]
theorem Jzl (k : Nat) (a b c z : BS) : Wb (k + 1) [a, b, c] z = Wb k [WZ (a ++ b), WZ (c ++ z)] (WZ (z ++ z)) := by rw [Wb]; simp [QA, SL.pairUp]
theorem Jzm (k : Nat) (a b c d e z : BS) : Wb (k + 1) [a, b, c, d, e] z = Wb k [WZ (a ++ b), WZ (c ++ d), WZ (e ++ z)] (WZ (z ++ z)) := by rw [Wb]; simp [QA, SL.pairUp]
theorem Je8 (a z : BS) : Wb 0 [a] z = a := rfl
theorem Jzn (z : BS) : Wb 0 [] z = z := rfl
theorem Jrm : KH (Yn []) Qo = Q6 := by
 have e1 : Vm [] 32 = Q5 := by
  rw [← YR m7, show lg 32 = 5 by decide +kernel, Je7, hq1, Je7, hq2, Je7, hq3, Je7, hq4, Je7, hq5, Jzn]
 unfold Yn KP Qo
 rw [WX, if_neg m7, if_pos rfl]
 unfold Xi
 rw [if_neg m7, if_neg MK]
 show Yk (Vm [] 32) 0 = _
 rw [e1, hq6]
theorem xw {l : List Vl} {n : Int} (hx : XJ x = false) : KH (KP l 0) (.mk 4 n none [x]) = Yk (Vm (Km l 4 0 [x] 0) n.toNat) l.length := by
 unfold KP
 rw [WX, if_neg m7, if_pos rfl]
 unfold Xi
 rw [if_neg m7, if_neg (by rw [show [x].getD 0 default = x from rfl, hx]; decide)]
theorem Je9 {l : List Vl} {ins : List Ty} : KH (KP l 0) (.mk 7 0 none ins) = Vm (Km l 7 0 ins 0) ins.length := by
 unfold KP
 rw [WX, if_neg m7, if_neg m7, if_neg m7, if_neg m7, if_neg m7]
 unfold Xi
 rw [if_pos rfl]
theorem Jlp : KH (yM [99]) (WY 4 512) = Q11 := by
 have e1 : Xi 4 512 [byT] [qm 99] (Km [qm 99] 4 0 [byT] 0) = Vm [P99] 16 := by
  unfold Xi
  rw [if_neg m7, if_pos MK, show YZ (Xo [qm 99] ([byT].getD 0 default)) = [P99] by decide +kernel, show ((512 : Int).toNat * (JO ([byT].getD 0 default)).toNat + 31) / 32 = 16 by decide +kernel]
 have e2 : Vm [P99] 16 = Q10 := by
  rw [← YR m7, show lg 16 = 4 by decide +kernel, YB, hq7, hq1, YB, hq8, hq2, YB, hq9, hq3, YB, J00, hq4, Je8]
 unfold yM KP WY
 rw [WX, if_neg m7, if_pos rfl]
 show Yk (Xi 4 512 [byT] [qm 99] (Km [qm 99] 4 0 [byT] 0)) 1 = _
 rw [e1, e2, J01]
theorem Jrn : KH (yM VV) (WY 3 32) = PK := by decide +kernel
theorem Jro : KH (yM ZK) (WY 3 32) = PV := by decide +kernel
theorem Jrp : KH (yM (List.replicate 20 0)) (WY 3 20) = PA := by decide +kernel
theorem Jlq : KH (qp (VV, ZK)) qR = Q12 := by
 unfold qp qR
 rw [Je9]
 show Vm [KH (yM VV) (WY 3 32), KH (yM ZK) (WY 3 32)] 2 = _
 rw [Jrn, Jro, ← YR m7, show lg 2 = 1 by decide +kernel, Jv7, J02, Je8]
theorem Jg2 : KH (KP [qp (VV, ZK)] 0) (.mk 4 16 none [qR]) = Q17 := by
 rw [xw MK]
 show Yk (Vm [KH (qp (VV, ZK)) qR] 16) 1 = _
 rw [Jlq, ← YR m7, show lg 16 = 4 by decide +kernel, YB, J03, hq1, YB, J04, hq2, YB, J05, hq3, YB, J06, hq4, Je8, J07]
theorem Ju7 : KH (acV qx) acT = Q23 := by
 unfold acV acT
 rw [Je9]
 show Vm [KH (yM (List.replicate 20 0)) (WY 3 20), KH (.mk 1 0 0 0 [] none [] none 0) (.mk 1 8 none []), KH (.mk 5 0 0 0 [] none [] none 0) (.mk 1 32 none []), KH (yM [99]) (WY 4 512), KH (KP [qp (VV, ZK)] 0) (.mk 4 16 none [qR])] 5 = _
 rw [Jrp, Jlp, Jg2, show KH (.mk 1 0 0 0 [] none [] none 0) (.mk 1 8 none []) = PN by decide +kernel, show KH (.mk 5 0 0 0 [] none [] none 0) (.mk 1 32 none []) = PB by decide +kernel, ← YR m7, show lg 5 = 3 by decide +kernel, Jzm, J08, J09, J1a, hq1, Jzl, J1b, J1c, hq2, Jv7, J1d, Je8]
theorem Jrq : KH (Yn [qx]) Qo = Q29 := by
 unfold Yn Qo
 rw [xw MK]
 show Yk (Vm [KH (acV qx) acT] 32) 1 = _
 rw [Ju7, ← YR m7, show lg 32 = 5 by decide +kernel, YB, J1e, hq1, YB, J1f, hq2, YB, J1g, hq3, YB, J1h, hq4, YB, J1i, hq5, Je8, J1j]
theorem J1k : qq [] = (Q6, 0) := by rw [Je2 MK Jzk.1, Jrm]
theorem J1l : qq [qx] = (Q29, 0) := by rw [Je2 Jx8.1 Jzk.2, Jrq]
theorem J1m : Q6 ≠ Q29 := by decide +kernel
def zk : BS := List.replicate 20 0
def a0L : AcL := ⟨zk, 1, ⟨5, 0, 0, 0⟩, [99], [], none⟩
theorem Jrr : a0L.In R := ⟨by decide, by unfold YK; decide, ⟨by unfold YK; decide, W3, W3, W3⟩, by decide, by decide, rfl, by simp [a0L]⟩
theorem qw {a b : Bool} (h : a = b) : Value.bool a = .bool b := congrArg _ h
theorem Jzo {a b : BS} (h : a ≠ b) : (!decide (a = b)) = true := by simp [h]
theorem Jrs {n : Nat} (h : s.length = n) : Value.int .i64 (s.length : Int) = .int .i64 (n : Int) := by rw [h]
theorem Ju8 (r : Nat) : StL.In [(r, Obj.cells ac0L.cells.toArray 34 (0, 0))] ⟨[ac0L], some (⟨r, 0, none⟩, 1)⟩ :=
 ⟨by show 1 ≤ Yj; decide, ⟨Nat.le_refl _, fun _ => ⟨rfl, _, _, _, List.mem_singleton_self _, rfl⟩⟩, fun a ha => by rw [List.mem_singleton.1 ha]; exact Jnb⟩
theorem J1n : wV (Yn [qx]) ≤ 20000 := by decide +kernel
set_option maxHeartbeats 2000000 in
theorem Jlr : Pure Tryz.prog 11 #[] (.bool true) := by
 have k1 : wI a0L.er VV ZK = (qx, 0) := J0p
 have k2 := J0q
 have k3 : VN [qx] zk = some qx := J0u
 have k4 := J1n
 have k5 := J0t
 have k6 := Jzj.1
 have k7 : Qr a0L.er VV = VV := Jzj.2
 have k8 := Jx8.1
 have k9 := Jx8.2
 have hB := show Xj [qx] = ((Xj [qx]).1, 0) from Prod.ext rfl Jzi.1
 have htl := Jzi.2
 have hP := J0s
 have hE := J0r
 generalize (Xj [qx]).1 = tb at hB htl hP
 have hR0 := J1k
 have hR1 := J1l
 have hne := J1m
 have hrl : Q29.length = 32 := by decide
 generalize Q6 = ra at hR0 hne
 generalize Q29 = rb at hR1 hne hrl
 refine J8 Tryz.func11 rfl rfl fun w => DI ?_; refine WJ (n := 32) (b := 1) rfl rfl rfl rfl rfl rfl rfl rfl rfl m7 m7 fun rk => ?_; rw [show List.replicate 32 (Value.int .u8 0) = (VV).map bV from rfl]; refine LR rfl (Qq (b := VV) (row := some (rk, 32, [])) (e := 5) (show _ = some (J3 (List.length VV) _) from rfl) ⟨rfl, rfl⟩ (fun p hp => .inl mE) rfl rfl rfl) (Gc ?_); refine LR rfl (KV (kl := some (.i64, 1)) (kh := none) (m := 1) (n := 32) rfl rfl rfl rfl rfl rfl m7 m7 (show _ = List.replicate 31 0 from rfl)) (LR rfl (VD (a := List.replicate 31 0) (b := [7]) rfl rfl m7) (Jk (show _ = Jw ZK from rfl) (ND ?_))); refine WJ (n := 20) (b := 1) rfl rfl rfl rfl rfl rfl rfl rfl rfl m7 m7 fun rz => ?_; rw [show List.replicate 20 (Value.int .u8 0) = (zk).map bV from rfl]; refine LR rfl (Qq (b := zk) (row := some (rz, 20, [])) (e := 5) (show _ = some (J3 (List.length zk) _) from rfl) ⟨rfl, rfl⟩ (fun p hp => .inl mE) rfl rfl rfl) (NS ?_); refine Nb ?_; refine LN rfl fun r1 => Ju (k := 0) (n := 8) (ys := (a0L).cells) rfl rfl rfl rfl rfl rfl rfl rfl rfl (GV ?_); refine LR rfl (Jm (xs := (a0L).cells) (n := 8) rfl (kn 0 rfl) rfl rfl rfl) (NC ?_); refine JW rfl rfl rfl (enters_of Tryz.func25 m5 rfl) (Jv4 (R := []) Jrr VV ZK) oN fun x => kZ ?_
 obtain ⟨xa, xe, xL, xok, xeq⟩ := x
 obtain ⟨hxa, rfl⟩ : xa.er = qx ∧ xe = 0 := by have := xeq.trans k1; exact Prod.mk.inj this
 have xok : xa.In xL := by simpa using xok
 change HL _ _ ((37, .tuple #[xa.val, .int .i64 0]) :: _) (_ :: _ :: _ :: xL) _ _ _ _; refine gw ?_; refine LN rfl fun r2 => Ju (k := 0) (n := 8) (ys := (xa).cells) rfl rfl rfl rfl rfl rfl rfl rfl rfl (ND ?_); refine Hh ?_; refine LR rfl (Jm (xs := (xa).cells) (n := 8) rfl (kn 0 rfl) rfl rfl rfl) (JW rfl rfl rfl (enters_of Tryz.func23 m5 rfl) (Jzh (R := xL) (s := st0L) jr xok) (fun q hq => .inl (by simp [hq])) fun y => JY (qV _ [_, _, _, _] xL) ?_)
 obtain ⟨ys, ye, yL, yok, yeq⟩ := y
 obtain ⟨hys, rfl⟩ : ys.er = [qx] ∧ ye = 0 := by have := yeq.trans ((congrArg (Jsi []) hxa).trans k2); exact Prod.mk.inj this
 change HL _ _ ((43, .tuple #[ys.val, .int .i64 0]) :: _) (_ :: _ :: _ :: _ :: (yL ++ xL)) _ _ _ _; refine gw ?_; refine LN rfl fun r3 => Ju (k := 0) (n := 1) (ys := (ys).cells) rfl rfl rfl rfl rfl rfl rfl rfl rfl (ND ?_); refine LR rfl (Jm (xs := (ys).cells) (n := 1) rfl (kn 0 rfl) rfl rfl rfl) (LS 2 [2] rfl rfl ?_)
 refine Jb rfl rfl rfl (enters_of Tryz.func14 m5 rfl) (Jx2 (R := yL ++ xL) yok zk) (fun q hq => .inl mt) ?_
 have hcf : Xf ys zk = true := by rw [Jnn, hys, k3]; rfl
 have hce : (Wv ys zk).er = qx := by rw [Jso, hys, k3]; rfl
 have hci := Jsp yok zk
 rw [hcf]
 generalize Wv ys zk = ca at hce hci ⊢
 refine gw ?_; refine LN rfl fun r4 => Ju (k := 0) (n := 8) (ys := (ca).cells) rfl rfl rfl rfl rfl rfl rfl rfl rfl (ND ?_); refine LR rfl (Jm (xs := (ys).cells) (n := 1) rfl (kn 1 rfl) rfl rfl rfl) ?_
 refine Jb rfl rfl rfl (enters_of Tryz.func27 m5 rfl) (xu (R := yL ++ xL) yok (fun _ => by rw [hys]; exact k4)) (fun q hq => .inl mt) (Jk ((congrArg jy (by rw [hys]; exact hB) : _ = jy (tb, 0))) (JK 10 rfl (JW rfl rfl rfl (enters_of Tryz.func31 m5 rfl) (xv tb) oN fun u => JY (qV _ [_, _, _, _, _, _] _) ?_)))
 obtain ⟨us, ue, uL, uok, ueq⟩ := u
 obtain ⟨hus, rfl⟩ : us.er = [qx] ∧ ue = 0 := by have := ueq.trans hP; exact Prod.mk.inj this
 have uok : us.In uL := by simpa using uok
 change HL _ _ ((60, .tuple #[us.val, .int .i64 0]) :: _) (_ :: _ :: _ :: _ :: _ :: _ :: (uL ++ (yL ++ xL))) _ _ _ _; refine gw ?_; refine LN rfl fun r5 => Ju (k := 0) (n := 1) (ys := (us).cells) rfl rfl rfl rfl rfl rfl rfl rfl rfl (ND ?_); refine Hh ?_; refine Jb rfl rfl rfl (enters_of Tryz.func27 m5 rfl) (xu (R := []) (s := st0L) jr (fun _ => by decide +kernel)) oN (Jk ((congrArg jy hE : _ = jy ([], 0))) (JK 9 rfl (LR rfl (Jm (xs := (xa).cells) (n := 8) rfl (kn 3 rfl) rfl rfl rfl) (NC ?_)))); refine JW rfl rfl rfl (enters_of Tryz.func25 m5 rfl) (Jv4 (R := xL) xok VV VV) (fun q hq => .inl (by simp [hq])) fun z => JY (qV _ [_, _, _, _, _, _, _] _) ?_
 obtain ⟨da, de, dL, dok, deq⟩ := z
 obtain ⟨hda, rfl⟩ : da.er = a0W ∧ de = 0 := by have := deq.trans ((congrArg (fun e => wI e VV VV) hxa).trans k5); exact Prod.mk.inj this
 change HL _ _ ((72, .tuple #[da.val, .int .i64 0]) :: _) (_ :: _ :: _ :: _ :: _ :: _ :: _ :: (dL ++ (uL ++ (yL ++ xL)))) _ _ _ _; refine gw ?_; refine LN rfl fun r6 => Ju (k := 0) (n := 8) (ys := (da).cells) rfl rfl rfl rfl rfl rfl rfl rfl rfl (ND ?_); refine HF ?_
 refine Jb rfl rfl rfl (enters_of Tryz.func29 m5 rfl) (Je3 (R := yL ++ xL) yok (fun _ => by rw [hys]; exact k4)) (fun q hq => .inl mt) (Jk ((congrArg jy (by rw [hys]; exact hR1) : _ = jy (rb, 0))) (JK 9 rfl (Hh ?_))); refine Jb rfl rfl rfl (enters_of Tryz.func29 m5 rfl) (Je3 (R := []) (s := st0L) jr (fun _ => by decide +kernel)) oN (Jk ((congrArg jy hR0 : _ = jy (ra, 0))) (JK 9 rfl (LR rfl (Jm (xs := (ca).cells) (n := 8) rfl (kn 2 rfl) rfl rfl rfl) (LR rfl (Jm (xs := (xa).cells) (n := 8) rfl (kn 4 rfl) rfl rfl rfl) ?_))))
 refine Jb rfl rfl rfl Jwt (j8 (R := yL ++ xL) hci (xok.mono fun q hq => List.mem_append_right _ hq)) (fun q hq => .inl mt) (Jk (qw (show decide (ca.er = xa.er) = true from decide_eq_true (hce.trans hxa.symm))) (ND ?_)); refine LR rfl (Jm (xs := (da).cells) (n := 8) rfl (kn 0 rfl) rfl rfl rfl) (LR rfl (Jm (xs := (a0L).cells) (n := 8) rfl (kn 5 rfl) rfl rfl rfl) ?_)
 refine Jb rfl rfl rfl Jwt (j8 (R := dL ++ xL) dok (b := a0L) Jrr) (fun q hq => .inl mt) (Jk (qw (show decide (da.er = a0L.er) = true from decide_eq_true (hda.trans rfl))) (JK 18 rfl (LR rfl (Jm (xs := (ca).cells) (n := 8) rfl (kn 2 rfl) rfl rfl rfl) (QK rfl ?_))))
 refine Jb rfl rfl rfl (enters_of Tryz.func20 m5 rfl) (Jqx (R := yL ++ xL) hci VV) (fun q hq => .inl mt) (Jk (congrArg Jw (show Qr ca.er VV = ZK by rw [hce]; exact k6)) (QK rfl (LR rfl (Vc (a := ZK) (b := ZK) rfl rfl) (Jk (qw (show decide (ZK = ZK) = true from decide_eq_true rfl)) ?_)))); refine NC ?_; refine LR rfl (Jm (xs := (a0L).cells) (n := 8) rfl (kn 5 rfl) rfl rfl rfl) (QK rfl (Jb rfl rfl rfl (enters_of Tryz.func20 m5 rfl) (Jqx (R := []) (a := a0L) Jrr VV) oN (Jk (congrArg Jw (show Qr a0L.er VV = VV from k7)) ?_))); refine QK rfl (LR rfl (Vc (a := VV) (b := VV) rfl rfl) (Jk (qw (show decide (VV = VV) = true from decide_eq_true rfl)) ?_)); refine gw ?_; refine LR rfl (wu rfl rfl rfl) (Jk (show _ = Value.int .i64 137 from Jrs htl) (LS 7 [] rfl rfl (HF ?_))); refine LR rfl (Jm (xs := (us).cells) (n := 1) rfl (kn 1 rfl) rfl rfl rfl) ?_
 refine Jb rfl rfl rfl (enters_of Tryz.func21 m5 rfl) (Jq1 (R := uL ++ (yL ++ xL)) (yok.mono fun q hq => List.mem_append_right _ hq) (uok.mono fun q hq => List.mem_append_left _ hq)) (fun q hq => .inl (by simp only [List.mem_append] at hq; rcases hq with h | h | h <;> simp [h])) ?_; refine Jk (qw (show decide (ys.er = us.er) = true from decide_eq_true (hys.trans hus.symm))) ?_; refine LS 7 [] rfl rfl ?_; refine LR rfl (Vc (a := ([] : BS)) (b := ([] : BS)) rfl rfl) ?_; refine Jk (qw (show decide (([] : BS) = ([] : BS)) = true from decide_eq_true rfl)) ?_; refine LS 14 [] rfl rfl ?_; refine LR rfl (wu rfl rfl rfl) ?_; refine Jk (show _ = Value.int .i64 32 from Jrs hrl) ?_; refine LS 9 [] rfl rfl ?_; refine LR rfl (ZL (a := ra) (b := rb) rfl rfl) ?_; refine Jk (qw (Jzo hne)) ?_; refine LS 6 [] rfl rfl ?_; refine HF ?_
 refine Jb rfl rfl rfl Jkv (Xy (R := yL ++ xL) yok) (fun q hq => .inl mt) (Jk (congrArg (Value.int .i64) (show Qi ys.er = 0 by rw [hys]; exact k8)) (gw ?_)); refine Nb ?_; refine J7 (vs := [_]) (zs := [_, _, _, _, _, _, _, _]) (r := ac0L.cells) rfl rfl rfl rfl rfl rfl rfl rfl rfl mn rfl fun rx => Hh ?_; refine Jb (Rl := [(rx, _)]) rfl rfl rfl Jkv (Xy (s := ⟨[ac0L], some (⟨rx, 0, none⟩, 1)⟩) (Ju8 rx)) (fun q hq => .inl na) (Jk (congrArg (Value.int .i64) (show Qi [ac0] = 2 from k9)) (Jz 6 rfl ?_)); exact Nc
end Go.Proofs.YteceenlfegnigaaGreatDoor
