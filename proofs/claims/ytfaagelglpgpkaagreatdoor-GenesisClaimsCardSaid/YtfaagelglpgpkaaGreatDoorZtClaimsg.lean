import Derived.Test.YtfaagelglpgpkaaGreatDoorZtClaimsf
import Derived.Test.YtfaagelglpgpkaaGreatDoorProg
import Derived.Shelf.SlGeneric
import Derived.Shelf.SlSortCmp.WholeK
import Derived.Ground.SlsfProg
set_option maxRecDepth 100000
namespace Go.Proofs.YtfaagelglpgpkaaGreatDoor
set_option linter.all false
open Go.SL Go.RowKit Go.Shelf
variable {af : Array Edge} {args : Array Operand} {at_ : Array TypeId} {root rt : BS} {rs : Bool} {g : FuncId} {f : Int} {E E' L0 R Rl : Jx} {kv : List (Value × Value)} {accts xs : List AcL} {l' : List Bool} {a ts : List Nat} {caps sp vs : List Value} {α : Type} {ys : List α} {b b1 b2 blk c cap d e e1 e2 i j m o off rb rv sz : Nat} {fr : Nat × Nat} {x y : Operand} {gd : Option (Nat × Bool)} {P : Program} {row : QC} {r rc : Rec} {s : StL} {ps : String} {t x0 : Ty} {ty : TypeId} {z : Value} {q v : Vl} {w : World} {X : XP} {LL : α → Jx} {V : α → Value}
theorem Jbj {c : Cx} {l : KQ} {d : List Deferred} {ops : Array Oper} {rest : List Nat} {k : Nat} {tb : jX} {S : Jx} {T : Jx → Act → Prop} {t : TypeId} {q r n : Nat} {cs cs' : Array Value} {vs : Array Value} {e : TypeId} (hko : X7 ops.toList k = some ⟨none, .store t x y, ty, ps, af, gd⟩) (hg : Kz l ops ⟨none, .store t x y, ty, ps, af, gd⟩ = some true) (hA : tb k = .turn)
  (hx : Kx l x = some (.pointer (some ⟨r, off, none⟩))) (hk : E[q]? = some (r, .cells cs e (0, 0))) (hy : Kx l y = some (.agg vs)) (ht : Qg c.P t = some n) (hn : vs.size = n) (ho : vs.toList.all QE = true) (hc : off + n ≤ cs.size)
  (hcs : (cs.toList.take off ++ vs.toList ++ cs.toList.drop (off + n)).toArray = cs') (hL : E.set q (r, .cells cs' e (0, 0)) = E') (hS : SubS S E')
  (h : HB c d l E' X S ops tb rest T) : HB c d l E X S ops tb (k :: rest) T :=
 qw hko hg rfl hA (fun a w hf hs => ⟨w.setRow r cs', by
  simp only [execOp]; rw [hf.eval hx, hf.eval hy]
  have h1 := run_storeCells_at (P := c.P) r off e vs.toList 0 cs w (hs.get hk) (by simp [hn]; omega) (fun u hu => by rw [X8]; exact List.all_eq_true.1 ho u hu)
  simp only [Nat.add_zero, Array.length_toList, hn] at h1; rw [hcs] at h1
  simp [Instr.storeAt, Instr.sureAddr, Sem.run_bind, Result.andThen, storeVar, Vy ht, Value.cells, hn, h1], by
  subst hL
  exact hs.set hk (Keep.setRow r cs') (setRow_heap _ _ _ _ _ _ (hs.get hk))⟩) hS h
theorem Jhn (h : j < 7) : X7 keysC.toArray.toList j = some (uV (W0 j)) := by
 have : j = 0 ∨ j = 1 ∨ j = 2 ∨ j = 3 ∨ j = 4 ∨ j = 5 ∨ j = 6 := by omega
 rcases this with rfl | rfl | rfl | rfl | rfl | rfl | rfl <;> rfl
set_option maxHeartbeats 1000000 in
theorem Jvl (hi2 : i < 2) {a : AcL} (ha : a.In R) (hr : r.ok) : PureT (α := AcRes R (V0 f i (AcL.er { a with addr := QL i }) r)) Tryz.prog 86 [.int .i64 f, .int .i64 (i : Int), a.val, r.val].toArray (fun x => x.val) [] (fun x => x.L) R := by
 obtain ⟨b0, hb0⟩ : ∃ b : AcL, b = { a with addr := QL i, code := (Qf f i).1 } := ⟨_, rfl⟩
 have hcl : (Qf f i).1.length ≤ 512 := by
  unfold Qf
  (repeat' split) <;> decide
 have hb : b0.In R := hb0 ▸ Jm1 (Jm2 ha (Jf0 i)) hcl
 obtain ⟨rows, hrows⟩ : ∃ rows, rows = wm f r := ⟨_, rfl⟩
 have hdr : ∀ j, j < 7 → rows.drop j = (WX (W0 j), (Yi f r j).2) :: rows.drop (j + 1) := fun j hj => by rw [hrows, ← Juz]; exact map_drop _ hj
 have hd7 : rows.drop 7 = [] := by rw [hrows]; rfl
 have hcd : V0 f i (AcL.er { a with addr := QL i }) r = if (i : Int) = 1 then (b0.er, 0) else Q3 b0.er rows := by
  subst hb0 hrows
  unfold V0
  by_cases h1 : (i : Int) = 1
  rw [if_pos h1, if_pos h1]
  rw [show i = 1 by omega]; rfl
  rw [if_neg h1, if_neg h1]; rfl
 rw [hcd]; clear hrows hcd; refine J4 Tryz.func86 O O fun w => NH ?_; refine FG fun ra => ?_; refine JX (cs := r.cells.toArray) O O O O fun rr => LN O fun r1 => gY ?_; refine Jn O O O (enters_of Tryz.func85 m6 O) (Jm5 f i) (JH 10 O (Jn O O O J1z (Jm4 i) ?_))
 refine LS 1 [] O O (Ko (k := 2) (cs' := (AcL.cells { a with addr := QL i }).toArray) rfl rfl rfl rfl rfl rfl rfl rfl rfl rfl (Gu ?_)); refine Ko (k := 2) (cs' := b0.cells.toArray) O O O O O O O O (by rw [hb0]; rfl) rfl (H2 ?_); refine cD (fun g => ?_) fun g => ?_
 refine kE ?_; refine LR O (Jd (xs := b0.cells) (n := 8) O (kn 2 O) O O O) (Jj (k := 0) (n := 8) (ys := (b0).cells) O O O O O O O O O (gy ?_)); refine Nu fun w1 hs1 => ?_
 (rw [if_pos m5]
  exact ⟨⟨b0, 0, [], hb, rfl⟩, rfl, hs1.weakL (List.nil_sublist _)⟩)
 ·refine gZ ?_; refine Kj O O O (enters_of Tryz.func133 m6 O) Jzt fun rk => Ht ?_; refine Vz [3, 2, 1, 0] (L' := [_, _, _, _]) m7 O (Jw (σ := Nat × AcSt R) (fun q => q.1 ≤ 7 ∧ Q3 b0.er rows = Q3 q.2.a.er (rows.drop q.1)) (fun q => [(0, .int .i64 f), (6, Q4 ra 0), (7, Q4 rr 0), (8, Q4 r1 0), (9, .int .i64 0), (12, .slice (some ⟨rk, 0, none⟩) 7 7), (13, .int .i64 (q.1 : Int))]) (fun q => (ra, .cells q.2.a.cells.toArray 48 (0, 0)) :: (rr, .cells r.cells.toArray 29 (0, 0)) :: (r1, .cells ac0L.cells.toArray 48 (0, 0)) :: (rk, .cells keysC.toArray 25 (0, 0)) :: q.2.L) (fun _ _ _ => True) (fun q => 7 - q.1) (0, ⟨b0, [], hb⟩) ⟨Nat.zero_le _, rfl⟩ (lK O) (List.Sublist.refl _) (fun _ _ h => h) ?_); rintro ⟨j, s⟩ ⟨hj7, hinv⟩; simp only at hj7 hinv; change HC _ _ [(0, _), (6, _), (7, _), (8, _), (9, _), (12, _), (13, .int .i64 (j : Int))] ((ra, .cells s.a.cells.toArray _ (0, 0)) :: (rr, _) :: (r1, _) :: (rk, _) :: s.L) _ _ _; refine EV ?_; refine ki ?_; refine cD (fun g => ?_) fun g => ?_
  ·refine gk ?_
   have hj : j < 7 := by omega
   rw [hdr j hj, qD] at hinv; refine HY ?_; refine Jn O O O Jr0 Jd0 (gY ?_); refine Jn O O O (enters_of Tryz.func134 m6 O) (J2t f hj) (H2 ?_); refine cD (fun g => ?_) fun g => ?_
   ·refine kE ?_; refine EC ?_; refine Jn O O O (enters_of Tryz.func135 m6 O) (Jvk hr hj) (Jq (congrArg J5 (Jm0 (f := f) m9)) (Gb ?_))
    first | rw [Jjp (f := f) (r := r) (i := j) m9] | skip
    refine gR fun x => ?_; refine VZ (k := 11) (cs := #[_, _, _, _, _, _, _, _]) O O O O O O fun r2 => kX ?_
    have hx := x.eq
    have hxe : (VP s.a.er (WX (W0 j)) (Yi f r j).2).2 = x.err := (congrArg Prod.snd hx).symm
    have hxa : (VP s.a.er (WX (W0 j)) (Yi f r j).2).1 = x.a.er := (congrArg Prod.fst hx).symm
    refine gk ?_; refine cD (fun g => ?_) fun g => ?_
    refine Gp fun w1 hs1 => ?_
    (have he : Q3 b0.er rows = (s.a.er, x.err) := by
      exact Fv
     rw [if_neg m5, he]
     exact ⟨⟨s.a, x.err, s.L, s.ok, rfl⟩, rfl, hs1.weakL (.cons _ (.cons _ (.cons _ (.cons _ (.cons _ (List.sublist_append_right _ _))))))⟩)
    ·exact gH
   ·refine GU ?_
    first | rw [Jjp (f := f) (r := r) (i := j) m9] | skip
    refine gR fun x => ?_; refine VZ (k := 11) (cs := #[_, _, _, _, _, _, _, _]) O O O O O O fun r3 => kX ?_
    have hx := x.eq
    have hxe : (VP s.a.er (WX (W0 j)) (Yi f r j).2).2 = x.err := (congrArg Prod.snd hx).symm
    have hxa : (VP s.a.er (WX (W0 j)) (Yi f r j).2).1 = x.a.er := (congrArg Prod.fst hx).symm
    refine gk ?_; refine cD (fun g => ?_) fun g => ?_
    refine Gp fun w1 hs1 => ?_
    (have he : Q3 b0.er rows = (s.a.er, x.err) := by
      exact Fv
     rw [if_neg m5, he]
     exact ⟨⟨s.a, x.err, s.L, s.ok, rfl⟩, rfl, hs1.weakL (.cons _ (.cons _ (.cons _ (.cons _ (.cons _ (List.sublist_append_right _ _))))))⟩)
    ·exact gH
  ·refine Jt 7 O (LR O (Jd (xs := s.a.cells) (n := 8) O (kn 0 O) O O O) (Jj (k := 2) (n := 8) (ys := (s.a).cells) O O O O O O O O O (gM ?_))); refine Jf O O (.cons (Js (vs := [_, _, _, _, _, _, _, _]) O (kn 2 O) O O) (.cons (Jh O) .nil)) (fun w1 hs1 => ?_)
   (obtain rfl : j = 7 := by omega
    rw [if_neg m5, hinv, hd7]
    exact ⟨⟨s.a, 0, s.L, s.ok, rfl⟩, rfl, hs1.weakL (.cons _ (.cons _ (.cons _ (.cons _ (List.Sublist.refl _)))))⟩)
set_option maxHeartbeats 1000000 in
theorem Jvm (f : Int) (hs : s.In R) (hr : r.ok) : PureT (α := StRes R (QP f s.er r)) Tryz.prog 34 [.int .i64 f, s.val, r.val].toArray (fun x => x.val) [] (fun x => x.L) R := by
 have hc := YO hs
 obtain ⟨res, hres⟩ : ∃ res, res = Zh f s.er fun w a => V0 f w a r := ⟨_, rfl⟩
 have hwr : QP f s.er r = if Wd f r ≠ 0 then (s.er, Wd f r) else if KP s.er ≠ 0 then (s.er, KP s.er) else res := by rw [hres]; rfl
 rw [hwr]; refine J4 Tryz.func34 O O fun w => NH ?_; refine JX (cs := s.cells.toArray) O O O O fun rb => JX (cs := r.cells.toArray) O O O O fun rr => LN O fun r1 => Gu ?_; refine EC ?_; refine Jn O O O (enters_of Tryz.func84 m6 O) (Jzs f r) (Ht ?_); refine cD (fun g => ?_) fun g => ?_
 refine gJ ?_; exact DC
 ·refine gZ ?_; refine EG ?_; refine Ji O O O Joj hc oR (Ht ?_); refine cD (fun g => ?_) fun g => ?_
  refine gJ ?_; refine NR fun w1 hs1 => ?_; rw [if_neg m5, if_pos m5]; exact GH
  ·refine gZ ?_; refine EG ?_; refine LN O fun r2 => Jj (k := 0) (n := 1) (ys := s.cells) O O O O O O O O O (H2 ?_)
   have hrs2 : VK f s.er (fun w a => V0 f w a r) (([0, 1] : List Int).drop 0) s.er = res := hres.symm
   refine Vz [0, 3, 2, 1] (L' := [_, _, _, _]) m7 O (Jw (σ := Nat × StSt R) (fun q => q.1 ≤ 2 ∧ VK f s.er (fun w a => V0 f w a r) (([0, 1] : List Int).drop q.1) q.2.s.er = res) (fun q => [(0, .int .i64 f), (4, Q4 rb 0), (5, Q4 rr 0), (6, Q4 r1 0), (7, .int .i64 0), (10, Q4 r2 0), (11, .int .i64 (q.1 : Int))]) (fun q => (r2, .cells q.2.s.cells.toArray 36 (0, 0)) :: (rb, .cells s.cells.toArray 36 (0, 0)) :: (rr, .cells r.cells.toArray 29 (0, 0)) :: (r1, .cells st0L.cells.toArray 36 (0, 0)) :: q.2.L) (fun _ _ _ => True) (fun q => 2 - q.1) (0, ⟨s, [], hs⟩) ⟨Nat.zero_le _, hrs2⟩ (lK O) (List.Sublist.refl _) (fun _ _ h => h) ?_); rintro ⟨i, t⟩ ⟨hi2, hinv⟩; simp only at hi2 hinv; change HC _ _ [(0, _), (4, _), (5, _), (6, _), (7, _), (10, _), (11, .int .i64 (i : Int))] ((r2, .cells t.s.cells.toArray _ (0, 0)) :: (rb, _) :: (rr, _) :: (r1, _) :: t.L) _ _ _; refine Dk ?_; refine cD (fun g => ?_) fun g => ?_
   ·refine gk ?_
    have hi : i < 2 := by omega
    rw [wp hi, qE] at hinv; refine Gy ?_; refine Jn O O O (enters_of Tryz.func85 m6 O) (Jm5 f i) (JN 14 O (cD (fun g => ?_) fun g => ?_))
    refine Jt 7 O (Nk ?_)
    (rw [if_pos (by simp_all)] at hinv
     exact Jo (i + 1, t) ⟨by simp only; omega, hinv⟩ mh (lK rfl) (List.Sublist.refl _) (fun _ _ h => h))
    ·refine GU ?_; rw [if_neg (by simp_all)] at hinv
     refine g9 ?_; refine Qq (k := 2) O O O O O J1z (Jm4 i) (JW (k := 3) O O O O O J1y (Jd1 t.ok (QL i)) (fun q hq => (List.mem_append.1 hq).elim (fun h => Or.inl (List.mem_cons_of_mem _ (List.mem_cons_of_mem _ (List.mem_cons_of_mem _ (List.mem_cons_of_mem _ h))))) Or.inr) (Hh fun r3 => ?_)); refine Ka (Gu ?_); refine LR O (Jd (xs := (Q5 t.s (QL i)).cells) (n := 8) O (kn 0 O) O O O) (LR O (Jd (xs := r.cells) (n := 17) O (kn 3 O) O O O) (Kn O O O (enters_of Tryz.func86 m6 O) (Jvl (f := f) hi (jr t.ok (QL i)) hr) (fun q hq => (List.mem_append.1 hq).elim (fun h => Or.inl (List.mem_cons_of_mem _ (List.mem_cons_of_mem _ (List.mem_cons_of_mem _ (List.mem_cons_of_mem _ (List.mem_cons_of_mem _ h)))))) Or.inr) fun x => Kv (QX x.L [_, _, _, _, _] t.L) ?_)); change HL _ _ ((58, .tuple #[x.a.val, .int .i64 x.err]) :: _) ((r3, _) :: (r2, _) :: (rb, _) :: (rr, _) :: (r1, _) :: (x.L ++ t.L)) _ _ _ _
     have hxe : (V0 f i (Vi t.s.er i) r).2 = x.err := by rw [← Jc1]; exact (congrArg Prod.snd x.eq).symm
     have hxa : (V0 f i (Vi t.s.er i) r).1 = x.a.er := by rw [← Jc1]; exact (congrArg Prod.fst x.eq).symm
     simp only [hxe, hxa] at hinv; refine HO ?_; refine LN O fun r4 => Jj (k := 0) (n := 8) (ys := (x.a).cells) O O O O O O O O O (Ht ?_); refine cD (fun g => ?_) fun g => ?_
     refine kE ?_; refine EH ?_; refine Q1 O (Jj (k := 5) (n := 1) (ys := s.cells) O O O O O O O O O (J1 10 O ?_)); refine Jf O O (.cons (Js (vs := [_]) O (kn 5 O) O O) (.cons (Jh O) .nil)) (fun w1 hs1 => ?_)
     (rw [if_pos (show x.err ≠ 0 by omega)] at hinv
      rw [if_neg m5, if_neg m5]
      exact ⟨⟨s, x.err, [], hs, hinv⟩, rfl, hs1.weakL (List.nil_sublist _)⟩)
     ·refine gZ ?_; refine E5 ?_; refine Kn O O O (enters_of Tryz.func87 m6 O) (Jva (R := x.L ++ (t.L ++ R)) (t.ok.mono fun q hq => List.mem_append_right _ hq) x.ok) (fun q hq => (List.mem_append.1 hq).elim (fun h => Or.inl (List.mem_cons_of_mem _ (List.mem_cons_of_mem _ (List.mem_cons_of_mem _ (List.mem_cons_of_mem _ (List.mem_cons_of_mem _ (List.mem_cons_of_mem _ (List.mem_append_left _ h)))))))) fun hq => (List.mem_append.1 hq).elim (fun h => Or.inl (List.mem_cons_of_mem _ (List.mem_cons_of_mem _ (List.mem_cons_of_mem _ (List.mem_cons_of_mem _ (List.mem_cons_of_mem _ (List.mem_cons_of_mem _ (List.mem_append_right _ h)))))))) Or.inr) fun y => Kv (QX y.L [_, _, _, _, _, _] (x.L ++ t.L)) ?_; change HL _ _ ((68, .tuple #[y.s.val, .int .i64 y.err]) :: _) ((r4, _) :: (r3, _) :: (r2, _) :: (rb, _) :: (rr, _) :: (r1, _) :: (y.L ++ (x.L ++ t.L))) _ _ _ _
      have hye : (ZQ t.s.er x.a.er).2 = y.err := (congrArg Prod.snd y.eq).symm
      have hys : (ZQ t.s.er x.a.er).1 = y.s.er := (congrArg Prod.fst y.eq).symm
      simp only [hye, hys] at hinv; refine HO ?_; refine LN O fun r5 => DX ?_; refine Ht ?_; refine cD (fun g => ?_) fun g => ?_
      refine GZ ?_; refine Q1 O (Jj (k := 6) (n := 1) (ys := s.cells) O O O O O O O O O (J1 10 O ?_)); refine Jf O O (.cons (Js (vs := [_]) O (kn 6 O) O O) (.cons (Jh O) .nil)) (fun w1 hs1 => ?_)
      (rw [if_neg MC, if_pos (show y.err ≠ 0 by omega)] at hinv
       rw [if_neg m5, if_neg m5]
       exact ⟨⟨s, y.err, [], hs, hinv⟩, rfl, hs1.weakL (List.nil_sublist _)⟩)
      ·refine Gy ?_; refine LR O (Jd (xs := y.s.cells) (n := 1) O (kn 0 O) O O O) (Jj (k := 3) (n := 1) (ys := y.s.cells) O O O O O O O O O (Gu ?_)); refine Nk ?_
       (rw [if_neg MC, if_neg (show ¬ (y.err ≠ 0) by omega)] at hinv
        exact Jo (i + 1, t.next y) ⟨by simp only; omega, hinv⟩ mh (lK rfl) (.cons _ (.cons _ (.cons _ (List.Sublist.refl _)))) (fun _ _ h => h))
   ·refine Jt 7 O (LR O (Jd (xs := t.s.cells) (n := 1) O (kn 0 O) O O O) (Jj (k := 3) (n := 1) (ys := t.s.cells) O O O O O O O O O (gM ?_))); refine Gd fun w1 hs1 => ?_
    (obtain rfl : i = 2 := by omega
     rw [if_neg m5, if_neg m5]
     exact ⟨⟨t.s, 0, t.L, t.ok, hinv⟩, rfl, hs1.weakL (.cons _ (.cons _ (.cons _ (.cons _ (List.Sublist.refl _)))))⟩)
theorem _root_.Go.SL.PureT.ne {f : FuncId} {args : Array Value} (h : PureT P f args V [] LL Rl) (hR : Has Rl w) : Nonempty α := by
 obtain ⟨e, w', fr, ⟨x, _⟩, _⟩ := h.run w (fun p hp => by cases hp) hR List.Pairwise.nil (fun p _ q hq => by cases hq) []
 exact ⟨x⟩
theorem Jd6 {f : FuncId} {fn : Func} {code : Code} {T : Jx} (hf : P.funcs[f]? = some fn) (hb : fn.body = some code) (hlen : Nat.ble vs.length fn.ntmps = true)
  (h : ∀ w, Has Rl w → HC (cxT P w T Rl fn.ntmps) [] (Wj 0 vs) T (fun _ _ => True) code (bodyPostM (FW none) 0 P fn (fun e w' => ∃ x, e = .returned (V x) ∧ St (cxT P w T Rl fn.ntmps) (LL x) (fun _ _ => True) w'))) : PureT P f vs.toArray V T LL Rl := ⟨fun w hT hR hd hne =>
 (QR (cxT P w T Rl fn.ntmps) hf hb rfl rfl rfl hlen (St.startT hT hR hd hne) (h w hR)).mono fun _ _ ⟨x, he, hs⟩ => ⟨x, he, by have := hs.keep; simpa [cxT] using this, fun p hp => ⟨(hs.own p hp).1, (hs.own p hp).2.2⟩, hs.distinct⟩⟩
def m1 : Rec := ⟨7, 0, w40, w40, ⟨5, 0, 0, 0⟩, 3, 0, 0⟩
def m2 : Rec := ⟨7, 0, w40, ⟨1, 0, 0, 0⟩, w40, 3, 0, 0⟩
def m3 : Rec := ⟨7, 0, w40, ⟨1, 0, 0, 0⟩, w40, 3, 0, 1⟩
def V4 (k v : Int) : Int × Int × Bool :=
 if k = 1 then (if v = 4 then (5, 5, true) else (0, 5, (v == 0 || v == 1 || v == 2 || v == 126)))
 else if k = 2 then (if v = 2 then (2, 5, true) else (v, v, (v == 0 || v == 1)))
 else if k = 3 then (IntKind.i64.wrap (3 * v), 5, (v == 0 || v == 1))
 else if k = 4 then (IntKind.i64.wrap (2 * v), 5, (v == 0 || v == 2))
 else if k = 5 then (IntKind.i64.wrap (5 * v), IntKind.i64.wrap (4 + v), (v == 0 || v == 1))
 else (0, 0, false)
def ZD (x : Int × Int × Bool) : Value := .agg [.int .i64 x.1, .int .i64 x.2.1, .bool x.2.2].toArray
theorem jU (v : Int) : Pure Tryz.prog 268 [.int .i64 v].toArray (ZD (V4 1 v)) := by
 refine Jl Tryz.func268 O O fun w => Nj fun r1 => ?_; refine H2 ?_; refine cD (fun g => ?_) fun g => ?_
 refine kE ?_; refine k8 ?_
 refine NQ ?_; refine gM ?_; exact Nw
 ·refine Jt 7 O ?_
  refine Jv 8 O (fun gb => ?_) (fun gb => ?_) <;> (try simp only [ZZ] at gb) <;> first | (refine Q1 O ?_) | (refine LK O ?_)
  all_goals refine LW 3 [] O O ?_
  all_goals first | refine LK O ?_ | (refine Jv 12 O (fun gb => ?_) (fun gb => ?_) <;> (try simp only [ZZ] at gb) <;> first | (refine Q1 O ?_) | (refine LK O ?_))
  all_goals refine LW 3 [] O O ?_
  all_goals first | refine LK O ?_ | (refine Jv 16 O (fun gb => ?_) (fun gb => ?_) <;> (try simp only [ZZ] at gb) <;> first | (refine Q1 O ?_) | (refine LK O ?_))
  all_goals refine Hl ?_
  all_goals (refine LT 0 O O ?_)
  all_goals (
   refine J1 1 O (Xk 2 O ?_); exact Nw
   skip)
theorem jf (k v : Int) : Pure Tryz.prog 209 [.int .i64 k, .int .i64 v].toArray (ZD (V4 k v)) := by
 refine Jl Tryz.func209 O O fun w => Nj fun r1 => ?_; refine JN 15 O (cD (fun g => ?_) fun g => ?_)
 refine Gy ?_; refine Jn O O O (enters_of Tryz.func268 m6 O) (jU ..) ?_
 refine Hw ?_; exact Nw
 ·refine NO ?_; refine cD (fun g => ?_) fun g => ?_
  ·refine Dk ?_; refine cD (fun g => ?_) fun g => ?_
   refine kE ?_; refine k8 ?_
   refine NQ ?_; refine J1 6 O ?_; exact Nw
   ·refine Jt 9 O ?_
    refine Jv 19 O (fun gb => ?_) (fun gb => ?_) <;> (try simp only [ZZ] at gb) <;> first | (refine Q1 O ?_) | (refine LK O ?_)
    all_goals refine Hl ?_
    all_goals (refine LT 0 O O ?_)
    all_goals (
     exact Eg
     skip)
  ·refine NO ?_; refine cD (fun g => ?_) fun g => ?_
   ·refine Jt 7 O ?_
    refine Jv 30 O (fun gb => ?_) (fun gb => ?_) <;> (try simp only [ZZ] at gb) <;> first | (refine Q1 O ?_) | (refine LK O ?_)
    all_goals refine Hl ?_
    all_goals (refine LT 0 O O ?_)
    all_goals (
     exact Eg
     skip)
   ·refine NO ?_; refine cD (fun g => ?_) fun g => ?_
    ·refine Jt 7 O ?_
     refine Jv 41 O (fun gb => ?_) (fun gb => ?_) <;> (try simp only [ZZ] at gb) <;> first | (refine Q1 O ?_) | (refine LK O ?_)
     all_goals refine Hl ?_
     all_goals (refine LT 0 O O ?_)
     all_goals (
      exact Eg
      skip)
    ·refine NO ?_; refine cD (fun g => ?_) fun g => ?_
     ·refine Jt 9 O ?_
      refine Jv 54 O (fun gb => ?_) (fun gb => ?_) <;> (try simp only [ZZ] at gb) <;> first | (refine Q1 O ?_) | (refine LK O ?_)
      all_goals refine Hl ?_
      all_goals (refine LT 0 O O ?_)
      all_goals (
       exact Eg
       skip)
     ·refine gn ?_; refine k8 ?_
      refine NQ ?_; refine H6 ?_; exact Nw
theorem ZH (f k v : Int) : Pure Tryz.prog 150 [.int .i64 f, .int .i64 k, .int .i64 v].toArray
  (.bool ((V4 k v).2.2 && decide ((V4 k v).1 ≤ f) && decide (f ≤ (V4 k v).2.1))) := by
 refine Jl Tryz.func150 O O fun w => kV ?_; refine Jn O O O (enters_of Tryz.func209 m6 O) (jf ..) (LN O fun r1 => ?_)
 refine NQ ?_; refine FK ?_
 refine Jv 13 O (fun gb => ?_) (fun gb => ?_) <;> (try simp only [ZZ] at gb) <;> first | (refine LR O (J6 O O O) ?_) | (refine LK O ?_)
 all_goals refine LW 5 [0] O O ?_
 all_goals first | refine LK O ?_ | (refine Jv 19 O (fun gb => ?_) (fun gb => ?_) <;> (try simp only [ZZ] at gb) <;> first | (refine Q1 O ?_) | (refine LK O ?_))
 all_goals refine NS ?_
 all_goals (
  refine Fe ?_; refine NW fun w1 hs1 => ?_; exact ⟨by (try simp_all [JB, ZD]); try omega, hs1.keep⟩
  skip)
def Qj (a b : Int) : Value := .agg [.int .i64 a, .int .i64 b].toArray
def Jd7 (v : Value) : Prop := ∃ a b, v = Qj a b
def xv : Value → List Int
 | .agg cs => cs.toList.map fun | .int _ n => n | _ => 0
 | _ => []
def Xc (x y : Value) : Bool := decide (xv x = xv y)
theorem Jbk (a b c d : Int) : Xc (Qj a b) (Qj c d) = (a == c && b == d) := by
 unfold Xc Qj xv
 by_cases h1 : a = c <;> by_cases h2 : b = d <;> simp [h1, h2]
theorem Jvn : KeyL Tryz.prog 201 Jd7 Xc where
 now := ⟨_, rfl, fun a b ⟨a1, a2, ha⟩ ⟨b1, b2, hb⟩ => by subst ha hb; exact .inl O⟩
 equal := by
  rintro _ _ w ⟨a, b, rfl⟩ ⟨c, d, rfl⟩; rw [Jbk]
  show (Op.equalIn (9999 + 1) _ (.agg _) (.agg _)).run _ _ = _
  rw [run_equalIn_struct w 9999 _ _ _ m6 m6]
  simp [go_sem]
  by_cases h1 : a = c <;> by_cases h2 : b = d <;> simp [h1, h2]
 check := by
  rintro _ b w ⟨x, y, rfl⟩; exact qm m6 ml b 9998 w
def tableKV : List (Value × Value) :=
 [(Qj 1 0, Qj 0 5), (Qj 1 1, Qj 0 5), (Qj 1 2, Qj 0 5), (Qj 1 126, Qj 0 5), (Qj 1 4, Qj 5 5), (Qj 2 0, Qj 0 0), (Qj 2 1, Qj 1 1), (Qj 2 2, Qj 2 5),
  (Qj 3 0, Qj 0 5), (Qj 3 1, Qj 3 5), (Qj 4 0, Qj 0 5), (Qj 4 2, Qj 4 5), (Qj 5 0, Qj 0 4), (Qj 5 1, Qj 5 5)]
def J53 : Type := { p : Nat × Array MapEntry // (p.2.toList.map V9).Perm tableKV ∧ p.2.toList.map (·.born) = List.range p.2.size }
theorem jH : PureE (α := J53) Tryz.prog 172 [].toArray (fun x => .map (some x.1.1)) (fun x => [(x.1.1, .map x.1.2 x.1.2.size)]) := by
 refine Kq Tryz.func172 O O fun w => FA ?_; refine Jnv (t := 198) 1 [(1, 2, .agg [.int .i64 1, .int .i64 0].toArray), (2, 3, .agg [.int .i64 0, .int .i64 5].toArray), (4, 4, .agg [.int .i64 1, .int .i64 1].toArray), (5, 5, .agg [.int .i64 0, .int .i64 5].toArray), (7, 6, .agg [.int .i64 1, .int .i64 2].toArray), (8, 7, .agg [.int .i64 0, .int .i64 5].toArray), (10, 8, .agg [.int .i64 1, .int .i64 126].toArray), (11, 9, .agg [.int .i64 0, .int .i64 5].toArray), (13, 10, .agg [.int .i64 1, .int .i64 4].toArray), (14, 11, .agg [.int .i64 5, .int .i64 5].toArray), (16, 12, .agg [.int .i64 2, .int .i64 0].toArray), (17, 13, .agg [.int .i64 0, .int .i64 0].toArray), (19, 14, .agg [.int .i64 2, .int .i64 1].toArray), (20, 15, .agg [.int .i64 1, .int .i64 1].toArray), (22, 16, .agg [.int .i64 2, .int .i64 2].toArray), (23, 17, .agg [.int .i64 2, .int .i64 5].toArray), (25, 18, .agg [.int .i64 3, .int .i64 0].toArray), (26, 19, .agg [.int .i64 0, .int .i64 5].toArray), (28, 20, .agg [.int .i64 3, .int .i64 1].toArray), (29, 21, .agg [.int .i64 3, .int .i64 5].toArray), (31, 22, .agg [.int .i64 4, .int .i64 0].toArray), (32, 23, .agg [.int .i64 0, .int .i64 5].toArray), (34, 24, .agg [.int .i64 4, .int .i64 2].toArray), (35, 25, .agg [.int .i64 4, .int .i64 5].toArray), (37, 26, .agg [.int .i64 5, .int .i64 0].toArray), (38, 27, .agg [.int .i64 0, .int .i64 4].toArray), (40, 28, .agg [.int .i64 5, .int .i64 1].toArray), (41, 29, .agg [.int .i64 5, .int .i64 5].toArray)] [(3, .agg [.int .i64 1, .int .i64 0].toArray, .agg [.int .i64 0, .int .i64 5].toArray), (6, .agg [.int .i64 1, .int .i64 1].toArray, .agg [.int .i64 0, .int .i64 5].toArray), (9, .agg [.int .i64 1, .int .i64 2].toArray, .agg [.int .i64 0, .int .i64 5].toArray), (12, .agg [.int .i64 1, .int .i64 126].toArray, .agg [.int .i64 0, .int .i64 5].toArray), (15, .agg [.int .i64 1, .int .i64 4].toArray, .agg [.int .i64 5, .int .i64 5].toArray), (18, .agg [.int .i64 2, .int .i64 0].toArray, .agg [.int .i64 0, .int .i64 0].toArray), (21, .agg [.int .i64 2, .int .i64 1].toArray, .agg [.int .i64 1, .int .i64 1].toArray), (24, .agg [.int .i64 2, .int .i64 2].toArray, .agg [.int .i64 2, .int .i64 5].toArray), (27, .agg [.int .i64 3, .int .i64 0].toArray, .agg [.int .i64 0, .int .i64 5].toArray), (30, .agg [.int .i64 3, .int .i64 1].toArray, .agg [.int .i64 3, .int .i64 5].toArray), (33, .agg [.int .i64 4, .int .i64 0].toArray, .agg [.int .i64 0, .int .i64 5].toArray), (36, .agg [.int .i64 4, .int .i64 2].toArray, .agg [.int .i64 4, .int .i64 5].toArray), (39, .agg [.int .i64 5, .int .i64 0].toArray, .agg [.int .i64 0, .int .i64 4].toArray), (42, .agg [.int .i64 5, .int .i64 1].toArray, .agg [.int .i64 5, .int .i64 5].toArray)] [(43, 30), (44, 0)] [] Jvn O m6 ?hops m6 O m7 O (fun i v h => by cases h) m7 rfl (by simp only [List.forall_mem_cons]; exact ⟨⟨_, _, rfl⟩, ⟨_, _, rfl⟩, ⟨_, _, rfl⟩, ⟨_, _, rfl⟩, ⟨_, _, rfl⟩, ⟨_, _, rfl⟩, ⟨_, _, rfl⟩, ⟨_, _, rfl⟩, ⟨_, _, rfl⟩, ⟨_, _, rfl⟩, ⟨_, _, rfl⟩, ⟨_, _, rfl⟩, ⟨_, _, rfl⟩, ⟨_, _, rfl⟩, by simp⟩) m7 ?_
 case hops =>
  intro i o h
  match i, h with
  | 0, h => cases Option.some.inj h; exact MLit.mk
  | 1, h => cases Option.some.inj h; exact MLit.pure (s := 2) (v := .agg [.int .i64 1, .int .i64 0].toArray) (J3 (n := 0) O) O O O (Ju (r := [_, _]) O O)
  | 2, h => cases Option.some.inj h; exact MLit.pure (s := 3) (v := .agg [.int .i64 0, .int .i64 5].toArray) (J3 (n := 1) O) O O O (Ju (r := [_, _]) O O)
  | 3, h => cases Option.some.inj h; exact MLit.ins (j1 := 1) (j2 := 2) (k := .agg [.int .i64 1, .int .i64 0].toArray) (v := .agg [.int .i64 0, .int .i64 5].toArray) (J3 (n := 0) O) (J3 (n := 0) O) (J3 (n := 1) O) O O O
  | 4, h => cases Option.some.inj h; exact MLit.pure (s := 4) (v := .agg [.int .i64 1, .int .i64 1].toArray) (J3 (n := 2) O) O O O (Ju (r := [_, _]) O O)
  | 5, h => cases Option.some.inj h; exact MLit.pure (s := 5) (v := .agg [.int .i64 0, .int .i64 5].toArray) (J3 (n := 3) O) O O O (Ju (r := [_, _]) O O)
  | 6, h => cases Option.some.inj h; exact MLit.ins (j1 := 4) (j2 := 5) (k := .agg [.int .i64 1, .int .i64 1].toArray) (v := .agg [.int .i64 0, .int .i64 5].toArray) (J3 (n := 1) O) (J3 (n := 2) O) (J3 (n := 3) O) O O O
  | 7, h => cases Option.some.inj h; exact MLit.pure (s := 6) (v := .agg [.int .i64 1, .int .i64 2].toArray) (J3 (n := 4) O) O O O (Ju (r := [_, _]) O O)
  | 8, h => cases Option.some.inj h; exact MLit.pure (s := 7) (v := .agg [.int .i64 0, .int .i64 5].toArray) (J3 (n := 5) O) O O O (Ju (r := [_, _]) O O)
  | 9, h => cases Option.some.inj h; exact MLit.ins (j1 := 7) (j2 := 8) (k := .agg [.int .i64 1, .int .i64 2].toArray) (v := .agg [.int .i64 0, .int .i64 5].toArray) (J3 (n := 2) O) (J3 (n := 4) O) (J3 (n := 5) O) O O O
  | 10, h => cases Option.some.inj h; exact MLit.pure (s := 8) (v := .agg [.int .i64 1, .int .i64 126].toArray) (J3 (n := 6) O) O O O (Ju (r := [_, _]) O O)
  | 11, h => cases Option.some.inj h; exact MLit.pure (s := 9) (v := .agg [.int .i64 0, .int .i64 5].toArray) (J3 (n := 7) O) O O O (Ju (r := [_, _]) O O)
  | 12, h => cases Option.some.inj h; exact MLit.ins (j1 := 10) (j2 := 11) (k := .agg [.int .i64 1, .int .i64 126].toArray) (v := .agg [.int .i64 0, .int .i64 5].toArray) (J3 (n := 3) O) (J3 (n := 6) O) (J3 (n := 7) O) O O O
  | 13, h => cases Option.some.inj h; exact MLit.pure (s := 10) (v := .agg [.int .i64 1, .int .i64 4].toArray) (J3 (n := 8) O) O O O (Ju (r := [_, _]) O O)
  | 14, h => cases Option.some.inj h; exact MLit.pure (s := 11) (v := .agg [.int .i64 5, .int .i64 5].toArray) (J3 (n := 9) O) O O O (Ju (r := [_, _]) O O)
  | 15, h => cases Option.some.inj h; exact MLit.ins (j1 := 13) (j2 := 14) (k := .agg [.int .i64 1, .int .i64 4].toArray) (v := .agg [.int .i64 5, .int .i64 5].toArray) (J3 (n := 4) O) (J3 (n := 8) O) (J3 (n := 9) O) O O O
  | 16, h => cases Option.some.inj h; exact MLit.pure (s := 12) (v := .agg [.int .i64 2, .int .i64 0].toArray) (J3 (n := 10) O) O O O (Ju (r := [_, _]) O O)
  | 17, h => cases Option.some.inj h; exact MLit.pure (s := 13) (v := .agg [.int .i64 0, .int .i64 0].toArray) (J3 (n := 11) O) O O O (Ju (r := [_, _]) O O)
  | 18, h => cases Option.some.inj h; exact MLit.ins (j1 := 16) (j2 := 17) (k := .agg [.int .i64 2, .int .i64 0].toArray) (v := .agg [.int .i64 0, .int .i64 0].toArray) (J3 (n := 5) O) (J3 (n := 10) O) (J3 (n := 11) O) O O O
  | 19, h => cases Option.some.inj h; exact MLit.pure (s := 14) (v := .agg [.int .i64 2, .int .i64 1].toArray) (J3 (n := 12) O) O O O (Ju (r := [_, _]) O O)
  | 20, h => cases Option.some.inj h; exact MLit.pure (s := 15) (v := .agg [.int .i64 1, .int .i64 1].toArray) (J3 (n := 13) O) O O O (Ju (r := [_, _]) O O)
  | 21, h => cases Option.some.inj h; exact MLit.ins (j1 := 19) (j2 := 20) (k := .agg [.int .i64 2, .int .i64 1].toArray) (v := .agg [.int .i64 1, .int .i64 1].toArray) (J3 (n := 6) O) (J3 (n := 12) O) (J3 (n := 13) O) O O O
  | 22, h => cases Option.some.inj h; exact MLit.pure (s := 16) (v := .agg [.int .i64 2, .int .i64 2].toArray) (J3 (n := 14) O) O O O (Ju (r := [_, _]) O O)
  | 23, h => cases Option.some.inj h; exact MLit.pure (s := 17) (v := .agg [.int .i64 2, .int .i64 5].toArray) (J3 (n := 15) O) O O O (Ju (r := [_, _]) O O)
  | 24, h => cases Option.some.inj h; exact MLit.ins (j1 := 22) (j2 := 23) (k := .agg [.int .i64 2, .int .i64 2].toArray) (v := .agg [.int .i64 2, .int .i64 5].toArray) (J3 (n := 7) O) (J3 (n := 14) O) (J3 (n := 15) O) O O O
  | 25, h => cases Option.some.inj h; exact MLit.pure (s := 18) (v := .agg [.int .i64 3, .int .i64 0].toArray) (J3 (n := 16) O) O O O (Ju (r := [_, _]) O O)
  | 26, h => cases Option.some.inj h; exact MLit.pure (s := 19) (v := .agg [.int .i64 0, .int .i64 5].toArray) (J3 (n := 17) O) O O O (Ju (r := [_, _]) O O)
  | 27, h => cases Option.some.inj h; exact MLit.ins (j1 := 25) (j2 := 26) (k := .agg [.int .i64 3, .int .i64 0].toArray) (v := .agg [.int .i64 0, .int .i64 5].toArray) (J3 (n := 8) O) (J3 (n := 16) O) (J3 (n := 17) O) O O O
  | 28, h => cases Option.some.inj h; exact MLit.pure (s := 20) (v := .agg [.int .i64 3, .int .i64 1].toArray) (J3 (n := 18) O) O O O (Ju (r := [_, _]) O O)
  | 29, h => cases Option.some.inj h; exact MLit.pure (s := 21) (v := .agg [.int .i64 3, .int .i64 5].toArray) (J3 (n := 19) O) O O O (Ju (r := [_, _]) O O)
  | 30, h => cases Option.some.inj h; exact MLit.ins (j1 := 28) (j2 := 29) (k := .agg [.int .i64 3, .int .i64 1].toArray) (v := .agg [.int .i64 3, .int .i64 5].toArray) (J3 (n := 9) O) (J3 (n := 18) O) (J3 (n := 19) O) O O O
  | 31, h => cases Option.some.inj h; exact MLit.pure (s := 22) (v := .agg [.int .i64 4, .int .i64 0].toArray) (J3 (n := 20) O) O O O (Ju (r := [_, _]) O O)
  | 32, h => cases Option.some.inj h; exact MLit.pure (s := 23) (v := .agg [.int .i64 0, .int .i64 5].toArray) (J3 (n := 21) O) O O O (Ju (r := [_, _]) O O)
  | 33, h => cases Option.some.inj h; exact MLit.ins (j1 := 31) (j2 := 32) (k := .agg [.int .i64 4, .int .i64 0].toArray) (v := .agg [.int .i64 0, .int .i64 5].toArray) (J3 (n := 10) O) (J3 (n := 20) O) (J3 (n := 21) O) O O O
  | 34, h => cases Option.some.inj h; exact MLit.pure (s := 24) (v := .agg [.int .i64 4, .int .i64 2].toArray) (J3 (n := 22) O) O O O (Ju (r := [_, _]) O O)
  | 35, h => cases Option.some.inj h; exact MLit.pure (s := 25) (v := .agg [.int .i64 4, .int .i64 5].toArray) (J3 (n := 23) O) O O O (Ju (r := [_, _]) O O)
  | 36, h => cases Option.some.inj h; exact MLit.ins (j1 := 34) (j2 := 35) (k := .agg [.int .i64 4, .int .i64 2].toArray) (v := .agg [.int .i64 4, .int .i64 5].toArray) (J3 (n := 11) O) (J3 (n := 22) O) (J3 (n := 23) O) O O O
  | 37, h => cases Option.some.inj h; exact MLit.pure (s := 26) (v := .agg [.int .i64 5, .int .i64 0].toArray) (J3 (n := 24) O) O O O (Ju (r := [_, _]) O O)
  | 38, h => cases Option.some.inj h; exact MLit.pure (s := 27) (v := .agg [.int .i64 0, .int .i64 4].toArray) (J3 (n := 25) O) O O O (Ju (r := [_, _]) O O)
  | 39, h => cases Option.some.inj h; exact MLit.ins (j1 := 37) (j2 := 38) (k := .agg [.int .i64 5, .int .i64 0].toArray) (v := .agg [.int .i64 0, .int .i64 4].toArray) (J3 (n := 12) O) (J3 (n := 24) O) (J3 (n := 25) O) O O O
  | 40, h => cases Option.some.inj h; exact MLit.pure (s := 28) (v := .agg [.int .i64 5, .int .i64 1].toArray) (J3 (n := 26) O) O O O (Ju (r := [_, _]) O O)
  | 41, h => cases Option.some.inj h; exact MLit.pure (s := 29) (v := .agg [.int .i64 5, .int .i64 5].toArray) (J3 (n := 27) O) O O O (Ju (r := [_, _]) O O)
  | 42, h => cases Option.some.inj h; exact MLit.ins (j1 := 40) (j2 := 41) (k := .agg [.int .i64 5, .int .i64 1].toArray) (v := .agg [.int .i64 5, .int .i64 5].toArray) (J3 (n := 13) O) (J3 (n := 26) O) (J3 (n := 27) O) O O O
  | 43, h => cases Option.some.inj h; exact MLit.mv (s := 30) (x := 1) (J3 (n := 0) O) O O (Or.inl O) O (Or.inl O)
  | 44, h => cases Option.some.inj h; exact MLit.mv (s := 0) (x := 30) (J3 (n := 1) O) O O (Or.inr O) O (Or.inr ⟨43, J3 (n := 0) O, rfl⟩)
  | n + 45, h => simp at h
 intro mr mes hmes hborn; refine Xk 2 O (NW fun w1 hs1 => ?_); exact ⟨⟨(mr, mes), hmes, hborn⟩, rfl, hs1⟩
def okI (k v : Int) : Bool := (V4 k v).2.2
def loI (k v : Int) : Int := if okI k v then (V4 k v).1 else 0
def hiI (k v : Int) : Int := if okI k v then (V4 k v).2.1 else 0
theorem Jd8 {x y : Value} (h1 : Xc x y = true) (h2 : Xc x z = true) : Xc y z = true := by
 unfold Xc at *
 simp only [decide_eq_true_eq] at *; rw [← h1, h2]
theorem table_dist : tableKV.Pairwise fun p q => Xc p.1 q.1 = false := by decide
theorem Jjr : ∀ p ∈ tableKV, Jd7 p.1 := by
 unfold tableKV
 simp only [List.forall_mem_cons]; exact ⟨⟨_, _, rfl⟩, ⟨_, _, rfl⟩, ⟨_, _, rfl⟩, ⟨_, _, rfl⟩, ⟨_, _, rfl⟩, ⟨_, _, rfl⟩, ⟨_, _, rfl⟩, ⟨_, _, rfl⟩, ⟨_, _, rfl⟩, ⟨_, _, rfl⟩, ⟨_, _, rfl⟩, ⟨_, _, rfl⟩, ⟨_, _, rfl⟩, ⟨_, _, rfl⟩, by simp⟩
theorem Jjs (k v : Int) : KW Xc (Qj k v) tableKV = if okI k v then some (Qj (loI k v) (hiI k v)) else none := by
 simp only [tableKV, KW, Jbk, loI, hiI, okI, V4]
 by_cases h1 : k = 1
 ·subst h1; by_cases a0 : v = 0 <;> by_cases a1 : v = 1 <;> by_cases a2 : v = 2 <;> by_cases a3 : v = 126 <;> by_cases a4 : v = 4 <;> simp_all
 ·by_cases h2 : k = 2
  ·subst h2; by_cases a0 : v = 0 <;> by_cases a1 : v = 1 <;> by_cases a2 : v = 2 <;> simp_all
  ·by_cases h3 : k = 3
   ·subst h3; by_cases a0 : v = 0 <;> by_cases a1 : v = 1 <;> simp_all <;> rfl
   ·by_cases h4 : k = 4
    ·subst h4; by_cases a0 : v = 0 <;> by_cases a1 : v = 2 <;> simp_all <;> rfl
    ·by_cases h5 : k = 5
     ·subst h5; by_cases a0 : v = 0 <;> by_cases a1 : v = 1 <;> simp_all <;> rfl
     ·simp_all
theorem Jpj (hp : kv.Perm tableKV) (k v : Int) : KW Xc (Qj k v) kv = if okI k v then some (Qj (loI k v) (hiI k v)) else none := by
 rw [← Jjs, Je1 hp.symm]; refine table_dist.imp fun {p q} h ⟨h1, h2⟩ => ?_; rw [Jd8 h1 h2] at h; cases h
theorem Jpk (hp : kv.Perm tableKV) (k v : Int) :
  (if true = true then Value.tuple #[((KW Xc (Qj k v) kv).getD (Qj 0 0)), .bool (KW Xc (Qj k v) kv).isSome] else (KW Xc (Qj k v) kv).getD (Qj 0 0)) =
   .tuple #[.agg [.int .i64 (loI k v), .int .i64 (hiI k v)].toArray, .bool (okI k v)] := by
 rw [Jpj hp, if_pos rfl]
 cases h : okI k v <;> simp [loI, hiI, Qj, h]
theorem Jbl {mes : Array MapEntry} (hp : (mes.toList.map V9).Perm tableKV) : ∀ e ∈ mes.toList, Jd7 e.key := fun e he =>
 Jjr (V9 e) (hp.subset (List.mem_map_of_mem he))
theorem xW (f k v : Int) : Pure Tryz.prog 105 [.int .i64 f, .int .i64 k, .int .i64 v].toArray (.bool (okI k v && decide (f ≥ loI k v) && decide (f ≤ hiI k v))) := by
 refine Jl Tryz.func105 O O fun w => E3 ?_; refine Kj O O O (enters_of Tryz.func172 m6 O) jH fun x1 => ?_
 obtain ⟨⟨mr, mes⟩, hmes, hborn⟩ := x1
 change HL _ _ _ [(mr, .map mes mes.size)] _ _ _ _; refine ko ?_; refine Gj ?_; refine LR O (XO Jvn O O (kn 0 O) O O ⟨_, _, rfl⟩ (Jbl hmes) (Jpk hmes k v)) (HO ?_); refine LN O fun r1 => ?_
 refine NQ ?_; refine gY ?_
 refine Jv 18 O (fun gb => ?_) (fun gb => ?_) <;> (try simp only [ZZ] at gb) <;> first | (refine Q1 O ?_) | (refine LK O ?_)
 all_goals refine NS ?_
 all_goals refine Dc ?_
 all_goals first | refine LK O ?_ | (refine Jv 24 O (fun gb => ?_) (fun gb => ?_) <;> (try simp only [ZZ] at gb) <;> first | (refine Q1 O ?_) | (refine LK O ?_))
 all_goals refine NS ?_
 all_goals (
  refine Fe ?_; refine NW fun w1 hs1 => ?_; exact ⟨by (try simp_all [JB]); try omega, hs1.keep⟩
  skip)
def J2u (v : Value) : Int := (xv v).headD 0
def J4m (v : Value) : Int := ((xv v).drop 1).headD 0
theorem Jzu (a b : Int) : J2u (.agg [.int .i64 a, .int .i64 b].toArray) = a := rfl
theorem Jzv (a b : Int) : J4m (.agg [.int .i64 a, .int .i64 b].toArray) = b := rfl
def Xd (k : Int) (l : List (Value × Value)) : List Int := (l.filter fun p => J2u p.1 == k).map fun p => J4m p.1
def xw (k : Int) (l : List MapEntry) : List Int := Xd k (l.map V9)
theorem Jjt {k : Int} {l : List MapEntry} {e : MapEntry} {a b : Int} (h : e.key = .agg [.int .i64 a, .int .i64 b].toArray) : xw k (l ++ [e]) = xw k l ++ (if a = k then [b] else []) := by
 simp only [xw, Xd, List.map_append, List.filter_append, List.map_cons, List.map_nil, V9, h, List.filter_cons, Jzu, List.filter_nil]
 by_cases hk : a = k <;> simp [hk, Jzv]
theorem xx (k : Int) (l : List (Value × Value)) : (Xd k l).length ≤ l.length := by
 unfold Xd; rw [List.length_map]; exact List.length_filter_le _ _
theorem wF {k : Int} {l l' : List (Value × Value)} (h : l.Perm l') : (Xd k l).Perm (Xd k l') := (h.filter _).map _
def nxV (ys : List Int) (v : List Value) (ys' : List Int) : Prop := ∃ x, v = [.int .i64 x] ∧ ys' = ys ++ [x] ∧ ys.length < 14
def fiV (k : Int) (ys : List Int) : Prop := ys.Perm (Xd k tableKV)
theorem Jju (k : Int) (p : Nat) : ql Tryz.prog 171 [.pointer (some ⟨p, 0, none⟩)] [(p, .cells #[.int .i64 k] 3 (0, 0))] ([] : List Int) nxV (fiV k) := by
  refine VA Tryz.func171 O O fun q xids w2 XI XF hY => NH ?_; refine Kj O O O (enters_of Tryz.func172 m6 O) jH fun x1 => ?_
  obtain ⟨⟨mr, mes⟩, hmes, hborn⟩ := x1
  change HL _ _ _ [(mr, .map mes mes.size)] _ _ _ _
  have hnd : (mes.toList.map (·.born)).Nodup := by rw [show mes.toList.map (·.born) = List.range mes.size from hborn]; exact List.nodup_range
  have hlt : ∀ e ∈ mes.toList, e.born < mes.size := fun e he => List.mem_range.1 (by rw [← show mes.toList.map (·.born) = List.range mes.size from hborn]; exact List.mem_map_of_mem (f := (·.born)) he)
  have h14 : mes.toList.length = 14 := by have := List.Perm.length_eq (show (mes.toList.map V9).Perm tableKV from hmes); rw [List.length_map] at this; exact this
  refine Je2 (c := ⟨Tryz.prog, none, w2, [], xids, _, _⟩) O O O (kn 0 O) O fun qi => ki ?_; refine Jw (σ := List MapEntry × Array Nat) (fun s => (s.1 ++ Qm mes.toList s.2).Perm mes.toList) (fun _ => [(0, .func (.yield q) #[] #[]), (1, .pointer (some ⟨p, 0, none⟩)), (5, .pointer (some ⟨qi, 0, none⟩))]) (fun s => [(qi, .mapIter (some mr) mes.size s.2 mes.size), (mr, .map mes mes.size)]) (fun s => XI (xw k s.1)) (fun s => (Qm mes.toList s.2).length) ([], #[]) (by rw [Jnw]; exact List.Perm.refl _) (lK O) (List.Sublist.refl _) (fun _ _ h => h) ?_; rintro ⟨done, seen⟩ hI; simp only at hI; refine kE ?_; refine Jwv (k := 0) O O O O (kn 1 O) hlt (fun hleft => ?_) (fun e he L1 hL1 => ?_)
  all_goals try (simp only [List.set_cons_zero] at hL1; subst hL1)
  all_goals (
   refine LR O (Kh O O) (J1 1 O (XC 2 O ?_)); refine J7 O (fun g => ?_) (fun g => ?_)
   · try exact Bool.noConfusion g
     all_goals try simp only [ZZ] at g
     all_goals (
      refine gn ?_
      obtain ⟨ka, kb, hab⟩ : Jd7 e.key := Jbl hmes e (Je4 he)
      refine LR O (Jww O (kn 0 O) (kn 1 O) hnd (Je4 he)) (Jq (show _ = Value.tuple #[.agg [.int .i64 ka, .int .i64 kb].toArray, e.val] from by rw [hab]; rfl) (LR rfl (Kh rfl rfl) (LN rfl fun r1 => ?_)))
      refine Q8 (k := 0) (n := 2) (cs' := #[_, _]) (vs := #[_, _]) O O O O O O O mR O mF (Ge ?_)
      refine LR O (JV O O ma) (FT ?_); refine gF ?_; refine JH 2 O ?_
      refine Jv 14 O (fun gb => ?_) (fun gb => ?_) <;> (try simp only [ZZ] at gb) <;> first | (refine Q1 O ?_) | (refine LK O ?_)
      all_goals first | (refine LR O (JV O O ma) ?_) | refine LK O ?_
      all_goals first | refine LR O (Je O (kn 0 O) O O) ?_ | refine LK O ?_
      all_goals first | (refine VV (XT := XI (xw k done ++ [kb])) (XF := XF) O O O O (hY _ _ _ ⟨kb, rfl, rfl, by have h1 := (vm hnd he hI).2.2; have h2 := xx k (done.map V9); rw [List.length_map] at h2; show (Xd k (done.map V9)).length < 14; omega⟩) ?_ ?_) | (refine LK O ?_)
      all_goals first | refine QN O ?_ | refine LK O ?_
      all_goals first | refine LR O (W3 O O) ?_ | refine LR O (W5 O O) ?_
      all_goals (
       refine J1 1 O (XC 1 O ?_); refine J7 O (fun g => ?_) (fun g => ?_)
       · try exact Bool.noConfusion g
         all_goals try simp only [ZZ] at g
         all_goals (
          refine Kk 4 O (Jf O O .nil (fun w1 hs1 => ?_))
          obtain ⟨xs1, hx1⟩ := hs1.now
          exact ⟨⟨_, rfl⟩, hs1.keep, .inr ⟨_, hx1⟩⟩
          skip)
       · try exact Bool.noConfusion g
         all_goals try simp only [ZZ] at g
         all_goals (
          refine Kk 2 O (Jr ?_); exact Jo (done ++ [e], seen.push e.born) (vm hnd he hI).1 (vm hnd he hI).2.1 (lK O) (.cons _ (List.Sublist.refl _)) (fun _ w h => by simp only [Jjt hab]; simp_all)
          skip)
       skip)
      skip)
   · try exact Bool.noConfusion g
     all_goals try simp only [ZZ] at g
     all_goals (
      refine gs fun w1 hs1 => ?_
      obtain ⟨xs1, hx1⟩ := hs1.now
      exact ⟨⟨_, rfl⟩, hs1.keep, .inl ⟨_, _, by rw [hleft, List.append_nil] at hI; exact (wF (hI.map V9)).trans (wF hmes), hx1⟩⟩
      skip)
   skip)
theorem xy : Pure Tryz.prog 174 [.int .u64 0].toArray (.int .i64 0) := ⟨fun w => (Tryz.bits_Len 0 w m7 m7).mono fun _ _ ⟨h1, h2⟩ => ⟨h1, h2 ▸ Keep.refl _ _⟩⟩
theorem J4n : Pure Tryz.prog 225 [.slice none 0 0, .int .i64 0, .int .i64 0].toArray (.tuple #[]) := by
 refine Jl Tryz.func225 O O fun w => JJ (gZ ?_); refine Ew ?_; refine Gb ?_; refine Jw (σ := Unit) (fun _ => True) (fun _ => [(2, .int .i64 0), (6, .int .i64 1)]) (fun _ => []) (fun _ _ _ => True) (fun _ => 0) () trivial (lK O) (List.nil_sublist _) (fun _ _ h => h) ?_; rintro ⟨⟩ -; refine JC 8 O (J7 O (fun h4 => ?_) (fun h4 => ?_))
 exact absurd h4 m7
 ·try simp only [ZZ] at h4
  refine gs fun w1 hs1 => ?_; exact No
theorem J4o : Pure Tryz.prog 173 [.slice none 0 0, .int .i64 0, .int .i64 0, .int .i64 0].toArray (.tuple #[]) := by
 refine Jl Tryz.func173 O O fun w => JJ (JC 11 O (Jw (σ := Unit) (fun _ => True) (fun _ => [(0, .slice none 0 0), (1, .int .i64 0), (2, .int .i64 0)]) (fun _ => []) (fun _ _ _ => True) (fun _ => 0) () trivial (lK O) (List.nil_sublist _) (fun _ _ h => h) ?_)); rintro ⟨⟩ -; refine Gq ?_; refine Ew ?_; refine Ht ?_; refine J7 O (fun h6 => ?_) (fun h6 => ?_)
 try simp only [ZZ] at h6
 refine gn ?_; refine Jn O O O (enters_of Tryz.func225 m6 O) J4n ?_; exact FD
 ·exact absurd h6 m7
theorem Jjv : Pure Tryz.prog 106 [.slice none 0 0].toArray (.tuple #[]) := by
 refine Jl Tryz.func106 O O fun w => Er ?_; refine Jn O O O (enters_of Tryz.func173 m6 O) J4o (J1 1 O (KS O O .nil (fun w1 hs1 => ?_))); exact No
def YR (xs : List Int) : List Int := xs.mergeSort fun x y => decide (x ≤ y)
theorem J2v {c : Cx} {L : Jx} {k : Nat} {xs : List Int} (hP : c.P = Tryz.prog) (hk : L[k]? = some (blk, .cells (xs.map (Value.int .i64) ++ sp).toArray 3 (0, 0))) (hlen : xs.length < 4611686018427387904) :
  ∀ w, St c L X w → Calls c.P 106 [.slice (some ⟨blk, 0, none⟩) xs.length cap].toArray w fun e w' => ∃ _ : Unit, e = .returned (.tuple #[]) ∧ St c (L.set k (blk, .cells ((YR xs).map (Value.int .i64) ++ sp).toArray 3 (0, 0))) X w' := fun w hs => by
 rw [hP]
 have hb := hs.get hk
 refine (Tryz.slices_Sort_int blk 0 cap xs w (Jnx hb) (JP hb) hlen).mono ?_; rintro e w' ⟨rfl, n, os, hw⟩
 obtain ⟨h1, h2⟩ := Jie (ys := YR xs) (by unfold YR; rw [List.length_mergeSort]) hw hb
 exact ⟨(), rfl, hs.set hk h1 h2⟩
theorem Jjw (k : Int) : PureE (α := Nat) Tryz.prog 104 [.int .i64 k].toArray (fun r => .func (.func 171) #[] #[.pointer (some ⟨r, 0, none⟩)]) (fun r => [(r, .cells #[.int .i64 k] 3 (0, 0))]) := by
 refine Kq Tryz.func104 O O fun w => ?_; exact El
def okL (f k v : Int) : Bool := okI k v && decide (f ≥ loI k v) && decide (f ≤ hiI k v)
def Xv (f k : Int) : List Int := YR ((Xd k tableKV).filter (okL f k))
section
variable {c : Cx} {l : KQ} {L : Jx} {X : XP} {Q : Exit → Act → World → Prop} {d : List Deferred}
variable {ops : Array Oper} {rest : List Oper} {i : Nat} {ps : String} {af : Array Edge} {gd : Option (Nat × Bool)} {ty : TypeId}
theorem Jjx {f : Operand} {xs : List Int} (hP : c.P = Tryz.prog) (hp : L.Perm (JE 3 (xs.map (Value.int .i64)) row ++ L0))
  (hg : Kz l ops ⟨some i, .call ⟨.value f, #[x], at_⟩, ty, ps, af, gd⟩ = some true) (hi : Nat.ble (i + 1) c.n = true) (hf : Kx l f = some (.func (.func 106) #[] #[])) (hx : Kx l x = some (J9 xs.length row)) (hok : rowOk 1 xs.length (xs.map (Value.int .i64)) row)
  (hlen : xs.length < 4611686018427387904)
  (h : HL c d ((i, .tuple #[]) :: l) (L0 ++ JE 3 ((YR xs).map (Value.int .i64)) row) X ops rest Q) : HL c d l L X ops (⟨some i, .call ⟨.value f, #[x], at_⟩, ty, ps, af, gd⟩ :: rest) Q := by
 refine Kv hp ?_
 cases row with
 | none =>
  obtain ⟨h1, h2⟩ := hok
  have hxs : xs = [] := by simpa using h2
  subst hxs; refine Jn hg hi ?_ (hP ▸ enters_of Tryz.func106 m6 O) (hP ▸ Jjv) ?_
  ·simp only [KM, hf, evs, hx]; rfl
  ·simpa [YR, JE] using h
 | some p =>
  obtain ⟨r, cap, sp⟩ := p
  refine XK (α := Unit) (V := fun _ => .tuple #[]) (X' := fun _ => X) (vs := [.slice (some ⟨r, 0, none⟩) xs.length cap]) hg hi ?_ (hP ▸ enters_of Tryz.func106 m6 O) (J2v (k := 0) (sp := sp) hP O hlen) fun _ => ?_
  ·simp only [KM, hf, evs, hx]; rfl
  ·exact Kv (List.perm_append_comm (l₁ := [_])) h
end
theorem vX (f k : Int) : PureE (α := { row : QC // rowOk 1 (Xv f k).length ((Xv f k).map (Value.int .i64)) row }) Tryz.prog 48 [.int .i64 f, .int .i64 k].toArray (fun r => J9 (Xv f k).length r.1) (fun r => JE 3 ((Xv f k).map (Value.int .i64)) r.1) := by
  refine Kq Tryz.func48 O O fun w => NB fun r1 r2 => ?_; refine kL ?_; refine LN O fun r3 => kL ?_; refine Eu ?_; refine Kj O O O (enters_of Tryz.func104 m6 O) (Jjw k) fun rc => ?_; change HL _ _ _ [(rc, .cells #[.int .i64 k] 3 (0, 0)), (r3, _), (r2, _), (r1, _)] _ _ _ _; refine ki ?_; refine Vz [1, 0, 2, 3] m7 O (XN (τ := Unit) (fun ys (s : List Value × QC) => s.1 = (ys.filter (okL f k)).map (.int .i64) ∧ rowOk 1 s.1.length s.1 s.2 ∧ ys.length ≤ 14) (fun s => (r3, .cells #[J9 s.1.length s.2] 92 (0, 0)) :: JE 3 s.1 s.2) (fun _ _ => False) (fun _ => []) [(rc, _), (r2, _), (r1, _)] ([], none) O O (enters_of Tryz.func171 m6 O) (Jju k rc) (by rintro _ _ _ ⟨x, rfl, _⟩; rfl) rfl ml rfl ⟨rfl, ⟨rfl, rfl⟩, by simp⟩ ?_ ?_ ?_)
  · rintro q Xr Xb w3 ys _ _ ⟨xs, row⟩ ⟨x, rfl, rfl, hys⟩ ⟨hxs, hrow, -⟩ Kr hKr; refine inR ?_
    simp only at hxs hrow hKr ⊢
    have hn : xs.length ≤ 14 := by rw [hxs, List.length_map]; exact Nat.le_trans (List.length_filter_le _ _) m5
    refine Kk 3 O (F2 ?_); clear hKr; refine Gy ?_; refine LR O (Je O (JF (k := 2) O) O O) (GR ?_); refine Q1 O (Jn O O O (enters_of Tryz.func105 m6 O) (xW ..) (JN 2 O ?_)); refine cD (fun g => ?_) fun g => ?_
    · refine Qy 3 [0] O O (J0 (vs := [_]) (zs := [_]) (r := [_]) O O O O O O O O O mg O fun r4 => JA (L0 := [_, _]) (xs := xs) (row := row) (n := xs.length) (sz := 1) (b := 8) (news := [_]) (List.perm_append_comm (l₁ := [_, _])) O O O O (kn 0 O) O O O O O m7 O O O m7 hrow m5 m5 fun ra cap sp hra => ?_)
      refine LT 2 O O (J1 2 O ?_)
      by_cases hlx : okL f k x = true
      · first
        | (refine KU [2, 0] (L' := [_, _]) m7 O ?_
           refine Qa (xs ++ [.int .i64 x], some (ra, cap, sp)) ⟨?_, ?_, ?_⟩ ?_
           simp [hxs, List.filter_append, hlx]
           simpa using hra
           simp; omega
           simp [J9, JE])
        | (exfalso; unfold okL at hlx; simp_all; done)
      · first
        | (refine Qa (xs, row) ⟨?_, hrow, ?_⟩ O
           simp [hxs, List.filter_append, hlx]
           simp; omega)
        | (exfalso; unfold okL at hlx; simp_all; done)
    · refine Kk 2 O ?_
      by_cases hlx : okL f k x = true
      · first
        | (refine KU [2, 0] (L' := [_, _]) m7 O ?_
           refine Qa (xs ++ [.int .i64 x], some (ra, cap, sp)) ⟨?_, ?_, ?_⟩ ?_
           simp [hxs, List.filter_append, hlx]
           simpa using hra
           simp; omega
           simp [J9, JE])
        | (exfalso; unfold okL at hlx; simp_all; done)
      · first
        | (refine Qa (xs, row) ⟨?_, hrow, ?_⟩ O
           simp [hxs, List.filter_append, hlx]
           simp; omega)
        | (exfalso; unfold okL at hlx; simp_all; done)
  rintro D ys ⟨xs, row⟩ hfi ⟨hxs, hrow, hlen⟩
  simp only at hxs hrow ⊢; subst hxs; rw [List.length_map] at hrow ⊢
  have hn : (ys.filter (okL f k)).length ≤ 14 := Nat.le_trans (List.length_filter_le _ _) hlen
  have hv : Xv f k = YR (ys.filter (okL f k)) := (qn (hfi.filter _)).symm
  refine gqo 4 O (Eu ?_); refine Jjx (L0 := (D, _) :: (r3, _) :: [_, _, _]) O ((List.perm_append_comm_assoc [_, _] _ _)) O O O O hrow m5 (Goq 9 [1] O O (HK ?_)); refine NW fun w1 hs1 => ?_
  generalize Xv f k = vl at hv ⊢
  subst hv
  have hle : (YR (ys.filter (okL f k))).length = (ys.filter (okL f k)).length := by unfold YR; rw [List.length_mergeSort]
  exact ⟨⟨row, by rw [hle]; exact hrow.same (by simp [hle])⟩, by simp [JB, hle], hs1.weakL (List.sublist_append_right [_, _, _, _, _] _)⟩
  · exact Gh
def xM (f k v : Int) : Bool := (V4 k v).2.2 && decide ((V4 k v).1 ≤ f) && decide (f ≤ (V4 k v).2.1)
def Jho (n : Nat) : List Int := (List.range n).map fun j : Nat => (j : Int)
theorem j4 (n : Nat) : Jho (n + 1) = Jho n ++ [(n : Int)] := by simp [Jho, List.range_succ]
theorem Jhp (n : Nat) : (Jho n).length = n := by simp [Jho]
def jV (f k : Int) : List Int := (Jho 127).filter (xM f k)
theorem xz (f k : Int) : PureE (α := { row : QC // rowOk 1 (jV f k).length ((jV f k).map (Value.int .i64)) row }) Tryz.prog 94 [.int .i64 f, .int .i64 k].toArray (fun r => J9 (jV f k).length r.1) (fun r => JE 3 ((jV f k).map (Value.int .i64)) r.1) := by
 refine Kq Tryz.func94 O O fun w => JJ (JC 17 O (Jw (σ := Nat × List Value × QC) (fun s => s.1 ≤ 127 ∧ s.2.1 = ((Jho s.1).filter (xM f k)).map (.int .i64) ∧ rowOk 1 s.2.1.length s.2.1 s.2.2) (fun s => [(0, .int .i64 f), (1, .int .i64 k), (5, J9 s.2.1.length s.2.2), (6, .int .i64 (s.1 : Int))]) (fun s => JE 3 s.2.1 s.2.2) (fun _ _ _ => True) (fun s => 127 - s.1) (0, [], none) ⟨by decide, rfl, ⟨rfl, rfl⟩⟩ (lK rfl) (List.nil_sublist _) (fun _ _ h => h) ?_)); rintro ⟨n, xs, row⟩ ⟨hn, hxs, hrow⟩; simp only at hn hxs hrow ⊢
 have hlen : xs.length ≤ n := by rw [hxs, List.length_map]; exact Nat.le_trans (List.length_filter_le _ _) (Nat.le_of_eq (Jhp n))
 refine Dk ?_; refine cD (fun g => ?_) fun g => ?_
 ·refine Jt 9 O (Jn O O O (enters_of Tryz.func150 m6 O) (ZH ..) (JN 8 O (cD (fun g => ?_) fun g => ?_)))
  ·refine Gy ?_; refine kj fun r1 => ?_; refine JA (L0 := [_]) (xs := xs) (row := row) (n := xs.length) (sz := 1) (b := 8) (news := [_]) (List.perm_append_comm (l₁ := [_])) O O O O (kn 0 O) O O O O O m7 O O O m7 hrow m5 m5 fun ra cap sp hra => D8 ?_
   by_cases hlx : xM f k n = true
   ·first
    | exact Jo (n + 1, xs ++ [Value.int .i64 (n : Int)], some (ra, cap, sp)) ⟨by simp only; omega, by simp [hxs, j4, List.filter_append, hlx], by simpa using hra⟩ mh (.cons rfl (.cons rfl (.cons (congrArg some rowV_snoc.symm) (.cons rfl .nil)))) Jki (fun _ _ h => h)
    | (exfalso; unfold xM at hlx; simp_all; done)
   ·first
    | exact Jo (n + 1, xs, row) ⟨by simp only; omega, by simp [hxs, j4, List.filter_append, hlx], hrow⟩ mh (lK rfl) (List.Sublist.refl _) (fun _ _ h => h)
    | (exfalso; unfold xM at hlx; simp_all; done)
  ·refine Hs ?_
   by_cases hlx : xM f k n = true
   ·first
    | exact Jo (n + 1, xs ++ [Value.int .i64 (n : Int)], some (ra, cap, sp)) ⟨by simp only; omega, by simp [hxs, j4, List.filter_append, hlx], by simpa using hra⟩ mh (.cons rfl (.cons rfl (.cons (congrArg some rowV_snoc.symm) (.cons rfl .nil)))) Jki (fun _ _ h => h)
    | (exfalso; unfold xM at hlx; simp_all; done)
   ·first
    | exact Jo (n + 1, xs, row) ⟨by simp only; omega, by simp [hxs, j4, List.filter_append, hlx], hrow⟩ mh (lK rfl) (List.Sublist.refl _) (fun _ _ h => h)
    | (exfalso; unfold xM at hlx; simp_all; done)
 ·refine Kk 12 O (NW fun w1 hs1 => ?_)
  have hn7 : n = 127 := by omega
  subst hn7
  have hx : xs = (jV f k).map (.int .i64) := hxs
  clear hxs; subst hx; rw [List.length_map] at hrow; exact ⟨⟨row, hrow⟩, by simp [JB], hs1⟩
def Jhq (l : List Int) : Value := if l = [] then .tuple #[.int .i64 0, .int .i64 10] else .tuple #[.int .i64 (l.getD (l.length - 1) 0), .int .i64 0]
theorem Jbm {l : List Int} (h : ¬ ((l.length : Nat) : Int) = 0) : (l.map (Value.int .i64))[l.length - 1]? = some (.int .i64 (l.getD (l.length - 1) 0)) := by
 have : l.length - 1 < l.length := by omega
 simp [this, List.getD_eq_getElem?_getD]
theorem Jpl (f k : Int) : (Xv f k).length ≤ 14 := by
 unfold Xv YR
 rw [List.length_mergeSort]; exact Nat.le_trans (List.length_filter_le _ _) (xx k tableKV)
theorem Jvo (f k : Int) : (jV f k).length ≤ 127 := Nat.le_trans (List.length_filter_le _ _) (Nat.le_of_eq (Jhp 127))
theorem xA (f k : Int) : Pure Tryz.prog 21 [.int .i64 f, .int .i64 k].toArray (Jhq (Xv f k)) := by
  refine Jl Tryz.func21 O O fun w => JJ ?_
  have hlen := Jpl f k
  refine Jt 10 O (Kj O O O (enters_of Tryz.func48 m6 O) (vX f k) fun x1 => ?_)
  rcases x1 with ⟨_ | ⟨ra, cap, sp⟩, hrow⟩
  all_goals first | change HL _ _ ((_, .slice none 0 0) :: _) [] _ _ _ _ | change HL _ _ ((_, .slice (some ⟨ra, 0, none⟩) (Xv f k).length cap) :: _) [(ra, .cells ((Xv f k).map (Value.int .i64) ++ sp).toArray 3 (0, 0))] _ _ _ _
  all_goals (
   refine J1 2 O (gqo 5 O ?_); refine kF ?_; refine ki ?_; refine J7 O (fun g => ?_) (fun g => ?_)
   · try simp only [ZZ] at g
     refine Dx fun w1 hs1 => ?_
     (have h0 : Xv f k = [] := by first | exact List.eq_nil_of_length_eq_zero hrow.1 | exact List.eq_nil_of_length_eq_zero m5
      simp [JB, Jhq, h0]; done)
   · try exact Bool.noConfusion g
     all_goals try simp only [ZZ] at g
     all_goals (
      refine Gq ?_; refine kF ?_; refine QN O (Jb m5 m5 (LR O (JO (j := (Xv f k).length - 1) (m := 1) (off' := (Xv f k).length - 1) O O O O m5 m5 m5) ?_)); refine LR O (Je O (kn 0 O) O (Ym (Jbm m9))) (gy ?_); refine NA fun w1 hs1 => ?_
      (have h0 : Xv f k ≠ [] := fun h => by simp_all
       simp [JB, Jhq, h0])
      skip)
   skip)
theorem Jd9 (f k : Int) : Pure Tryz.prog 40 [.int .i64 f, .int .i64 k].toArray (Jhq (jV f k)) := by
  refine Jl Tryz.func40 O O fun w => JJ ?_
  have hlen := Jvo f k
  refine Jt 10 O (Kj O O O (enters_of Tryz.func94 m6 O) (xz f k) fun x1 => ?_)
  rcases x1 with ⟨_ | ⟨ra, cap, sp⟩, hrow⟩
  all_goals first | change HL _ _ ((_, .slice none 0 0) :: _) [] _ _ _ _ | change HL _ _ ((_, .slice (some ⟨ra, 0, none⟩) (jV f k).length cap) :: _) [(ra, .cells ((jV f k).map (Value.int .i64) ++ sp).toArray 3 (0, 0))] _ _ _ _
  all_goals (
   refine J1 2 O (gqo 5 O ?_); refine kF ?_; refine ki ?_; refine J7 O (fun g => ?_) (fun g => ?_)
   · try simp only [ZZ] at g
     refine Dx fun w1 hs1 => ?_
     (have h0 : jV f k = [] := by first | exact List.eq_nil_of_length_eq_zero hrow.1 | exact List.eq_nil_of_length_eq_zero m5
      simp [JB, Jhq, h0]; done)
   · try exact Bool.noConfusion g
     all_goals try simp only [ZZ] at g
     all_goals (
      refine Gq ?_; refine kF ?_; refine QN O (Jb m5 m5 (LR O (JO (j := (jV f k).length - 1) (m := 1) (off' := (jV f k).length - 1) O O O O m5 m5 m5) ?_)); refine LR O (Je O (kn 0 O) O (Ym (Jbm m9))) (gy ?_); refine NA fun w1 hs1 => ?_
      (have h0 : jV f k ≠ [] := fun h => by simp_all
       simp [JB, Jhq, h0])
      skip)
   skip)
def jg (k : Int) : List Int := if k = 1 then [0, 1, 2, 4, 126] else if k = 2 then [0, 1, 2] else if k = 3 then [0, 1] else if k = 4 then [0, 2] else if k = 5 then [0, 1] else []
def vl (f k : Int) : List Int := (jg k).filter (xM f k)
theorem Jjy (f k v : Int) : okL f k v = xM f k v := by
 unfold okL xM loI hiI okI
 cases h : (V4 k v).2.2 <;> simp
theorem Jpm {k : Int} (h1 : k ≠ 1) (h2 : k ≠ 2) (h3 : k ≠ 3) (h4 : k ≠ 4) (h5 : k ≠ 5) (v : Int) : okI k v = false := by
 simp [okI, V4, h1, h2, h3, h4, h5]
theorem Jpn (k : Int) : (Xd k tableKV).Perm (jg k) := by
 by_cases h1 : k = 1
 ·subst h1; decide
 by_cases h2 : k = 2
 ·subst h2; decide
 by_cases h3 : k = 3
 ·subst h3; decide
 by_cases h4 : k = 4
 ·subst h4; decide
 by_cases h5 : k = 5
 ·subst h5; decide
 have e1 : jg k = [] := by simp [jg, h1, h2, h3, h4, h5]
 have e2 : Xd k tableKV = [] := by
  have a1 : (1 == k) = false := by simpa using Ne.symm h1
  have a2 : (2 == k) = false := by simpa using Ne.symm h2
  have a3 : (3 == k) = false := by simpa using Ne.symm h3
  have a4 : (4 == k) = false := by simpa using Ne.symm h4
  have a5 : (5 == k) = false := by simpa using Ne.symm h5
  have hp : ∀ a b, J2u (Qj a b) = a := fun _ _ => rfl
  simp [Xd, tableKV, hp, Ne.symm h1, Ne.symm h2, Ne.symm h3, Ne.symm h4, Ne.symm h5]
 rw [e1, e2]
theorem Jvp (k : Int) : (Jho 127).filter (fun v => okI k v) = jg k := by
 by_cases h1 : k = 1
 ·subst h1; decide
 by_cases h2 : k = 2
 ·subst h2; decide
 by_cases h3 : k = 3
 ·subst h3; decide
 by_cases h4 : k = 4
 ·subst h4; decide
 by_cases h5 : k = 5
 ·subst h5; decide
 have e1 : jg k = [] := by simp [jg, h1, h2, h3, h4, h5]
 rw [e1, List.filter_eq_nil_iff]; intro v _; rw [Jpm h1 h2 h3 h4 h5]
 decide
theorem Jhr (k : Int) : (jg k).Pairwise (fun x y => x < y) := by
 unfold jg
 split
 ·decide
 split
 ·decide
 split
 ·decide
 split
 ·decide
 split
 ·decide
 exact List.Pairwise.nil
theorem Jvq (f k : Int) : Xv f k = vl f k := by
 have h1 : (fun v => okL f k v) = xM f k := funext (Jjy f k)
 unfold Xv vl
 rw [show okL f k = xM f k from h1]; rw [show YR ((Xd k tableKV).filter (xM f k)) = YR ((jg k).filter (xM f k)) from qn ((Jpn k).filter _)]
 unfold YR
 exact List.mergeSort_of_pairwise (((Jhr k).filter _).imp fun h => by simpa using Int.le_of_lt h)
theorem Jzw (f k : Int) : jV f k = vl f k := by
 unfold jV vl
 rw [← Jvp k, List.filter_filter]
 apply List.filter_congr
 intro v _
 unfold xM okI
 cases (V4 k v).2.2 <;> simp
def Jm6 (l : List Int) : Int := l.getD (l.length - 1) 0
def Jm7 (l : List Int) : Int := if l = [] then 10 else 0
def Jzx (l : List Int) : Value := .tuple #[.int .i64 (Jm6 l), .int .i64 (Jm7 l)]
theorem Jm8 (l : List Int) : Jhq l = Jzx l := by
 unfold Jhq Jzx Jm6 Jm7
 by_cases h : l = [] <;> simp [h]
theorem J4p (f k : Int) : Pure Tryz.prog 21 [.int .i64 f, .int .i64 k].toArray (Jzx (vl f k)) := by
 have := xA f k
 rwa [Jvq, Jm8] at this
theorem J2w (f k : Int) : Pure Tryz.prog 40 [.int .i64 f, .int .i64 k].toArray (Jzx (vl f k)) := by
 have := Jd9 f k
 rwa [Jzw, Jm8] at this
theorem J2x {k v : Int} (h : okI k v = true) : xM f k v = (decide (loI k v ≤ f) && decide (f ≤ hiI k v)) := by
 rw [← Jjy]; unfold okL; rw [h]; simp
theorem J2y {k v : Int} (h : okI k v = false) : xM f k v = false := by
 rw [← Jjy]; unfold okL; rw [h]; simp
theorem Jea {k v : Int} : xM f k v = true ↔ okI k v = true ∧ loI k v ≤ f ∧ f ≤ hiI k v := by
 cases h : okI k v with
 | true => rw [J2x h]; simp
 | false => rw [J2y h]; simp
theorem grow {a b c k v : Int} (h1 : a ≤ b) (h2 : b ≤ c) (ha : xM a k v = true) (hc : xM c k v = true) : xM b k v = true := by
 obtain ⟨a1, a2, a3⟩ := Jea.1 ha
 obtain ⟨c1, c2, c3⟩ := Jea.1 hc
 exact Jea.2 ⟨a1, by omega, by omega⟩
def sV (s : List UInt8) : Value := .string (bs s)
def pV (p : List (List UInt8)) : Value := .agg (p.map sV).toArray
theorem Jhs {p : List (List UInt8)} (h : j < p.length) : (p.map sV)[j]? = some (.string (bs (p.getD j []))) := by
 simp [h, sV, List.getD_eq_getElem?_getD]
def Jht (p : List (List UInt8)) : Bool := p.all fun x => decide (x.length = 32)
def xB (v : Int) : List UInt8 := Yw [v.toNat, 0, 0, 0] 32
def xC (v : Int) (n : Nat) : List UInt8 := if v = 1 then Y2 n 8 else []
def Ww (v : Int) (p : List (List UInt8)) (n : Nat) : List UInt8 × Int :=
 if v ≠ 0 ∧ v ≠ 1 then ([], 9) else if Jht p = false ∨ (v = 0 ∧ n ≠ 0) then ([], 2) else (xB v ++ p.flatten ++ xC v n, 0)
theorem Jvr {v : Int} {p : List (List UInt8)} {n : Nat} (h0 : ¬ v = 0) (h1 : ¬ v = 1) : Ww v p n = ([], 9) := by unfold Ww; rw [if_pos ⟨h0, h1⟩]
theorem yB {v : Int} {p : List (List UInt8)} {n : Nat} (h : v = 0 ∨ v = 1) (hi : i < p.length) (hl : ¬ (p.getD i []).length = 32) : Ww v p n = ([], 2) := by
 have ha : Jht p = false := by
  rw [Bool.eq_false_iff]; intro h2
  have := List.all_eq_true.1 h2 (p.getD i []) (by simp [List.getD_eq_getElem?_getD, hi])
  exact hl (of_decide_eq_true this)
 unfold Ww; rw [if_neg m5, if_pos (.inl ha)]
theorem Jm9 {v : Int} {p : List (List UInt8)} {n : Nat} (h : v = 0) (hn : ¬ n = 0) : Ww v p n = ([], 2) := by
 unfold Ww; rw [if_neg m5, if_pos (.inr ⟨h, hn⟩)]
theorem Jvs {p : List (List UInt8)} (h : ∀ j, j < p.length → (p.getD j []).length = 32) : Jht p = true := by
 refine List.all_eq_true.2 fun x hx => ?_
 obtain ⟨j, hj, rfl⟩ := List.getElem_of_mem hx
 have := h j hj
 rw [List.getD_eq_getElem?_getD, List.getElem?_eq_getElem hj] at this; exact decide_eq_true this
theorem yC {v : Int} {p : List (List UInt8)} {n : Nat} (h : v = 0 ∨ v = 1) (ha : ∀ j, j < p.length → (p.getD j []).length = 32) (hn : v = 0 → n = 0) : Ww v p n = (xB v ++ p.flatten ++ xC v n, 0) := by
 unfold Ww; rw [if_neg m5, if_neg (by rw [Jvs ha]; rintro (h2 | ⟨h2, h3⟩); cases h2; exact h3 (hn h2))]
theorem j5 {p : List (List UInt8)} : ∀ i, i ≤ p.length → (∀ j, j < i → (p.getD j []).length = 32) → (p.take i).flatten.length = 32 * i
 | 0, _, _ => by simp
 | i + 1, hi, h => by
  rw [List.take_succ, List.getElem?_eq_getElem m5, List.flatten_append, List.length_append, j5 i m5 fun j hj => h j m5]
  have := h i m5
  rw [List.getD_eq_getElem?_getD, List.getElem?_eq_getElem m5] at this; simp at this ⊢; omega
theorem Jpo {p : List (List UInt8)} (hi : i < p.length) : (p.take (i + 1)).flatten = (p.take i).flatten ++ p.getD i [] := by
 rw [List.take_succ, List.getElem?_eq_getElem hi, List.flatten_append, List.getD_eq_getElem?_getD, List.getElem?_eq_getElem hi]; simp
theorem J4q {n : Nat} (hn : n < 18446744073709551616) : jZ n 8 = (Y2 n 8, 0) := by
 unfold jZ; rw [if_neg (by have := Jye hn; omega)]; rfl
theorem vY (v : Int) : (xB v).length = 32 := Q2 _ _
theorem Jpp {p : List (List UInt8)} (hp : p.length = 3) {n : Nat} (hn : n < 18446744073709551616) (v : Int) : Pure Tryz.prog 49 [.int .i64 v, pV p, uV n].toArray (Wm (Ww v p n)) := by
  refine Jl Tryz.func49 rfl rfl fun w => ?_; refine JJ ?_
  have hhl := vY v
  refine Jt 2 rfl ?_; refine JX (cs := (p.map sV).toArray) rfl rfl rfl rfl fun r1 => ?_; refine JH 10 rfl ?_
  refine Jv 14 rfl (fun gb => ?_) (fun gb => ?_) <;> (try simp only [ZZ] at gb) <;> first | (refine Q1 rfl ?_) | (refine LK rfl ?_)
  all_goals (
   refine LW 2 [] rfl rfl (J1 1 rfl (XC 1 rfl ?_)); refine J7 rfl (fun g => ?_) (fun g => ?_)
   · try exact Bool.noConfusion g
     all_goals try simp only [ZZ] at g
     all_goals (
      refine Kk 8 rfl ?_; refine Jf rfl rfl (.cons (Jh rfl) (.cons (Jh rfl) .nil)) (fun w1 hs1 => ?_); refine ⟨?_, hs1.keep⟩; rw [Jvr (by omega) (by omega)]; rfl
      skip)
   · try simp only [ZZ] at g
     refine JC 3 rfl ?_
     have hv01 : v = 0 ∨ v = 1 := by omega
     refine Jt 3 rfl ?_; refine Jq (show _ = uV v.toNat from congrArg (Value.int .u64) (by rw [wrap_u64 (by omega) (by omega)]; omega)) ?_; refine Jn rfl rfl rfl wu (Wu v.toNat) ?_; refine Jn rfl rfl rfl Jf6 (Vs (l := [v.toNat, 0, 0, 0]) (Jop (by omega))) ?_; refine Jq (show _ = Value.string (bs (xB v ++ (p.take 0).flatten)) from by simp [xB]) ?_; refine JN 10 rfl ?_; refine Jw (σ := Nat) (fun i => i ≤ p.length ∧ ∀ j, j < i → (p.getD j []).length = 32) (fun i => [(0, .int .i64 v), (2, uV n), (4, .pointer (some ⟨r1, 0, none⟩)), (8, .string (bs (xB v ++ (p.take i).flatten))), (22, .int .i64 (i : Int))]) (fun i => [(r1, .cells (p.map sV).toArray 56 (0, 0))]) (fun _ _ _ => True) (fun i => 3 - i) 0 ⟨Nat.zero_le _, fun j hj => by omega⟩ (lK rfl) (List.Sublist.refl _) (fun _ _ h => h) ?_; rintro i ⟨hi, hall⟩; refine JC 6 rfl ?_; refine cD (fun g => ?_) fun g => ?_
     refine JC 12 rfl ?_
     have hfl := j5 i (by omega) hall
     refine Jt 2 rfl ?_; refine LR rfl (JD (j := i) (m := 1) (off' := i) rfl rfl rfl rfl (by omega) (by omega) (by omega)) ?_; refine LR rfl (Kf rfl (kn 0 rfl) rfl (Jhs (by omega))) ?_; refine LR rfl (Kp rfl rfl) ?_; refine JN 3 rfl ?_; refine cD (fun g => ?_) fun g => ?_
     refine Kk 13 rfl ?_; refine Jf rfl rfl (.cons (Jh rfl) (.cons (Jh rfl) .nil)) (fun w1 hs1 => ?_); refine ⟨?_, hs1.keep⟩; rw [yB (i := i) hv01 (by omega) (by omega)]; rfl
     refine Jt 5 rfl ?_; refine LR rfl (JD (j := i) (m := 1) (off' := i) rfl rfl rfl rfl (by omega) (by omega) (by omega)) ?_; refine LR rfl (Kf rfl (kn 0 rfl) rfl (Jhs (by omega))) ?_; refine LR rfl (KB rfl rfl (by simp only [List.length_append]; omega)) ?_; refine JH 6 rfl ?_; refine Jb (by omega) (by omega) ?_; refine J1 2 rfl ?_; refine Jr ?_
     exact Jo (i + 1) ⟨by omega, fun j hj => by
       by_cases hji : j = i
       subst hji; omega
       exact hall j (by omega)⟩ (by omega) (.cons rfl (.cons rfl (.cons rfl (.cons (by rw [Jpo (by omega), ← List.append_assoc]; rfl) (.cons rfl .nil))))) (List.Sublist.refl _) (fun _ _ h => h)
     · refine JC 7 rfl ?_
       have hi3 : i = p.length := by omega
       subst hi3
       have hfl := j5 p.length (Nat.le_refl _) hall
       rw [List.take_length] at hfl ⊢; rw [hp] at hfl; refine Jt 4 rfl ?_
       refine Jv 38 rfl (fun gb => ?_) (fun gb => ?_) <;> (try simp only [ZZ] at gb) <;> first | (refine Q1 rfl ?_) | (refine LK rfl ?_)
       all_goals (
        refine LW 2 [] rfl rfl (J1 1 rfl (XC 1 rfl ?_)); refine J7 rfl (fun g => ?_) (fun g => ?_)
        · try exact Bool.noConfusion g
          all_goals try simp only [ZZ] at g
          all_goals (
           refine Kk 8 rfl ?_; refine Jf rfl rfl (.cons (Jh rfl) (.cons (Jh rfl) .nil)) (fun w1 hs1 => ?_); refine ⟨?_, hs1.keep⟩; rw [Jm9 (by omega) (by omega)]; rfl
           skip)
        try simp only [ZZ] at g
        refine JC 9 rfl ?_; refine cD (fun g => ?_) fun g => ?_
        refine Jt 3 rfl ?_; refine Jn rfl rfl rfl Jxr (qM hn 8) ?_; refine Jq (congrArg Wm (J4q hn)) ?_; refine JH 10 rfl ?_; refine LR rfl (KB rfl rfl (by simp only [List.length_append, Qk]; omega)) ?_; refine J1 11 rfl ?_; refine Jf rfl rfl (.cons (Jh rfl) (.cons (Jh rfl) .nil)) (fun w1 hs1 => ?_); refine ⟨?_, hs1.keep⟩
        rw [yC hv01 hall (by omega)]; simp only [xC]; first | (rw [if_pos (by omega)]; rfl) | (rw [if_neg (by omega), List.append_nil]; rfl)
        refine Kk 10 rfl ?_; refine Jf rfl rfl (.cons (Jh rfl) (.cons (Jh rfl) .nil)) (fun w1 hs1 => ?_); refine ⟨?_, hs1.keep⟩
        rw [yC hv01 hall (by omega)]; simp only [xC]; first | (rw [if_pos (by omega)]; rfl) | (rw [if_neg (by omega), List.append_nil]; rfl)
        skip)
   skip)
theorem J4r {p : List α} (h : p.length = 3) : ∃ a b c, p = [a, b, c] := by
 match p, h with
 | [a, b, c], _ => exact ⟨a, b, c, rfl⟩
theorem J03 {a b c : List UInt8} (ha : a.length = 32) (hb : b.length = 32) (hc : c.length = 32) : ∀ j, j < [a, b, c].length → ([a, b, c].getD j []).length = 32 := by
 intro j hj
 have : j = 0 ∨ j = 1 ∨ j = 2 := by simp at hj; omega
 rcases this with rfl | rfl | rfl <;> assumption
theorem Jpq {p : List (List UInt8)} (hp : p.length = 3) {n : Nat} (hn : n < 18446744073709551616) (v : Int) : Pure Tryz.prog 95 [.int .i64 v, pV p, uV n].toArray (Wm (Ww v p n)) := by
  obtain ⟨a, b, c, rfl⟩ := J4r hp
  refine Jl Tryz.func95 rfl rfl fun w => ?_; refine JJ ?_
  have hhl := vY v
  refine Jt 2 rfl ?_; refine JX (cs := #[sV a, sV b, sV c]) rfl rfl rfl rfl fun r1 => ?_; refine JH 10 rfl ?_
  refine Jv 13 rfl (fun gb => ?_) (fun gb => ?_) <;> (try simp only [ZZ] at gb) <;> first | (refine Q1 rfl ?_) | (refine LK rfl ?_)
  all_goals (
   refine LW 2 [] rfl rfl (J1 1 rfl (XC 1 rfl ?_)); refine J7 rfl (fun g => ?_) (fun g => ?_)
   · try exact Bool.noConfusion g
     all_goals try simp only [ZZ] at g
     all_goals (
      refine Kk 8 rfl ?_; refine Jf rfl rfl (.cons (Jh rfl) (.cons (Jh rfl) .nil)) (fun w1 hs1 => ?_); refine ⟨?_, hs1.keep⟩; rw [Jvr (by omega) (by omega)]; rfl
      skip)
   · try simp only [ZZ] at g
     refine Jt 5 rfl ?_
     refine LR rfl (JD (j := 0) rfl rfl rfl rfl rfl (by first | decide | omega) (by first | (simp only [Nat.zero_add, Nat.reduceAdd, Nat.reduceMul, Nat.zero_mul, Nat.mul_one, Nat.add_zero]; exact rfl) | exact rfl)) ?_; refine LR rfl (Je rfl (kn 0 rfl) rfl rfl) ?_; refine LR rfl (Kp rfl rfl) ?_; refine LS 2 [] rfl rfl ?_
     refine Jv 21 rfl (fun gb => ?_) (fun gb => ?_) <;> (try simp only [ZZ] at gb) <;> first | (refine LR rfl (JD (j := 1) rfl rfl rfl rfl rfl (by first | decide | omega) (by first | (simp only [Nat.zero_add, Nat.reduceAdd, Nat.reduceMul, Nat.zero_mul, Nat.mul_one, Nat.add_zero]; exact rfl) | exact rfl)) ?_) | (refine LK rfl ?_)
     all_goals refine LW 1 [0] rfl rfl ?_
     all_goals first | refine LR rfl (Kp rfl rfl) ?_ | refine LK rfl ?_
     all_goals refine LW 3 [] rfl rfl ?_
     all_goals first | refine LK rfl ?_ | (refine Jv 27 rfl (fun gb => ?_) (fun gb => ?_) <;> (try simp only [ZZ] at gb) <;> first | (refine LR rfl (JD (j := 2) rfl rfl rfl rfl rfl (by first | decide | omega) (by first | (simp only [Nat.zero_add, Nat.reduceAdd, Nat.reduceMul, Nat.zero_mul, Nat.mul_one, Nat.add_zero]; exact rfl) | exact rfl)) ?_) | (refine LK rfl ?_))
     all_goals refine LW 1 [0] rfl rfl ?_
     all_goals first | refine LR rfl (Kp rfl rfl) ?_ | refine LK rfl ?_
     all_goals refine LW 3 [] rfl rfl ?_
     all_goals first | refine LK rfl ?_ | (refine Jv 33 rfl (fun gb => ?_) (fun gb => ?_) <;> (try simp only [ZZ] at gb) <;> first | (refine Q1 rfl ?_) | (refine LK rfl ?_))
     all_goals refine LW 2 [] rfl rfl ?_
     all_goals first | refine LK rfl ?_ | (refine Jv 36 rfl (fun gb => ?_) (fun gb => ?_) <;> (try simp only [ZZ] at gb) <;> first | (refine Q1 rfl ?_) | (refine LK rfl ?_))
     all_goals (
      refine LW 3 [] rfl rfl (J1 1 rfl (XC 1 rfl ?_)); refine J7 rfl (fun g => ?_) (fun g => ?_)
      · try exact Bool.noConfusion g
        all_goals try simp only [ZZ] at g
        all_goals (
         refine Kk 8 rfl ?_; refine Jf rfl rfl (.cons (Jh rfl) (.cons (Jh rfl) .nil)) (fun w1 hs1 => ?_); refine ⟨?_, hs1.keep⟩
         first | (rw [yB (i := 0) (by omega) (by simp) (by show ¬ a.length = 32; omega)]; rfl) | (rw [yB (i := 1) (by omega) (by simp) (by show ¬ b.length = 32; omega)]; rfl) | (rw [yB (i := 2) (by omega) (by simp) (by show ¬ c.length = 32; omega)]; rfl) | (rw [Jm9 (by omega) (by omega)]; rfl)
         skip)
      · try exact Bool.noConfusion g
        all_goals try simp only [ZZ] at g
        all_goals (
         refine JC 3 rfl ?_
         have hv01 : v = 0 ∨ v = 1 := by omega
         have hla : a.length = 32 := by omega
         have hlb : b.length = 32 := by omega
         have hlc : c.length = 32 := by omega
         refine JK 14 (by kernel_rfl) (by kernel_rfl) ?_; refine Ja rfl rfl rfl (Jg rfl) ?_; refine Ja rfl rfl rfl (J2 rfl rfl rfl) ?_; refine Ks (show _ = uV v.toNat from congrArg (Value.int .u64) (by rw [wrap_u64 (by omega) (by omega)]; omega)) ?_; refine Ja rfl rfl rfl (Ju (r := [_, _, _, _]) rfl rfl) ?_; refine KI rfl rfl rfl wv (Vp (l := [v.toNat, 0, 0, 0]) (Jop (by omega))) ?_; refine Ks (show _ = Value.string (bs (xB v)) from rfl) ?_
         refine Ja rfl rfl rfl (JD (j := 0) rfl rfl rfl rfl rfl (by first | decide | omega) (by first | (simp only [Nat.zero_add, Nat.reduceAdd, Nat.reduceMul, Nat.zero_mul, Nat.mul_one, Nat.add_zero]; exact rfl) | exact rfl)) ?_; refine Ja rfl rfl rfl (Je rfl (kn 0 rfl) rfl rfl) ?_
         refine Ja rfl rfl rfl (KB rfl rfl (by first | omega | (simp only [List.length_append, Qk]; omega))) ?_
         refine Ja rfl rfl rfl (JD (j := 1) rfl rfl rfl rfl rfl (by first | decide | omega) (by first | (simp only [Nat.zero_add, Nat.reduceAdd, Nat.reduceMul, Nat.zero_mul, Nat.mul_one, Nat.add_zero]; exact rfl) | exact rfl)) ?_; refine Ja rfl rfl rfl (Je rfl (kn 0 rfl) rfl rfl) ?_
         refine Ja rfl rfl rfl (KB rfl rfl (by first | omega | (simp only [List.length_append, Qk]; omega))) ?_
         refine Ja rfl rfl rfl (JD (j := 2) rfl rfl rfl rfl rfl (by first | decide | omega) (by first | (simp only [Nat.zero_add, Nat.reduceAdd, Nat.reduceMul, Nat.zero_mul, Nat.mul_one, Nat.add_zero]; exact rfl) | exact rfl)) ?_; refine Ja rfl rfl rfl (Je rfl (kn 0 rfl) rfl rfl) ?_
         refine Ja rfl rfl rfl (KB rfl rfl (by first | omega | (simp only [List.length_append, Qk]; omega))) ?_; refine Ja rfl rfl rfl (J8 rfl) ?_; refine JS ?_; refine JN 9 rfl ?_; refine cD (fun g => ?_) fun g => ?_
         refine Jt 3 rfl ?_; refine Jn rfl rfl rfl J10 (zH hn 8) ?_; refine Jq (congrArg Wm (J4q hn)) ?_; refine JH 10 rfl ?_
         refine LR rfl (KB rfl rfl (by first | omega | (simp only [List.length_append, Qk]; omega))) ?_; refine J1 11 rfl ?_; refine Jf rfl rfl (.cons (Jh rfl) (.cons (Jh rfl) .nil)) (fun w1 hs1 => ?_); refine ⟨?_, hs1.keep⟩
         rw [yC hv01 (J03 hla hlb hlc) (by omega)]; simp only [xC, List.flatten_cons, List.flatten_nil, List.append_nil]; first | (rw [if_pos (by omega)]; simp only [List.append_assoc]; rfl) | (rw [if_neg (by omega)]; simp only [List.append_assoc, List.append_nil]; rfl)
         refine Kk 10 rfl ?_; refine Jf rfl rfl (.cons (Jh rfl) (.cons (Jh rfl) .nil)) (fun w1 hs1 => ?_); refine ⟨?_, hs1.keep⟩
         rw [yC hv01 (J03 hla hlb hlc) (by omega)]; simp only [xC, List.flatten_cons, List.flatten_nil, List.append_nil]; first | (rw [if_pos (by omega)]; simp only [List.append_assoc]; rfl) | (rw [if_neg (by omega)]; simp only [List.append_assoc, List.append_nil]; rfl)
         skip)
      skip)
   skip)
def VT (v : Int) (p : List (List UInt8)) (n : Nat) : List UInt8 × Int := if (Ww v p n).2 = 0 then (WN (Ww v p n).1, 0) else ([], (Ww v p n).2)
theorem Jhu {v : Int} {p : List (List UInt8)} (hp : p.length = 3) (n : Nat) : (Ww v p n).1.length ≤ 136 := by
 unfold Ww
 split
 ·simp
 ·split
  ·simp
  ·rename_i h1 h2
   have ha : ∀ j, j < p.length → (p.getD j []).length = 32 := fun j hj => by
    have h3 : Jht p = true := by
     cases h : Jht p with
     | true => rfl
     | false => exact absurd (.inl h) h2
    exact of_decide_eq_true (List.all_eq_true.1 h3 (p.getD j []) (by simp [List.getD_eq_getElem?_getD, hj]))
   have hf := j5 p.length (Nat.le_refl _) ha
   rw [List.take_length] at hf; simp only [List.length_append, vY, hf, hp, xC]
   split <;> simp [Qk]
theorem Zw {p : List (List UInt8)} (hp : p.length = 3) {n : Nat} (hn : n < 18446744073709551616) (v : Int) : Pure Tryz.prog 22 [.int .i64 v, pV p, uV n].toArray (Wm (VT v p n)) := by
 refine Jl Tryz.func22 O O fun w => JJ ?_
 have hpl := Jhu (v := v) hp n
 refine DL fun r1 => ?_; refine Q1 O (Jn O O O (enters_of Tryz.func49 m6 O) (Jpp hp hn v) (JN 14 O ?_)); refine cD (fun g => ?_) fun g => ?_
 exact Fx
 ·refine gn ?_; refine Jn O O O Ji3 (zM m5) ?_; exact Ek
theorem Zx {p : List (List UInt8)} (hp : p.length = 3) {n : Nat} (hn : n < 18446744073709551616) (v : Int) : Pure Tryz.prog 41 [.int .i64 v, pV p, uV n].toArray (Wm (VT v p n)) := by
 refine Jl Tryz.func41 O O fun w => JJ ?_
 have hpl := Jhu (v := v) hp n
 refine DL fun r1 => ?_; refine Q1 O (Jn O O O (enters_of Tryz.func95 m6 O) (Jpq hp hn v) (JN 14 O ?_)); refine cD (fun g => ?_) fun g => ?_
 exact Fx
 ·refine gn ?_; refine Jn O O O Jxt (Zn m5) ?_; exact Ek
def jW : List Nat → Bool
 | x :: y :: l => decide (x ≤ y) && jW (y :: l)
 | _ => true
theorem Jeb : ∀ {l : List Nat} {i x y : Nat}, l[i]? = some x → l[i + 1]? = some y → y < x → jW l = false
 | [], i, x, y, h, _, _ => by simp at h
 | [a], i, x, y, _, h, _ => by simp at h
 | a :: b :: l, 0, x, y, h1, h2, h => by
  simp only [List.getElem?_cons_zero, List.getElem?_cons_succ, Nat.zero_add, Option.some.injEq] at h1 h2; subst h1 h2
  unfold jW
  rw [decide_eq_false m5]; rfl
 | a :: b :: l, i + 1, x, y, h1, h2, h => by
  rw [List.getElem?_cons_succ] at h1 h2
  unfold jW
  rw [Jeb h1 h2 h, Bool.and_false]
theorem xD : ∀ {l : List Nat}, (∀ i x y, l[i]? = some x → l[i + 1]? = some y → x ≤ y) → jW l = true
 | [], _ => rfl
 | [a], _ => rfl
 | a :: b :: l, h => by
  unfold jW
  rw [decide_eq_true (h 0 a b rfl rfl), xD fun i x y h1 h2 => h (i + 1) x y (by rw [List.getElem?_cons_succ]; exact h1) (by rw [List.getElem?_cons_succ]; exact h2)]; rfl
theorem Jec : ∀ {l : List Nat}, jW l = true → ∀ {i j x y : Nat}, i ≤ j → l[i]? = some x → l[j]? = some y → x ≤ y
 | [], _, i, j, x, y, _, h, _ => by simp at h
 | [a], _, i, j, x, y, hij, h1, h2 => by
  cases i with
  | zero => cases j with
   | zero => rw [h1] at h2; cases h2; exact Nat.le_refl _
   | succ j => simp at h2
  | succ i => simp at h1
 | a :: b :: l, h, i, j, x, y, hij, h1, h2 => by
  unfold jW at h
  obtain ⟨ha, hr⟩ := Bool.and_eq_true_iff.1 h
  have ha := of_decide_eq_true ha
  cases j with
  | zero =>
   obtain rfl : i = 0 := by omega
   rw [h1] at h2; cases h2; exact Nat.le_refl _
  | succ j =>
   rw [List.getElem?_cons_succ] at h2
   cases i with
   | zero =>
    simp only [List.getElem?_cons_zero, Option.some.injEq] at h1; subst h1; exact Nat.le_trans ha (Jec hr (Nat.zero_le _) (i := 0) O h2)
   | succ i => rw [List.getElem?_cons_succ] at h1; exact Jec hr m5 h1 h2
def Zy (t : Nat) : List Nat → Nat
 | x :: l => if x ≤ t then Zy t l + 1 else 0
 | [] => 0
theorem yD (t : Nat) : ∀ l : List Nat, Zy t l ≤ l.length
 | [] => Nat.le_refl _
 | x :: l => by
  have := yD t l
  unfold Zy
  split <;> simp only [List.length_cons] <;> omega
theorem Jna {t : Nat} : ∀ {l : List Nat} {i x : Nat}, i < Zy t l → l[i]? = some x → x ≤ t
 | [], i, x, h, _ => by unfold Zy at h; omega
 | a :: l, i, x, h, hx => by
  unfold Zy at h
  split at h
  ·cases i with
   | zero => simp only [List.getElem?_cons_zero, Option.some.injEq] at hx; subst hx; assumption
   | succ i => rw [List.getElem?_cons_succ] at hx; exact Jna m5 hx
  ·omega
theorem Jnb {t : Nat} : ∀ {l : List Nat} {x : Nat}, l[Zy t l]? = some x → t < x
 | [], x, h => by simp at h
 | a :: l, x, h => by
  unfold Zy at h
  split at h
  ·rw [List.getElem?_cons_succ] at h; exact Jnb h
  ·simp only [List.getElem?_cons_zero, Option.some.injEq] at h; subst h; omega
theorem vc {t : Nat} {l : List Nat} (hr : jW l = true) {x : Nat} (hx : l[i]? = some x) : decide (t < x) = decide (Zy t l ≤ i) := by
 by_cases h : Zy t l ≤ i
 ·have hl := (List.getElem?_eq_some_iff.1 hx).1
  obtain ⟨y, hy⟩ : ∃ y, l[Zy t l]? = some y := ⟨_, List.getElem?_eq_getElem m5⟩
  have h1 := Jnb hy
  have h2 := Jec hr h hy hx
  rw [decide_eq_true h, decide_eq_true m5]
 ·have := Jna (t := t) (l := l) (i := i) m5 hx
  rw [decide_eq_false h, decide_eq_false m5]
def vZ (ts : List Nat) : Int := if ts.length < 1 ∨ ts.length > 6 then 2 else if jW ts = false then 11 else 0
def QB (ts : List Nat) (t : Nat) : Int × Int := if vZ ts ≠ 0 then (0, vZ ts) else if Zy t ts = 0 then (0, 10) else ((Zy t ts : Int) - 1, 0)
def Jzy (n : Nat) (p : Pl) : Value := .agg #[KA n p]
abbrev unC (ts : List Nat) : List Value := ts.map uV
theorem Zz  {x : Nat} (h : ts[i]? = some x) : (unC ts)[i]? = some (uV x) := by rw [List.getElem?_map, h]; rfl
theorem Jjz (h : i < ts.length) : ∃ x, ts[i]? = some x ∧ x ∈ ts := ⟨ts[i], List.getElem?_eq_getElem h, List.getElem_mem h⟩
theorem Jvt (a : Nat) : Pure Tryz.prog 318 [uV a].toArray (.bool false) := by
 refine Jl Tryz.func318 O O fun w => JJ (Kk 14 O (Ni fun w1 hs1 => ?_))
 simp [JB]
theorem Jzz (a b : Nat) : Pure Tryz.prog 247 [uV a, uV b].toArray (.bool (decide (a < b))) := by
 refine Jl Tryz.func247 O O fun w => Gi ?_; refine Jn O O O (enters_of Tryz.func318 m6 O) (Jvt _) (J1 14 O (Ni fun w1 hs1 => ?_))
 simp_all [JB]
theorem Jj0 {p : Pl} (hl : ts.length ≤ 9223372036854775807) (h1 : 1 ≤ ts.length) (hs : Seg R ts.length (unC ts) p) : PureR Tryz.prog 193 [KA ts.length p].toArray (.bool (jW ts)) R := by
 refine Jc Tryz.func193 O O fun w => kV ?_; refine ND ?_; refine QN O (Jb m5 m5 ?_); refine Jq (show _ = Value.int .i64 ((ts.length - 1 : Nat) : Int) from by rw [Int.ofNat_sub h1]; rfl) (Gb ?_); refine Jw (σ := Nat) (fun j => j < ts.length ∧ ∀ i x y, j ≤ i → ts[i]? = some x → ts[i + 1]? = some y → x ≤ y) (fun j => [(0, KA ts.length p), (3, .int .i64 (j : Int))]) (fun _ => []) (fun _ _ _ => True) (fun j => j) (ts.length - 1) ⟨by omega, fun i x y hi _ hy => absurd (List.getElem?_eq_some_iff.1 hy).1 m5⟩ (lK rfl) (List.nil_sublist _) (fun _ _ h => h) ?_; rintro j ⟨hj1, hinv⟩; refine Dk ?_; refine cD (fun g => ?_) fun g => ?_
 refine gk ?_
 obtain ⟨i, rfl⟩ : ∃ i, j = i + 1 := ⟨j - 1, by omega⟩
 obtain ⟨x, hx, hmx⟩ := Jjz (show i < ts.length by omega)
 obtain ⟨y, hy, hmy⟩ := Jjz (show i + 1 < ts.length by omega)
 refine JK 10 m6 m6 (k5 ?_)
 refine D3 ?_; refine Ja O O O (Qz oR O hs m5 O (Zz hy)) (k5 ?_); refine Nn ?_; refine QT m5 m5 ?_
 refine F9 ?_; refine KI O O O (enters_of Tryz.func247 m6 O) (Jzz _ _) (F4 ?_); refine cD (fun g => ?_) fun g => ?_
 refine G5 fun w1 hs1 => ?_; rw [Jeb hx hy (by simp_all)]; rfl
 refine Gq ?_; refine Ew ?_; refine Jq M3 (Dn ?_)
 exact Jo i ⟨by omega, fun q u v hq hu hv => by
  rcases Nat.eq_or_lt_of_le hq with rfl | hq
  rw [hx] at hu; rw [hy] at hv; cases hu; cases hv; simp_all
  exact hinv q u v m5 hu hv⟩ m5 (lK O) (List.nil_sublist _) (fun _ _ h => h)
 ·refine G5 fun w1 hs1 => ?_; rw [xD fun i x y hx hy => hinv i x y m5 hx hy]; rfl
theorem Jpr {p : Pl} (hl : ts.length ≤ 9223372036854775807) (hs : Seg R ts.length (unC ts) p) : PureR Tryz.prog 120 [Jzy ts.length p].toArray (.int .i64 (vZ ts)) R := by
  have hE : vZ ts = if decide ((ts.length : Int) < 1) = true ∨ (ts.length : Int) > 6 then 2 else if jW ts = false then 11 else 0 := by
    unfold vZ
    exact ite_congr (propext (by rw [decide_eq_true_eq]; omega)) (fun _ => rfl) (fun _ => rfl)
  refine Jc Tryz.func120 O O fun w => Nj fun r1 => ?_; refine XG 9 [0] O O (ND ?_); refine ko ?_
  refine Jv 8 O (fun gb => ?_) (fun gb => ?_) <;> (try simp only [ZZ] at gb) <;> first | (refine LR O (J6 O O O) ?_) | (refine LK O ?_)
  all_goals refine Np ?_
  all_goals (
   refine HX ?_; refine J7 O (fun g => ?_) (fun g => ?_)
   try simp only [ZZ] at g
   refine Ej fun w1 hs1 => ?_; rw [hE]; simp only [JB]
   simp_all
   · try exact Bool.noConfusion g
     all_goals try simp only [ZZ] at g
     all_goals (
      refine gp ?_; refine Ji O O O (enters_of Tryz.func193 m6 O) (Jj0 hl m5 hs) oR (Gb ?_); refine cD (fun g => ?_) fun g => ?_
      refine Ej fun w1 hs1 => ?_; rw [hE]; simp only [JB]
      simp_all
      refine Kk 9 O (Ni fun w1 hs1 => ?_); rw [hE]; simp only [JB]
      simp_all
      skip)
   skip)
theorem Jvu {n k : Nat} (hn : n ≤ 1000) (hk : k ≤ n) (eg : Enters Tryz.prog g) (hg : ∀ i, i < n → PureR Tryz.prog g (.int .i64 (i : Int) :: caps).toArray (.bool (decide (k ≤ i))) R) :
  PureR Tryz.prog 121 [.int .i64 (n : Int), .func (.func g) #[] caps.toArray].toArray (.int .i64 (k : Int)) R := by
 refine Jc Tryz.func121 O O fun w => JJ (JC 14 O (Jw (σ := Nat × Nat) (fun s => s.1 ≤ k ∧ k ≤ s.2 ∧ s.2 ≤ n) (fun s => [(1, .func (.func g) #[] caps.toArray), (5, .int .i64 (s.1 : Int)), (6, .int .i64 (s.2 : Int))]) (fun _ => []) (fun _ _ _ => True) (fun s => s.2 - s.1) (0, n) ⟨Nat.zero_le _, hk, Nat.le_refl _⟩ (lK O) (List.nil_sublist _) (fun _ _ h => h) ?_)); rintro ⟨i, j⟩ ⟨hi0, hj0, hj1⟩; simp only at hi0 hj0 hj1; change HC _ _ [(1, _), (5, .int .i64 (i : Int)), (6, .int .i64 (j : Int))] _ _ _ _; refine JC 8 O (cD (fun h6 => ?_) fun h6 => ?_)
 refine Jt 8 O (Ew ?_); refine QN O (Wp m5 m5 (Jq (show _ = Value.int .u64 ((i + j : Nat) : Int) from by rw [Int.natCast_add]) ?_)); refine LR O (jE (n := 1) (b := (((i + j) / 2 : Nat) : Int)) O O O m7 m5 m5) (QN O (Jb m5 m5 (JH 7 O ?_))); refine Ji O O O eg (hg ((i + j) / 2) m5) oR (ki ?_); refine cD (fun h9 => ?_) fun h9 => ?_
 refine Gy ?_; refine Ew ?_; refine H6 ?_; refine Jr ?_; exact Jo ((i + j) / 2 + 1, j) ⟨by simp only; simp at *; omega, hj0, hj1⟩ mh (lK rfl) (List.nil_sublist _) (fun _ _ h => h)
 refine Kk 5 O (Jr ?_); exact Jo (i, (i + j) / 2) ⟨hi0, by simp only; simp at *; omega, by simp only; omega⟩ mh (lK rfl) (List.nil_sublist _) (fun _ _ h => h)
 ·refine Hv fun w1 hs1 => ?_; rw [show i = k by omega]; rfl
theorem J2z {p : Pl} (hs : Seg R ts.length (unC ts) p) {rs rt es et : Nat} {t : Nat} (h1 : (rs, Obj.cells #[KA ts.length p] es (0, 0)) ∈ R) (h2 : (rt, Obj.cells #[uV t] et (0, 0)) ∈ R) (hr : jW ts = true) (hi : i < ts.length) :
  PureR Tryz.prog 122 [.int .i64 (i : Int), .pointer (some ⟨rs, 0, none⟩), .pointer (some ⟨rt, 0, none⟩)].toArray (.bool (decide (Zy t ts ≤ i))) R := by
 obtain ⟨x, hx, hmx⟩ := Jjz hi
 refine Jc Tryz.func122 O O fun w => FA ?_; refine JK 8 m6 m6 ?_
 refine Hn ?_; refine Ja O O O (Je O (Or.inr h1) O O) (Nm ?_)
 refine F9 ?_; refine Ja O O O (Je O (Or.inr h2) O O) (Nn ?_); refine NP ?_; refine H6 ?_; refine Ni fun w1 hs1 => ?_; rw [← vc hr hx]
 simp [JB]
theorem Jvv {p : Pl} (hl : ts.length ≤ 9223372036854775807) (hs : Seg R ts.length (unC ts) p) (t : Nat) : PureR Tryz.prog 71 [Jzy ts.length p, uV t].toArray (.tuple #[.int .i64 (QB ts t).1, .int .i64 (QB ts t).2]) R := by
 refine Jc Tryz.func71 O O fun w => NB fun r1 r2 => ?_; refine gY ?_; refine LR O (Jz (vs := [_]) O (kn 1 O) O O O O) (Ji O O O (enters_of Tryz.func120 m6 O) (Jpr hl hs) oR (H2 ?_)); refine cD (fun g => ?_) fun g => ?_
 refine D4 fun w1 hs1 => ?_; simp only [JB, QB]
 simp_all
 ·refine GU ?_
  have hz : vZ ts = 0 := by assumption
  have h6 : 1 ≤ ts.length ∧ ts.length ≤ 6 ∧ jW ts = true := by
   unfold vZ at hz
   split at hz
   cases hz
   split at hz
   cases hz
   refine ⟨by omega, by omega, ?_⟩; simp_all
  refine Qy 3 [1] O O (ND ?_); refine kJ ?_; refine Ji (Rl := (r1, Obj.cells #[KA ts.length p] 24 (0, 0)) :: (r2, Obj.cells #[uV t] 25 (0, 0)) :: R) O O O (enters_of Tryz.func121 m6 O) (Jvu (caps := [.pointer (some ⟨r1, 0, none⟩), .pointer (some ⟨r2, 0, none⟩)]) m5 (yD t ts) (enters_of Tryz.func122 m6 O) (fun i hi => J2z (hs.mono fun q hq => List.mem_cons_of_mem _ (List.mem_cons_of_mem _ hq)) List.mem_cons_self (List.mem_cons_of_mem _ List.mem_cons_self) h6.2.2 hi)) (fun q hq => (List.mem_cons.1 hq).elim (fun h => Or.inl (by rw [h]; simp)) fun hq => (List.mem_cons.1 hq).elim (fun h => Or.inl (by rw [h]; simp)) Or.inr) (Ht ?_); refine cD (fun g => ?_) fun g => ?_
  refine Dx fun w1 hs1 => ?_; simp only [JB, QB]
  simp_all
  ·refine GU ?_
   have hc6 := yD t ts
   refine Gy ?_; refine Ew ?_; refine gy ?_; refine NA fun w1 hs1 => ?_; simp only [JB, QB]
   simp_all
theorem Jj1 {p : Pl} (hl : ts.length ≤ 9223372036854775807) (hs : Seg R ts.length (unC ts) p) : PureR Tryz.prog 82 [Jzy ts.length p].toArray (.int .i64 (vZ ts)) R := by
  refine Jc Tryz.func82 O O fun w => EX fun r1 => ?_; refine ND ?_; refine ko ?_
  refine Jv 8 O (fun gb => ?_) (fun gb => ?_) <;> (try simp only [ZZ] at gb) <;> first | (refine LR O (J6 O O O) ?_) | (refine LK O ?_)
  all_goals refine Np ?_
  all_goals (
   refine kp ?_; refine J7 O (fun g => ?_) (fun g => ?_)
   try simp only [ZZ] at g
   refine Gv fun w1 hs1 => ?_
   unfold vZ
   rw [if_pos (by first | omega | (simp_all; omega))]; rfl
   · try exact Bool.noConfusion g
     all_goals try simp only [ZZ] at g
     all_goals (
      refine FR ?_
      have h6 : 1 ≤ ts.length ∧ ts.length ≤ 6 := by
        first
        | omega
        | (simp_all; omega)
      refine gk ?_; refine Jw (σ := Nat) (fun j => (1 ≤ j ∧ j ≤ ts.length) ∧ ∀ i x y, i + 1 < j → ts[i]? = some x → ts[i + 1]? = some y → x ≤ y) (fun j => [(1, .pointer (some ⟨r1, 0, none⟩)), (3, .int .i64 (j : Int))]) (fun _ => [(r1, .cells #[KA ts.length p] 24 (0, 0))]) (fun _ _ _ => True) (fun j => ts.length - j) 1 ⟨⟨Nat.le_refl _, h6.1⟩, fun i x y hi => absurd hi m5⟩ (lK O) (List.Sublist.refl _) (fun _ _ h => h) ?_; rintro j ⟨⟨hj0, hj1⟩, hinv⟩; refine Gw ?_; refine cD (fun g => ?_) fun g => ?_
      refine gk ?_
      obtain ⟨i, hi⟩ : ∃ i, j = i + 1 := ⟨j - 1, by omega⟩
      subst hi
      obtain ⟨x, hx, hmx⟩ := Jjz (show i < ts.length by omega)
      obtain ⟨y, hy, hmy⟩ := Jjz (show i + 1 < ts.length by omega)
      refine JK 12 m6 m6 ?_
      refine Nx ?_; refine Nm ?_
      refine D3 ?_; refine Ja O O O (Qz oR O hs m5 O (Zz hy)) ?_
      refine Nx ?_; refine gr ?_; refine QT m5 m5 (Ks M3 ?_)
      refine F9 ?_; refine Nn ?_; refine F4 ?_; refine cD (fun g => ?_) fun g => ?_
      refine G5 fun w1 hs1 => ?_
      unfold vZ
      rw [if_neg m5, if_pos (Jeb hx hy (by simp_all))]; rfl
      refine Hs ?_
      exact Jo (i + 1 + 1) ⟨⟨by omega, by omega⟩, fun q u v hq hu hv => by
        rcases Nat.lt_or_ge (q + 1) (i + 1) with hq2 | hq2
        exact hinv q u v hq2 hu hv
        obtain rfl : q = i := by omega
        rw [hx] at hu; rw [hy] at hv; cases hu; cases hv; simp_all⟩ m5 (lK rfl) (List.Sublist.refl _) (fun _ _ h => h)
      refine G5 fun w1 hs1 => ?_
      unfold vZ
      rw [if_neg m5, if_neg (by rw [xD fun i x y hx hy => hinv i x y (by have := (List.getElem?_eq_some_iff.1 hy).1; omega) hx hy]; simp)]; rfl
      skip)
   skip)
theorem Jnc {t x : Nat} (h : ts[0]? = some x) : t < x ↔ Zy t ts = 0 := by
 cases ts with
 | nil => simp at h
 | cons a l =>
  simp only [List.getElem?_cons_zero, Option.some.injEq] at h; subst h
  unfold Zy
  split <;> constructor <;> intro h2 <;> omega
theorem Jps {p : Pl} (hl : ts.length ≤ 9223372036854775807) (hs : Seg R ts.length (unC ts) p) (t : Nat) : PureR Tryz.prog 31 [Jzy ts.length p, uV t].toArray (.tuple #[.int .i64 (QB ts t).1, .int .i64 (QB ts t).2]) R := by
 refine Jc Tryz.func31 O O fun w => Nj fun r1 => ?_; refine Gu ?_; refine Fp ?_; refine Ji O O O (enters_of Tryz.func82 m6 O) (Jj1 hl hs) oR (Ht ?_); refine cD (fun g => ?_) fun g => ?_
 refine D4 fun w1 hs1 => ?_
 unfold QB
 rw [if_pos (by simp_all)]; rfl
 ·refine FR ?_
  have hz : vZ ts = 0 := by assumption
  have h6 : 1 ≤ ts.length ∧ ts.length ≤ 6 ∧ jW ts = true := by
   unfold vZ at hz
   split at hz
   cases hz
   split at hz
   cases hz
   refine ⟨by omega, by omega, ?_⟩; simp_all
  obtain ⟨x0, hx0, hm0⟩ := Jjz (show 0 < ts.length by omega)
  refine gp ?_
  refine LR O (Jk (j := 0) O hs O O O me m5) (LR O (Qz oR O hs m5 O (Zz hx0)) (ki ?_)); refine cD (fun g => ?_) fun g => ?_
  refine Dx fun w1 hs1 => ?_
  unfold QB
  rw [if_neg (by simp_all), if_pos ((Jnc hx0).1 m5)]; rfl
  ·refine GU ?_
   have hc0 : Zy t ts ≠ 0 := fun h => by have := (Jnc (t := t) hx0).2 h; omega
   have hc6 := yD t ts
   refine JC 11 O (Jw (σ := Nat × Nat) (fun s => s.1 ≤ ts.length ∧ s.2 = min s.1 (Zy t ts) - 1) (fun s => [(1, uV t), (2, .pointer (some ⟨r1, 0, none⟩)), (7, .int .i64 (s.2 : Int)), (8, .int .i64 (s.1 : Int))]) (fun _ => [(r1, .cells #[KA ts.length p] 24 (0, 0))]) (fun _ _ _ => True) (fun s => ts.length - s.1) (0, 0) ⟨Nat.zero_le _, by simp⟩ (lK rfl) (List.Sublist.refl _) (fun _ _ h => h) ?_); rintro ⟨i, f⟩ ⟨hi1, hinv⟩; simp only at hi1 hinv; change HC _ _ [(1, _), (2, _), (7, .int .i64 (f : Int)), (8, .int .i64 (i : Int))] _ _ _ _; refine Gw ?_; refine cD (fun g => ?_) fun g => ?_
   refine gk ?_
   obtain ⟨x, hx, hmx⟩ := Jjz (show i < ts.length by omega)
   refine gp ?_
   refine kT ?_; refine LR O (Qz oR O hs m5 O (Zz hx)) (Gb ?_); refine cD (fun g => ?_) fun g => ?_
   refine Jt 9 O (Nk ?_)
   exact Jo (i + 1, i) ⟨by simp only; omega, by
   have hle : x ≤ t := by simp_all
   have hd := vc (t := t) h6.2.2 hx
   rw [decide_eq_false m5] at hd
   have := of_decide_eq_false hd.symm
   simp only; omega⟩ mh (lK rfl) (List.Sublist.refl _) (fun _ _ h => h)
   refine Hs ?_
   first
    | exact Jo (i + 1, i) ⟨by simp only; omega, by
     have hle : x ≤ t := by simp_all
     have hd := vc (t := t) h6.2.2 hx
     rw [decide_eq_false m5] at hd
     have := of_decide_eq_false hd.symm
     simp only; omega⟩ mh (lK rfl) (List.Sublist.refl _) (fun _ _ h => h)
    | exact Jo (i + 1, f) ⟨by simp only; omega, by
     have hle : t < x := by simp_all
     have hd := vc (t := t) h6.2.2 hx
     rw [decide_eq_true hle] at hd
     have := of_decide_eq_true hd.symm
     simp only; omega⟩ mh (lK rfl) (List.Sublist.refl _) (fun _ _ h => h)
   ·refine Kk 13 O (NA fun w1 hs1 => ?_)
    unfold QB
    rw [if_neg (by simp_all), if_neg hc0, show (Zy t ts : Int) - 1 = (f : Int) by omega]; rfl
structure GenL : Type where
  ts : List Nat
  tp : Pl
  time : Nat
  rc : Rec
  accts : List AcL
  ap : Pl
def GenL.cells (g : GenL) : List Value := [KA g.ts.length g.tp, uV g.time, uV g.rc.number, uV g.rc.time, uV g.rc.base.a, uV g.rc.base.b, uV g.rc.base.c, uV g.rc.base.d, uV g.rc.blob.a, uV g.rc.blob.b, uV g.rc.blob.c, uV g.rc.blob.d, uV g.rc.overhead.a, uV g.rc.overhead.b, uV g.rc.overhead.c, uV g.rc.overhead.d, uV g.rc.scalar, uV g.rc.extra, uV g.rc.operator, KA g.accts.length g.ap]
def GenL.val (g : GenL) : Value := .agg g.cells.toArray
theorem GenL.cells_eq (g : GenL) : g.cells = [KA g.ts.length g.tp, uV g.time] ++ g.rc.cells ++ [KA g.accts.length g.ap] := rfl
def GenL.st (g : GenL) : StL := ⟨g.accts, g.ap⟩
def GenL.ac (g : GenL) : List AcE := g.accts.map AcL.er
structure GenL.In (R : Jx) (g : GenL) : Prop where
  tlen : g.ts.length ≤ ZS
  tseg : Seg R g.ts.length (unC g.ts) g.tp
  tu : ∀ x ∈ g.ts, Wr x
  time : Wr g.time
  rc : g.rc.ok
  st : g.st.In R
theorem GenL.In.mono {R' : Jx} {g : GenL} (h : g.In R) (hs : ∀ q ∈ R, q ∈ R') : g.In R' := ⟨h.tlen, h.tseg.mono hs, h.tu, h.time, h.rc, h.st.mono hs⟩
def Wx (t : Nat) (root : BS) : BS := WN ((jZ t 8).1 ++ root)
theorem Jnd (t : Nat) : (jZ t 8).1.length ≤ 8 := by
 unfold jZ
 split
 ·exact Nat.zero_le _
 ·show (Y2 t 8).length ≤ 8
  simp [Y2]
theorem Jed {t : Nat} (ht : Wr t) (hr : root.length ≤ 1000) : Pure Tryz.prog 35 [uV t, J5 root].toArray (J5 (Wx t root)) := by
 have h8 := Jnd t
 refine Jl Tryz.func35 O O fun w => Gi ?_; refine Jn O O O Jxr (qM ht 8) (JH 11 O ?_)
 refine LR O (KB O O MI) (Jn O O O Ji3 (zM mL) ?_); exact NU
theorem Jee {t : Nat} (ht : Wr t) (hr : root.length ≤ 1000) : Pure Tryz.prog 37 [uV t, J5 root].toArray (J5 (Wx t root)) := by
 have h8 := Jnd t
 refine Jl Tryz.func37 O O fun w => Gi ?_; refine Jn O O O J10 (zH ht 8) (JH 11 O ?_)
 refine LR O (KB O O MI) (Jn O O O Jxt (Zn mL) ?_); exact NU
def Jvw (g : GenL) : Bool := je g.ac && decide (g.ts.length ≤ 100)
theorem J20 {g : GenL} (hg : g.In R) : PureR Tryz.prog 10 [g.val].toArray (.bool (Jvw g)) R := by
 have hts := hg.tseg
 have hF := Jzk hg.st
 have hfe : je g.ac = je g.st.er := rfl
 refine Jc Tryz.func10 O O fun w => gD fun r1 => ?_; refine FK ?_; refine F5 ?_; refine Ji O O O (enters_of Tryz.func29 m6 O) hF oR (Q1 O ?_)
 refine Jv 7 O (fun gb => ?_) (fun gb => ?_) <;> (try simp only [ZZ] at gb) <;> first | (refine LR O (J6 O O O) ?_) | (refine LK O ?_)
 all_goals refine NS ?_
 all_goals refine HP ?_
 all_goals first | refine LR O (Jy O hts O) ?_ | refine LK O ?_
 all_goals (
  refine FQ fun w1 hs1 => ?_; simp only [JB, Jvw, hfe]
  simp_all
  all_goals first | done | omega
  skip)
theorem Jz0 (a b : AcL) : Pure Tryz.prog 77 [vA a, vA b].toArray (.bool (decide (a.addr = b.addr))) := by
 refine Jl Tryz.func77 O O fun w => NB fun r1 r2 => ?_; refine XG 9 [1, 0] O O (LR O (W7 O O) ?_); exact NU
theorem Jz1 (W : Nat) : PureE (α := Nat × Nat) Tryz.prog 30 [Q4 W 0].toArray (fun p => .slice (some ⟨p.2, 0, none⟩) 3 3) (fun p => [(p.2, .cells #[.func (.func 70) #[] #[Q4 p.1 0], .func (.func 72) #[] #[Q4 p.1 0], .func (.func 80) #[] #[Q4 p.1 0]] 73 (0, 0)), (p.1, .cells #[Q4 W 0] 68 (0, 0))]) := by
 refine Kq Tryz.func30 O O fun w => Nj fun r1 => ?_; refine kL ?_; refine kJ ?_; refine kJ ?_; refine kJ ?_; refine J0 (vs := [_, _, _]) (zs := [_, _, _]) (r := [_, _, _]) O O O O O O O O O mg O fun r2 => ?_; exact gu
def Y0 : List BS → Bool
 | x :: y :: l => decide (x = y) || Y0 (y :: l)
 | _ => false
theorem Jef : ∀ {l : List BS} {i : Nat} {x : BS}, l[i]? = some x → l[i + 1]? = some x → Y0 l = true
 | [], i, x, h, _ => by simp at h
 | [a], i, x, _, h => by simp at h
 | a :: b :: l, 0, x, h1, h2 => by
  simp only [List.getElem?_cons_zero, List.getElem?_cons_succ, Nat.zero_add, Option.some.injEq] at h1 h2; subst h1 h2
  unfold Y0
  rw [decide_eq_true rfl]; rfl
 | a :: b :: l, i + 1, x, h1, h2 => by
  rw [List.getElem?_cons_succ] at h1 h2
  unfold Y0
  rw [Jef h1 h2, Bool.or_true]
theorem Jeg : ∀ {l : List BS}, (∀ i x, l[i]? = some x → l[i + 1]? = some x → False) → Y0 l = false
 | [], _ => rfl
 | [a], _ => rfl
 | a :: b :: l, h => by
  unfold Y0
  rw [decide_eq_false fun e => h 0 a rfl (by rw [e]; rfl), Jeg fun i x h1 h2 => h (i + 1) x (by rw [List.getElem?_cons_succ]; exact h1) (by rw [List.getElem?_cons_succ]; exact h2)]; rfl
abbrev Y1 (xs : List AcL) : List BS := xs.map AcL.addr
theorem Yt {x : AcL} (h : xs[i]? = some x) : (Y1 xs)[i]? = some x.addr := by rw [List.getElem?_map, h]; rfl
def CompR (xs : List AcL) : Type := { q : Option Addr × Nat × Nat // (q.2.1 < xs.length ↔ Y0 (Y1 xs) = true) ∧ q.2.1 ≤ xs.length }
def CompR.val {xs : List AcL} (q : CompR xs) : Value := .slice q.1.1 q.1.2.1 q.1.2.2
theorem xE (h : Y0 (Y1 xs) = false) (a : Option Addr) (c : Nat) : (xs.length < xs.length ↔ Y0 (Y1 xs) = true) ∧ xs.length ≤ xs.length := ⟨⟨fun h2 => absurd h2 (Nat.lt_irrefl _), fun h2 => by rw [h] at h2; cases h2⟩, Nat.le_refl _⟩
theorem Jvx (h : xs.length < 2) : Y0 (Y1 xs) = false := Jeg fun i x _ h2 => by
 have := (List.getElem?_eq_some_iff.1 h2).1
 rw [List.length_map] at this; omega
theorem Jpt (hl : xs.length ≤ 1000) (hrow : rowOk 8 xs.length (KV xs) row) (eg : Enters Tryz.prog g) (hg : ∀ x y : AcL, Pure Tryz.prog g [vA x, vA y].toArray (.bool (decide (x.addr = y.addr)))) :
  PureT (α := CompR xs) Tryz.prog 78 [J9 xs.length row, .func (.func g) #[] #[]].toArray (fun q => q.val) (JE 48 (KV xs) row) (fun _ => []) R := by
 cases row with
 | none =>
  have h0 : xs = [] := by
   exact Ft
  subst h0; refine J4 Tryz.func78 O O fun w => kV ?_; refine kF ?_; refine ki ?_; refine J7 O (fun h4 => ?_) (fun h4 => ?_)
  try simp only [ZZ] at h4
  refine GG ?_; refine NW fun w1 hs1 => ?_; exact ⟨⟨(none, 0, 0), xE (xs := []) O none 0⟩, rfl, hs1⟩
  try exact Bool.noConfusion h4
 | some p =>
  obtain ⟨r, cap, sp⟩ := p
  obtain ⟨hr1, hr2⟩ := hrow
  have hcap : xs.length ≤ cap := by omega
  have hseg : ∀ zs : List AcL, zs.length = xs.length → Seg [(r, .cells (KV zs ++ sp).toArray 48 (0, 0))] zs.length (KV zs) (some (⟨r, 0, none⟩, cap)) := fun zs hz => JQ (sz := 8) (row := some (r, cap, sp)) ⟨KO AcL.len _, by have := hr2; rw [hz]; exact hr2⟩ m7
  refine J4 Tryz.func78 O O fun w => kV ?_; refine kF ?_; refine ki ?_; refine J7 O (fun h4 => ?_) (fun h4 => ?_)
  try simp only [ZZ] at h4
  refine GG ?_; refine NW fun w1 hs1 => ?_; exact ⟨⟨(some ⟨r, 0, none⟩, xs.length, cap), xE (Jvx m5) none 0⟩, rfl, hs1.weakL (List.nil_sublist _)⟩
  ·try simp only [ZZ] at h4
   refine JC 9 O (Jw (σ := Nat) (fun k => (1 ≤ k ∧ k ≤ xs.length) ∧ ∀ i a, i + 1 < k → (Y1 xs)[i]? = some a → (Y1 xs)[i + 1]? = some a → False) (fun k => [(0, .slice (some ⟨r, 0, none⟩) xs.length cap), (1, .func (.func g) #[] #[]), (5, .int .i64 (k : Int))]) (fun _ => [(r, .cells (KV xs ++ sp).toArray 48 (0, 0))]) (fun _ _ _ => True) (fun k => xs.length - k) 1 ⟨⟨Nat.le_refl _, by omega⟩, fun i a hi => absurd hi m5⟩ (lK rfl) (List.Sublist.refl _) (fun _ _ h => h) ?_); rintro k ⟨⟨hk0, hk1⟩, hinv⟩; refine EV ?_; refine ki ?_; refine cD (fun h10 => ?_) fun h10 => ?_
   ·refine gk ?_
    have hsegz := hseg xs rfl
    obtain ⟨x, hx, hmx⟩ := QD (show k - 1 < xs.length by omega)
    obtain ⟨y, hy, hmy⟩ := QD (show k < xs.length by omega)
    refine JK 11 m6 m6 (k5 ?_); refine Nm ?_; refine Ja O O O (JO (j := k) (m := 8) (off' := 0 + (k) * 8) O O O O O m5 m5) (Ei ?_); refine Ks (show _ = Value.int .i64 ((k - 1 : Nat) : Int) from by congr 1; omega) (Ja rfl rfl rfl (JO (j := (k - 1)) (m := 8) (off' := 0 + ((k - 1)) * 8) rfl rfl rfl rfl rfl m5 m5) (Dy ?_)); refine F4 ?_; refine cD (fun h13 => ?_) fun h13 => ?_
    ·refine gZ ?_; refine LR O (Ke (sz := 8) (m := k) (kl := some k) (kh := none) (km := none) (q := xs.length) (z := cap) (off' := k * 8) O O O ⟨_, rfl⟩ trivial trivial O O O m5 m5 m5 (fun _ => rfl) mq) (JN 5 O ?_)
     have hadj : Y0 (Y1 xs) = true := by
      have he : y.addr = x.addr := by simp_all
      have h1 := Yt hx
      have h2 := Yt hy
      rw [he] at h2
      obtain ⟨k0, rfl⟩ : ∃ k0, k = k0 + 1 := ⟨k - 1, by omega⟩
      exact Jef h1 h2
     clear hsegz hx hy; refine gk ?_; refine Jw (σ := Nat × Nat × List AcL) (fun s => s.2.2.length = xs.length ∧ (1 ≤ s.1 ∧ s.1 ≤ xs.length - k) ∧ s.2.1 ≤ k + s.1 - 1) (fun s => [(0, .slice (some ⟨r, 0, none⟩) xs.length cap), (1, .func (.func g) #[] #[]), (5, .int .i64 (s.2.1 : Int)), (6, .slice (some ⟨r, k * 8, none⟩) (xs.length - k) (cap - k)), (7, .int .i64 (s.1 : Int))]) (fun s => [(r, .cells (KV s.2.2 ++ sp).toArray 48 (0, 0))]) (fun _ _ _ => True) (fun s => xs.length - k - s.1) (1, k, xs) ⟨rfl, ⟨Nat.le_refl _, by simp only; omega⟩, by simp only; omega⟩ (lK rfl) (List.Sublist.refl _) (fun _ _ h => h) ?_; rintro ⟨k2, i, zs⟩ ⟨hz, ⟨hk2, hk3⟩, hi⟩; simp only at hz hk2 hk3 hi; change HC _ _ [(0, _), (1, _), (5, .int .i64 (i : Int)), (6, _), (7, .int .i64 (k2 : Int))] [(r, .cells (KV zs ++ sp).toArray 48 (0, 0))] _ _ _; refine EV ?_; refine ki ?_; refine cD (fun h19 => ?_) fun h19 => ?_
     refine gk ?_
     have hsegz := hseg zs hz
     obtain ⟨x, hx, hmx⟩ := QD (show k + k2 - 1 < zs.length by omega)
     obtain ⟨y, hy, hmy⟩ := QD (show k + k2 < zs.length by omega)
     refine JK 12 m6 m6 (k5 ?_); refine Nm ?_; refine Ja O O O (JO (j := k2) (m := 8) (off' := 0 + (k + k2) * 8) O O O O O m5 m5) (Ei ?_); refine Ks (show _ = Value.int .i64 ((k2 - 1 : Nat) : Int) from by congr 1; omega) (Ja rfl rfl rfl (JO (j := k2 - 1) (m := 8) (off' := 0 + (k + k2 - 1) * 8) rfl rfl rfl rfl rfl m5 m5) (Dy ?_)); refine Nn ?_; refine F4 ?_; refine cD (fun h22 => ?_) fun h22 => ?_
     refine Gq ?_; refine LR O (JO (j := k2) (m := 8) (off' := 0 + (k + k2) * 8) O O O O O m5 m5) (LR O (Kl (p := some (⟨r, 0, none⟩, cap)) AcL.len (fun q hq => Or.inl hq) O hsegz hy O O) (LR O (JO (j := i) (m := 8) (off' := i * 8) O O O O O m5 m5) (Q8 (k := 0) (n := 8) (vs := (AcL.cells y).toArray) (cs' := ((zs.set i y).flatMap AcL.cells ++ sp).toArray) O O O O O O (AcL.one y) Mo (by apply Array.toList_inj.1; simp only [List.toList_toArray]; exact Jcw AcL.len (show i < zs.length by omega) y sp) rfl (kL ?_)))); refine Ew ?_; refine D8 ?_; exact Jo (k2 + 1, i + 1, zs.set i y) ⟨by simp only [List.length_set]; exact hz, ⟨by simp only; omega, by simp only; omega⟩, by simp only; omega⟩ mh (lK rfl) (List.Sublist.refl _) (fun _ _ h => h)
     refine Hs ?_; exact Jo (k2 + 1, i, zs) ⟨hz, ⟨by simp only; omega, by simp only; omega⟩, by simp only; omega⟩ mh (lK rfl) (List.Sublist.refl _) (fun _ _ h => h)
     ·refine Jt 9 O (LR O (Ke (sz := 8) (m := i) (kl := some i) (kh := none) (km := none) (q := xs.length) (z := cap) (off' := i * 8) O O O ⟨_, rfl⟩ trivial trivial O O O m5 m5 m5 (fun _ => rfl) mq) (Jao (k := 0) (sz := 8) O O O O O O O m7 Mo O O (Gu ?_)))
      refine LR O (Ke (sz := 8) (q := i) (kl := none) (kh := some i) (km := none) (m := 0) (z := cap) (off' := 0) O O O trivial ⟨_, rfl⟩ trivial O O O m5 m5 m5 (fun h => by cases h) MH) (J1 9 rfl (NW fun w1 hs1 => ?_)); exact ⟨⟨(some ⟨r, 0, none⟩, i, cap), ⟨⟨fun _ => hadj, fun _ => by simp only; omega⟩, by simp only; omega⟩⟩, rfl, hs1.weakL (List.nil_sublist _)⟩
    refine Hs ?_
    exact Jo (k + 1) ⟨⟨by omega, by omega⟩, fun i a hi h1 h2 => by
     rcases Nat.lt_or_ge (i + 1) k with hq | hq
     exact hinv i a hq h1 h2
     obtain rfl : i = k - 1 := by omega
     rw [show k - 1 + 1 = k by omega] at h2
     have e1 := Option.some.inj ((Yt hx).symm.trans h1)
     have e2 := Option.some.inj ((Yt hy).symm.trans h2)
     have e3 : y.addr = x.addr := e2.trans e1.symm
     simp_all⟩ m5 (lK rfl) (List.Sublist.refl _) (fun _ _ h => h)
   ·refine Kk 12 O (NW fun w1 hs1 => ?_); exact ⟨⟨(some ⟨r, 0, none⟩, xs.length, cap), xE (Jeg fun i a h1 h2 => hinv i a (by have := (List.getElem?_eq_some_iff.1 h2).1; rw [List.length_map] at this; omega) h1 h2) none 0⟩, rfl, hs1.weakL (List.nil_sublist _)⟩
def acI (xs : List AcL) (i : Nat) : AcL := xs.getD i ac0L
theorem Jne (h : i < xs.length) : xs[i]? = some (acI xs i) ∧ acI xs i ∈ xs := by
 unfold acI
 exact Hd
def Jeh (r n : Nat) (p : Pl) : Nat × Obj := (r, .cells #[KA n p] 30 (0, 0))
theorem Jvy (n : Nat) (p : Pl) : PureE (α := Nat) Tryz.prog 74 [KA n p].toArray (fun r => .func (.func 125) #[] #[.pointer (some ⟨r, 0, none⟩)]) (fun r => [Jeh r n p]) := by
 refine Kq Tryz.func74 O O fun w => ?_; exact El
theorem Jvz {p : Pl} (hl : xs.length ≤ 9223372036854775807) (hs : Seg R xs.length (KV xs) p) (rv : Nat) :
    ql Tryz.prog 125 [.pointer (some ⟨rv, 0, none⟩)] (Jeh rv xs.length p :: R) 0 (nxN (fun i => [vA (acI xs i)]) xs.length) (xO xs.length) := by
  have hs := hs.mono (R' := Jeh rv xs.length p :: R) fun q hq => List.mem_cons_of_mem _ hq
  refine VA Tryz.func125 O O fun q xids w2 XI XF hY => NH ?_; refine gF ?_; refine Dd ?_; refine Jw (σ := Nat) (fun i => i ≤ xs.length) (fun i => [(0, .func (.yield q) #[] #[]), (1, .pointer (some ⟨rv, 0, none⟩)), (5, KA xs.length p), (6, .int .i64 (xs.length : Int)), (7, .int .i64 (i : Int))]) (fun _ => []) (fun i => XI i) (fun i => xs.length - i) 0 (Nat.zero_le _) (lK O) (List.nil_sublist _) (fun _ _ h => h) ?_; intro i hi; refine NO ?_; refine cD (fun g => ?_) fun g => ?_
  · refine gk ?_
    have hil : i < xs.length := by omega
    have hix := Jne hil
    refine HY ?_
    refine kT ?_; refine LR O (Kl AcL.len oR O hs hix.1 O O) (LN O fun r1 => Jj (k := 0) (n := 8) (ys := AcL.cells (acI xs i)) O O O O O O O O O (kL ?_)); refine LR O (Jd (xs := AcL.cells (acI xs i)) (n := 8) O (kn 0 O) O O O) (VV (XT := XI (i + 1)) (XF := XF) O O O O (hY i [vA (acI xs i)] (i + 1) ⟨hil, rfl, rfl⟩) ?_ ?_)
    all_goals (
     refine D5 ?_; refine J7 O (fun g => ?_) (fun g => ?_)
     · try exact Bool.noConfusion g
       all_goals try simp only [ZZ] at g
       all_goals (
        exact Nr
        skip)
     · try exact Bool.noConfusion g
       all_goals try simp only [ZZ] at g
       all_goals (
        refine Gz ?_; exact kI
        skip)
     skip)
  · refine gs fun w1 hs1 => ?_
    obtain ⟨xs1, hx1⟩ := hs1.now
    exact ⟨⟨_, rfl⟩, hs1.keep, .inl ⟨i, _, (by show i = xs.length; omega), hx1⟩⟩
theorem Jhv (h : i < xs.length) : KV (xs.take i) ++ (AcL.cells (acI xs i)) = KV (xs.take (i + 1)) := by
 rw [List.take_add_one, (Jne h).1]
 simp [KV, List.flatMap_append]
theorem Jv0 (hl : xs.length ≤ 1000) (eg : Enters Tryz.prog g) (hit : ql Tryz.prog g caps R 0 (nxN (fun i => [vA (acI xs i)]) xs.length) (xO xs.length)) :
  PureT (α := { row : QC // rowOk 8 xs.length (KV xs) row }) Tryz.prog 194 [.slice none 0 0, .func (.func g) #[] caps.toArray].toArray (fun x => J9 xs.length x.1) [] (fun x => JE 48 (KV xs) x.1) R := by
 refine J4 Tryz.func194 O O fun w => Nj fun r1 => ?_; refine Ht ?_; refine WS (τ := Unit) (fun i (s : Nat × QC) => i = s.1 ∧ i ≤ xs.length ∧ rowOk 8 i (KV (xs.take i)) s.2) (fun s => (r1, .cells #[J9 s.1 s.2] 30 (0, 0)) :: JE 48 (KV (xs.take s.1)) s.2) (fun _ _ => False) (fun _ => []) [] (0, none) O O eg hit mE O oR O ⟨rfl, Nat.zero_le _, ⟨rfl, rfl⟩⟩ ?_ ?_ ?_
 rintro q Xr Xb w3 i _ _ ⟨_, row⟩ ⟨hii, rfl, rfl⟩ ⟨rfl, him, hrow⟩ Kr hKr; refine inR ?_
 simp only at hKr ⊢; refine HY ?_; refine LN O fun r2 => Jj (k := 0) (n := 8) (ys := AcL.cells (acI xs i)) O O O O O O O O O (gE ?_); clear hKr; refine kE ?_; refine Eu ?_; refine LR O (Jd (xs := AcL.cells (acI xs i)) (n := 8) O (kn 0 O) O O O) (J0 (n := 1) (sz := 8) (vs := [_]) (zs := [_, _, _, _, _, _, _, _]) (r := AcL.cells (acI xs i)) O O O O O O O O O mj O fun r3 => JA (L0 := [_, _, _]) (xs := KV (xs.take i)) (row := row) (n := i) (sz := 8) (b := 96) (news := AcL.cells (acI xs i)) (List.perm_append_comm (l₁ := [_, _, _])) O O O O (kn 0 O) O O O O O m7 O O O m7 hrow m5 m5 fun ra cap sp hra => ?_)
 refine LT 3 O O (J1 2 O (KU [3, 0] (L' := [_, _]) m7 O (Qa (i + 1, some (ra, cap, sp)) ⟨rfl, by omega, by rw [Jhv hii] at hra; exact hra⟩ ?_))); simp only [JE, J9, Jhv hii]
 rintro D i ⟨_, row⟩ hfi ⟨rfl, him, hrow⟩
 simp only at hrow ⊢
 have hfi : i = xs.length := hfi
 subst hfi; rw [List.take_length] at hrow ⊢; refine Gqq 9 [1] O O (HK ?_); refine NW fun w1 hs1 => ?_; exact ⟨⟨row, hrow⟩, rfl, hs1.weakL (by simp only [List.set_cons_zero, List.append_nil]; exact List.sublist_append_right [_, _] _)⟩
 ·exact Gh
theorem Jpu (hl : xs.length ≤ 1000) (eg : Enters Tryz.prog g) (hit : ql Tryz.prog g caps R 0 (nxN (fun i => [vA (acI xs i)]) xs.length) (xO xs.length)) :
  PureT (α := { row : QC // rowOk 8 xs.length (KV xs) row }) Tryz.prog 123 [.func (.func g) #[] caps.toArray].toArray (fun x => J9 xs.length x.1) [] (fun x => JE 48 (KV xs) x.1) R := by
 refine J4 Tryz.func123 O O fun w => Gi ?_; refine Kn O O O (enters_of Tryz.func194 m6 O) (Jv0 hl eg hit) oR fun x => gM ?_; refine NW fun w1 hs1 => ?_; exact ⟨x, rfl, hs1.weakL (List.sublist_append_left _ _)⟩
end Go.Proofs.YtfaagelglpgpkaaGreatDoor
namespace Go.Proofs
open Go.Shelf
def Tryz.laysSortA_ren : Go.Shelf.Ren := ⟨fun | 6 => 124 | 15 => 174 | 14 => 195 | 28 => 234 | 29 => 235 | 20 => 248 | 21 => 249 | 22 => 250 | 23 => 251 | 24 => 252 | 25 => 253 | 26 => 254 | 27 => 255 | 46 => 319 | 47 => 308 | 48 => 309 | 49 => 320 | 50 => 321 | 57 => 349 | n => n, fun | 22 => 30 | 24 => 48 | 25 => 125 | 3 => 3 | 39 => 188 | 0 => 0 | 53 => 261 | 55 => 25 | 4 => 4 | 46 => 254 | 45 => 253 | 50 => 258 | 5 => 5 | 9 => 9 | 66 => 293 | 70 => 297 | 76 => 327 | 77 => 328 | n => n, fun | n => n⟩
theorem Tryz.laysSortA : Go.Proofs.SlLaysF0.n6 Tryz.prog Tryz.laysSortA_ren := {
 mixed := by kernel_rfl
 f6 := ⟨Tryz.f124.name, by decide, Tryz.func124.trans (congrArg some (by kernel_rfl))⟩
 f14 := ⟨Tryz.f195.name, by decide, Tryz.func195.trans (congrArg some (by kernel_rfl))⟩
 f15 := Tryz.func174.trans (congrArg some (by kernel_rfl))
 f20 := ⟨Tryz.f248.name, by decide, Tryz.func248.trans (congrArg some (by kernel_rfl))⟩
 f21 := ⟨Tryz.f249.name, by decide, Tryz.func249.trans (congrArg some (by kernel_rfl))⟩
 f22 := ⟨Tryz.f250.name, by decide, Tryz.func250.trans (congrArg some (by kernel_rfl))⟩
 f23 := ⟨Tryz.f251.name, by decide, Tryz.func251.trans (congrArg some (by kernel_rfl))⟩
 f24 := ⟨Tryz.f252.name, by decide, Tryz.func252.trans (congrArg some (by kernel_rfl))⟩
 f25 := ⟨Tryz.f253.name, by decide, Tryz.func253.trans (congrArg some (by kernel_rfl))⟩
 f26 := ⟨Tryz.f254.name, by decide, Tryz.func254.trans (congrArg some (by kernel_rfl))⟩
 f27 := ⟨Tryz.f255.name, by decide, Tryz.func255.trans (congrArg some (by kernel_rfl))⟩
 f28 := Tryz.func234.trans (congrArg some (by kernel_rfl))
 f29 := Tryz.func235.trans (congrArg some (by kernel_rfl))
 f46 := ⟨Tryz.f319.name, by decide, Tryz.func319.trans (congrArg some (by kernel_rfl))⟩
 f47 := Tryz.func308.trans (congrArg some (by kernel_rfl))
 f48 := Tryz.func309.trans (congrArg some (by kernel_rfl))
 f49 := ⟨Tryz.f320.name, by decide, Tryz.func320.trans (congrArg some (by kernel_rfl))⟩
 f50 := ⟨Tryz.f321.name, by decide, Tryz.func321.trans (congrArg some (by kernel_rfl))⟩
 f57 := ⟨Tryz.f349.name, by decide, Tryz.func349.trans (congrArg some (by kernel_rfl))⟩
 t0 := Tryz.underlying0
 a0 := Tryz.isAgg0
 z0 := Tryz.sizeOf0
 v0 := Tryz.zeroValue0
 t3 := Tryz.underlying3
 a3 := Tryz.isAgg3
 z3 := Tryz.sizeOf3
 v3 := Tryz.zeroValue3
 t4 := Tryz.underlying4
 a4 := Tryz.isAgg4
 z4 := Tryz.sizeOf4
 v4 := Tryz.zeroValue4
 t5 := Tryz.underlying5
 a5 := Tryz.isAgg5
 z5 := Tryz.sizeOf5
 v5 := Tryz.zeroValue5
 t9 := Tryz.underlying9
 a9 := Tryz.isAgg9
 z9 := Tryz.sizeOf9
 v9 := Tryz.zeroValue9
 t22 := Tryz.underlying30
 a22 := Tryz.isAgg30
 z22 := Tryz.sizeOf30
 v22 := Tryz.zeroValue30
 t25 := Tryz.underlying125
 a25 := Tryz.isAgg125
 z25 := Tryz.sizeOf125
 v25 := Tryz.zeroValue125
 t39 := Tryz.underlying188
 a39 := Tryz.isAgg188
 z39 := Tryz.sizeOf188
 v39 := Tryz.zeroValue188
 t45 := Tryz.underlying253
 a45 := Tryz.isAgg253
 z45 := Tryz.sizeOf253
 v45 := Tryz.zeroValue253
 t46 := Tryz.underlying254
 a46 := Tryz.isAgg254
 z46 := Tryz.sizeOf254
 v46 := Tryz.zeroValue254
 t50 := Tryz.underlying258
 a50 := Tryz.isAgg258
 z50 := Tryz.sizeOf258
 v50 := Tryz.zeroValue258
 t53 := Tryz.underlying261
 a53 := Tryz.isAgg261
 z53 := Tryz.sizeOf261
 v53 := Tryz.zeroValue261
 t55 := Tryz.underlying25
 a55 := Tryz.isAgg25
 z55 := Tryz.sizeOf25
 v55 := Tryz.zeroValue25
 t66 := Tryz.underlying293
 a66 := Tryz.isAgg293
 z66 := Tryz.sizeOf293
 v66 := Tryz.zeroValue293
 t70 := Tryz.underlying297
 a70 := Tryz.isAgg297
 z70 := Tryz.sizeOf297
 v70 := Tryz.zeroValue297
 t76 := Tryz.underlying327
 a76 := Tryz.isAgg327
 z76 := Tryz.sizeOf327
 v76 := Tryz.zeroValue327
 t77 := Tryz.underlying328
 a77 := Tryz.isAgg328
 z77 := Tryz.sizeOf328
 v77 := Tryz.zeroValue328 }
end Go.Proofs
namespace Go.Proofs.YtfaagelglpgpkaaGreatDoor
set_option linter.all false
open Go.SL Go.RowKit Go.Shelf
open Go.Proofs
variable {af : Array Edge} {args : Array Operand} {at_ : Array TypeId} {root rt : BS} {g : FuncId} {f : Int} {E E' L0 R Rl : Jx} {xs : List AcL} {a ts : List Nat} {caps sp vs : List Value} {α : Type} {ys : List α} {b b1 b2 blk c cap d e e1 e2 i j m o off rv sz : Nat} {x y : Operand} {gd : Option (Nat × Bool)} {row : QC} {r rc : Rec} {s : StL} {ps : String} {t x0 : Ty} {ty : TypeId} {z : Value} {q v : Vl} {w : World} {X : XP} {LL : α → Jx} {V : α → Value}
theorem Jv1 (a : ByteArray) (W : World) : Calls Tryz.prog 126 #[.string a] W fun e w' => e = .returned (.bool false) ∧ w' = W := by
 go_enter Tryz.func126, Tryz.ntmps126
 go_wp2
 go_ret
 exact ⟨by simp, rfl⟩
theorem Jz2 (a b : BS) (t : TypeId) (w : World) : (binOp .gtr t (.string (bs a)) (.string (bs b))).run Tryz.prog w = .ok (.bool (Op.bytesLess b a)) w := by
 simp only [binOp, eqGuard, Op.stringOp, Sem.run_bind, WT]
 rw [show Op.bytesLess b a = !(Op.bytesLess a b || a == b) from by
  rcases XU a b with rfl | h | h
  ·rw [VO]; simp
  ·rw [h, Xg h]; rfl
  ·rw [h, Xg h, show (a == b) = false from beq_eq_false_iff_ne.2 (jG h).symm]; rfl]
 rfl
theorem Jj3 (a b : BS) (W : World) : Calls Tryz.prog 76 #[.string (bs a), .string (bs b)] W fun e w' => e = .returned (.int .i64 (YB a b)) ∧ w' = W := by
 have h := Jv1
 have hg := Jz2
 unfold YB
 go_enter Tryz.func76, Tryz.ntmps76
 go_wp2_with (first | (go_at_call 126; refine (h _ _).mono ?_; rintro e w' ⟨rfl, rfl⟩) | rw [hg])
 all_goals go_ret
 all_goals refine ⟨?_, rfl⟩
 all_goals simp_all [WT]
theorem Jz3 (x y : AcL) (W : World) : Calls Tryz.prog 75 #[.agg (AcL.cells x).toArray, .agg (AcL.cells y).toArray] W fun e w' => e = .returned (.int .i64 (YB x.addr y.addr)) ∧ ∃ q os', w' = Go.Sort.grow (W.drewN q) os' := by
 have hcon := fun W' => Jj3 x.addr y.addr W'
 generalize YB x.addr y.addr = r at hcon ⊢
 obtain ⟨xa, xn, ⟨xb, xc, xd, xe⟩, xo, xs, xp⟩ := x
 obtain ⟨ya, yn, ⟨yb, yc, yd, ye⟩, yo, ys, yp⟩ := y
 simp only [AcL.cells] at hcon ⊢
 go_enter Tryz.func75, Tryz.ntmps75
 go_wp2_with (go_at_call 76; refine (hcon _).mono ?_; rintro e w' ⟨rfl, rfl⟩)
 go_ret
 exact ⟨rfl, 0, _, by rw [Go.Sort.alloc_eq_grow, Go.Sort.alloc_eq_grow, Go.Sort.grow_grow]; rfl⟩
theorem Jhw {w' : World} {n : Nat} {os : Array Obj} {xs ys : List Value} {e : TypeId} (hl : ys.length = xs.length) (hw : w' = Go.Sort.grow (Go.Sort.putRow id (Go.Sort.ahead w n) blk 0 ys.toArray) os)
  (hb : w.heap[blk]? = some (.cells (xs ++ sp).toArray e (0, 0))) : Keep [blk] w w' ∧ w'.heap[blk]? = some (.cells (ys ++ sp).toArray e (0, 0)) := by
 have hlt := JP hb
 have hh : ∀ k, k < w.heap.size → w'.heap[k]? = (w.heap.modify blk (Go.Sort.onCells (Go.Sort.putCells id 0 ys.toArray)))[k]? := fun k hk => by
  subst hw
  show (_ ++ _ : Array Obj)[k]? = _
  rw [Array.getElem?_append_left]
  ·rfl
  ·exact FL
 refine ⟨⟨by subst hw; rfl, by subst hw; rfl, by subst hw; rfl, ?_, fun k hk hn => ?_⟩, ?_⟩
 ·exact HH
 ·exact Fi
 ·refine Ed ?_
  apply Array.toList_inj.1
  apply List.ext_getElem?
  intro j; refine Es ?_
  by_cases hj : j < ys.length
  ·rw [List.getElem?_append_left m5, List.getElem?_append_left hj]
   simp [hj, (by omega : j < xs.length)]
  ·rw [List.getElem?_append_right m5, List.getElem?_append_right m5]
   simp only [hl, if_neg (by omega : ¬ j < xs.length)]
   cases sp[j - xs.length]? <;> simp
theorem Jj4 {xs : List Value} {e : TypeId} (hb : w.heap[blk]? = some (.cells (xs ++ sp).toArray e (0, 0))) : Go.Sort.Holds id w blk 0 xs.toArray := fun j hj => by
 have hj' : j < xs.length := by simpa using hj
 rw [Nat.zero_add, VI hb, Y3 hb MA]; refine ⟨?_, rfl⟩
 simp [hj', List.getElem?_append_left]
instance : Inhabited AcL := ⟨ac0L⟩
theorem Jhx (xs : List AcL) : Go.Sort.flatK AcL.cells 8 xs.toArray = (KV xs).toArray := by
 refine Go.Sort.ext_get! (by rw [Go.Sort.size_flatK]; simp [KV, KO AcL.len]) fun t ht => ?_; rw [Go.Sort.size_flatK, List.size_toArray] at ht
 have hq : t / 8 < xs.length := by omega
 have hx : xs[t / 8]? = some xs[t / 8] := List.getElem?_eq_getElem hq
 have hr : t % 8 < (AcL.cells xs[t / 8]).length := by rw [AcL.len]; omega
 have h := Jfm (f := AcL.cells) AcL.len hx (List.getElem?_eq_getElem hr)
 rw [show t / 8 * 8 + t % 8 = t by omega] at h; rw [Go.Sort.get_flatK _ _ _ _ (by rw [List.size_toArray]; exact ht)]
 have h2 : (KV xs).toArray[t]? = some (AcL.cells xs[t / 8])[t % 8] := by simpa [KV] using h
 have e1 : ∀ (a : Array Value) (v : Value), a[t]? = some v → a[t]! = v := fun a v h => by rw [Array.getElem!_eq_getD, Array.getD_eq_getD_getElem?, h]; rfl
 rw [e1 _ _ h2]
 simp [hq, hr]
theorem Jv2 : Go.Sort.SWO (Go.Proofs.ltOf fun x y : AcL => YB x.addr y.addr) := by
 have h : ∀ x y : AcL, Go.Proofs.ltOf (fun x y : AcL => YB x.addr y.addr) x y = Op.bytesLess x.addr y.addr := fun x y => yq _ _
 refine ⟨fun x => by rw [h]; exact VO _, fun x y z h1 h2 => by rw [h] at h1 h2 ⊢; exact QW h1 h2, fun x y z h1 h2 => ?_⟩; rw [h] at h1 h2 ⊢
 rcases XU x.addr z.addr with e | e | e
 ·rw [e]; exact VO _
 ·rcases XU x.addr y.addr with f | f | f
  ·rw [f] at e; rw [e] at h2; cases h2
  ·rw [f] at h1; cases h1
  ·have := QW f e; rw [this] at h2; cases h2
 ·exact Xg e
def SortR (xs : List AcL) : Type := { ys : List AcL // ys.Perm xs ∧ ∀ (i j : Nat) (x y : AcL), i < j → ys[i]? = some x → ys[j]? = some y → Op.bytesLess y.addr x.addr = false }
theorem J21 : Pure Tryz.prog 248 [.slice none 0 0, .int .i64 0, .int .i64 0, fV 75].toArray (.tuple #[]) := by
 refine Jl Tryz.func248 O O fun w => JJ (gZ ?_); refine Ew ?_; refine Gb ?_; refine Jw (σ := Unit) (fun _ => True) (fun _ => [(2, .int .i64 0), (8, .int .i64 1)]) (fun _ => []) (fun _ _ _ => True) (fun _ => 0) () trivial (lK O) (List.nil_sublist _) (fun _ _ h => h) ?_; rintro ⟨⟩ -; refine JC 8 O (J7 O (fun h4 => ?_) (fun h4 => ?_))
 exact absurd h4 m7
 ·try simp only [ZZ] at h4
  refine gs fun w1 hs1 => ?_; exact No
theorem J22 : Pure Tryz.prog 195 [.slice none 0 0, .int .i64 0, .int .i64 0, .int .i64 0, fV 75].toArray (.tuple #[]) := by
 refine Jl Tryz.func195 O O fun w => JJ (JC 11 O (Jw (σ := Unit) (fun _ => True) (fun _ => [(0, .slice none 0 0), (1, .int .i64 0), (2, .int .i64 0), (4, fV 75)]) (fun _ => []) (fun _ _ _ => True) (fun _ => 0) () trivial (lK O) (List.nil_sublist _) (fun _ _ h => h) ?_)); rintro ⟨⟩ -; refine Gq ?_; refine Ew ?_; refine Ht ?_; refine J7 O (fun h6 => ?_) (fun h6 => ?_)
 try simp only [ZZ] at h6
 refine Gq ?_; refine Jn O O O (enters_of Tryz.func248 m6 O) J21 ?_; exact FD
 ·exact absurd h6 m7
theorem P_sortA_nil : Pure Tryz.prog 124 [.slice none 0 0, fV 75].toArray (.tuple #[]) := by
 refine Jl Tryz.func124 O O fun w => Er ?_; refine Q1 O (Jn O O O (enters_of Tryz.func195 m6 O) J22 (J1 1 O ?_)); refine KS O O .nil (fun w1 hs1 => ?_); exact No
theorem Jz4 (hl : xs.length ≤ 1000) (hrow : rowOk 8 xs.length (KV xs) row) :
  PureT (α := SortR xs) Tryz.prog 124 [J9 xs.length row, fV 75].toArray (fun _ => .tuple #[]) (JE 48 (KV xs) row) (fun ys => JE 48 (KV ys.1) row) R := by
 cases row with
 | none =>
  have h0 : xs = [] := by
   exact Ft
  subst h0; exact P_sortA_nil.toR.toT.map (fun _ => ⟨[], List.Perm.refl _, fun i j x y _ h => by simp at h⟩) (fun _ => rfl) (fun _ => List.Sublist.refl _)
 | some p =>
  obtain ⟨r, cap, sp⟩ := p
  obtain ⟨hr1, hr2⟩ := hrow
  refine ⟨fun w hT hR hd hne => ?_⟩
  have hb : w.heap[r]? = some (.cells (KV xs ++ sp).toArray 48 (0, 0)) := hT _ List.mem_cons_self
  have hH : Go.Sort.HoldsK AcL.cells 8 w r 0 xs.toArray := by
   unfold Go.Sort.HoldsK
   rw [Jhx]; exact Jj4 hb
  have eg : ∀ args w, (callFunc 75 args).run Tryz.prog w = .ok (.enter 75 args) w := enters_of Tryz.func75 m6 rfl
  have hcon := AnyQ.slices_SortFunc Tryz.laysSortA 8 Tryz.isAgg48 Tryz.sizeOf48 AcL.cells AcL.len (fun x v hv => by simp [AcL.cells] at hv; rcases hv with rfl | rfl | rfl | rfl | rfl | rfl | rfl | rfl <;> rfl) (fun x y => YB x.addr y.addr) Jv2 75 #[] r 0 cap xs.toArray w eg (fun _ _ _ _ x y => Jz3 x y _) hH (JP hb) (by rw [List.size_toArray]; omega)
  change Calls Tryz.prog 124 #[.slice (some ⟨r, 0, none⟩) xs.length cap, fV 75] w _ at hcon; refine hcon.mono ?_; rintro e w' ⟨rfl, d', n, os, ⟨hp1, _, hp3⟩, hso, hw⟩
  have hsz : d'.toList.length = xs.length := by rw [Array.length_toList, hp1, List.size_toArray]
  have hfl : Go.Sort.flatK AcL.cells 8 d' = (KV d'.toList).toArray := Jhx d'.toList
  have hw2 : w' = Go.Sort.grow (Go.Sort.putRow id (Go.Sort.ahead w n) r 0 (KV d'.toList).toArray) os := by rw [hw, ← hfl]; rfl
  obtain ⟨h1, h2⟩ := Jhw (ys := KV d'.toList) (by simp only [KV, KO AcL.len, hsz]) hw2 hb
  have hperm : d'.toList.Perm xs := by
   rw [List.size_toArray] at hp3
   have e1 : (d'.extract 0 xs.length).toList = d'.toList := by rw [Array.toList_extract]; simp [← hsz]; exact List.take_of_length_le ml
   have e2 : (xs.toArray.extract 0 xs.length).toList = xs := by rw [Array.toList_extract]; simp
   rw [e1, e2] at hp3; exact hp3
  have hs : ∀ (i j : Nat) (x y : AcL), i < j → d'.toList[i]? = some x → d'.toList[j]? = some y → Op.bytesLess y.addr x.addr = false := fun i j x y hij hx hy => by
   have hj := (List.getElem?_eq_some_iff.1 hy).1
   have h := hso i j (Nat.zero_le _) hij (by rw [List.size_toArray]; omega)
   have g : ∀ (k : Nat) (z : AcL), d'.toList[k]? = some z → d'[k]! = z := fun k z hz => by
    have h3 : d'[k]? = some z := by simpa using hz
    rw [Array.getElem!_eq_getD, Array.getD_eq_getD_getElem?, h3]; rfl
   rw [g j y hy, g i x hx] at h
   have h4 : Op.bytesLess y.addr x.addr = decide (YB y.addr x.addr < 0) := (yq _ _).symm
   rw [h4]; exact h
  exact ⟨⟨d'.toList, hperm, hs⟩, rfl, h1, fun p hp => by
   rw [List.mem_singleton.1 hp]; exact ⟨.inl Nh, h2⟩, List.pairwise_singleton _ _⟩
theorem Jpv (hl : xs.length ≤ 1000) (eg : Enters Tryz.prog g) (hit : ql Tryz.prog g caps R 0 (nxN (fun i => [vA (acI xs i)]) xs.length) (xO xs.length)) :
  PureT (α := { y : SortR xs × QC // rowOk 8 xs.length (KV y.1.1) y.2 }) Tryz.prog 73 [.func (.func g) #[] caps.toArray, fV 75].toArray (fun y => J9 xs.length y.1.2) [] (fun y => JE 48 (KV y.1.1.1) y.1.2) R := by
 refine J4 Tryz.func73 O O fun w => Gi ?_; refine Kn O O O (enters_of Tryz.func123 m6 O) (Jpu hl eg hit) oR fun x => ?_
 obtain ⟨row, hrow⟩ := x
 refine gY ?_; refine QK (T := JE 48 (KV xs) row) (L0 := []) (Rl := []) (List.Perm.refl _) O O O (enters_of Tryz.func124 m6 O) (Jz4 hl hrow) oN fun ys => J1 9 O (NW fun w1 hs1 => ?_); exact ⟨⟨(ys, row), hrow.same (by rw [KV, KV, KO AcL.len, KO AcL.len, ys.2.1.length_eq])⟩, rfl, hs1.weakL (List.sublist_append_left _ _)⟩
def wkC (g : GenL) (n : Nat) (p : Pl) (f : Int) : List Value := [KA g.ts.length g.tp, uV g.time, uV g.rc.number, uV g.rc.time, uV g.rc.base.a, uV g.rc.base.b, uV g.rc.base.c, uV g.rc.base.d, uV g.rc.blob.a, uV g.rc.blob.b, uV g.rc.blob.c, uV g.rc.blob.d, uV g.rc.overhead.a, uV g.rc.overhead.b, uV g.rc.overhead.c, uV g.rc.overhead.d, uV g.rc.scalar, uV g.rc.extra, uV g.rc.operator, KA g.accts.length g.ap, KA n p, .int .i64 f]
def xX (W : Nat) (g : GenL) (n : Nat) (p : Pl) (f : Int) : Nat × Obj := (W, .cells (wkC g n p f).toArray 70 (0, 0))
def rpB (rp W : Nat) : Nat × Obj := (rp, .cells #[Q4 W 0] 68 (0, 0))
theorem Jz5 {g : GenL} (hg : g.In R) (rp W n : Nat) (p : Pl) (f : Int) : PureT (α := Unit) Tryz.prog 70 [Q4 rp 0].toArray (fun _ => .int .i64 (QB g.ts g.time).2) [xX W g n p f] (fun _ => [xX W g n p (QB g.ts g.time).1]) (rpB rp W :: R) := by
 have hA := (Jvv hg.tlen hg.tseg g.time).mono (R' := rpB rp W :: R) fun q hq => List.mem_cons_of_mem _ hq
 refine J4 Tryz.func70 O O fun w => FA ?_
 refine JI [] [(0, .pure), (1, .pure), (2, .pure), (3, .pure), (4, .pure), (6, .pure), (7, .pure), (8, .pure), (9, .pure), (12, .pure), (13, .pure), (14, .pure), (15, .pure), (16, .pure), (17, .turn), (18, .pure)] 19 [0, 1, 2, 3, 4, 5, 6, 7, 8, 9, 10, 11, 12, 13, 14, 15, 16, 17, 18] m6 m6 m8 (kc ?_)
 refine GN ?_; refine JY (k := 5) O O O O O (Jz (vs := [_]) O (kn 0 O) O O O O) (Jm (k := 6) O O O O O (fun _ hS => (Je O (JF (k := 0) O) O O)) (Jm (k := 7) O O O O O (fun _ hS => (J2 O O O)) ?_))
 refine Jm (k := 8) O O O O O (fun _ hS => (J6 O O O)) ?_
 refine EM ?_; refine JY (k := 10) O O O O O (Je O (kn 0 O) O O) (JW (k := 11) O O O O O (enters_of Tryz.func71 m6 O) (hA) (fun q hq => .inr hq) (Jm (k := 12) O O O O O (fun _ hS => (Jg O)) (Jm (k := 13) O O O O O (fun _ hS => (Kh O O)) (Jm (k := 14) O O O O O (fun _ hS => (Kh O O)) (Jm (k := 15) O O O O O (fun _ hS => (J2 O O O)) ?_)))))
 refine Jm (k := 16) O O O O O (fun _ hS => (J6 O O O)) ?_
 refine Y7 (k := 17) (q := 0) O O O O O O O O O mN mF m8 (Jm (k := 18) O O O O O (fun _ hS => (J8 O)) (Ka (J1 9 O (NW fun w1 hs1 => ?_)))); exact ⟨(), rfl, hs1⟩
theorem Jz6 {g : GenL} (hg : g.In R) (hs : s.In R) (rp W : Nat) (f : Int) : PureT (α := StRes R (QP f s.er g.rc)) Tryz.prog 80 [Q4 rp 0].toArray (fun x => .int .i64 x.err) [xX W g s.accts.length s.p f] (fun x => xX W g x.s.accts.length x.s.p f :: x.L) (rpB rp W :: R) := by
 have hw0 := Jzh f hs hg.rc
 refine Jd6 Tryz.func80 O O fun w hR => JJ ?_
 obtain ⟨x0⟩ := hw0.ne (fun p hp => hR p (List.mem_cons_of_mem _ hp))
 refine NO ?_
 refine JI [] [(0, .pure), (1, .pure), (2, .pure), (3, .pure), (5, .pure), (6, .pure), (7, .pure), (9, .pure), (10, .pure), (11, .pure), (12, .pure), (14, .grow (KD x0 (fun x => x.val) (fun x => x.L))), (15, .pure), (16, .pure), (17, .pure), (18, .pure), (19, .pure), (20, .turn), (21, .pure)] 22 [0, 1, 2, 3, 4, 5, 6, 7, 8, 9, 10, 11, 12, 13, 14, 15, 16, 17, 18, 19, 20, 21] m6 m6 m8 (kc ?_); refine JY (k := 4) O O O O O (Je O (kn 0 O) O O) (Jm (k := 5) O O O O O (fun _ hS => (Je O (JF (k := 0) O) O O)) (Jm (k := 6) O O O O O (fun _ hS => (J2 O O O)) ?_))
 refine HU ?_; refine JY (k := 8) O O O O O (Jz (vs := [_]) O (kn 0 O) O O O O) (G3 ?_); refine JY (k := 13) O O O O O (Jz (vs := [_, _, _, _, _, _, _, _, _, _, _, _, _, _, _, _, _]) O (kn 0 O) O O O O) (JZ (k := 14) O O O O O (enters_of Tryz.func81 m6 O) hw0 (fun q hq => .inr (List.mem_cons_of_mem _ hq)) fun x => Jm (k := 15) O O O O O (fun _ hS => (Jg O)) (Jm (k := 16) O O O O O (fun _ hS => (Kh O O)) (Jm (k := 17) O O O O O (fun _ hS => (Kh O O)) (Jm (k := 18) O O O O O (fun _ hS => (J2 O O O)) ?_))))
 refine Jm (k := 19) O O O O O (fun _ hS => (J6 O O O)) (Jbj (k := 20) (q := x.L.length) (n := 1) (off := 20) (vs := x.s.cells.toArray) (cs := (wkC g s.accts.length s.p f).toArray) (e := 70) (E' := x.L ++ [xX W g x.s.accts.length x.s.p f]) (cs' := (wkC g x.s.accts.length x.s.p f).toArray) O O O O List.getElem?_concat_length O O O O mR O (by simp [xX]) (fun _ h => absurd h List.not_mem_nil) ?_); refine Jm (k := 21) O O O O O (fun _ hS => (J8 O)) (Ka (J1 9 O (NW fun w1 hs1 => ?_))); exact ⟨x, rfl, hs1.perm (List.perm_append_comm)⟩
section
variable {c : Cx} {l : KQ} {E : Jx} {X : XP} {d : List Deferred} {ops : Array Oper} {rest : List Nat} {k i : Nat} {tb : jX} {S : Jx} {T : Jx → Act → Prop}
theorem Jbn  {T0 : Jx} {f : Operand} {E' : α → Jx}
  (hp : E.Perm (T0 ++ L0)) (hE : ∀ x, (LL x ++ L0).Perm (E' x)) (hk : X7 ops.toList k = some ⟨some i, .call ⟨.value f, args, at_⟩, ty, ps, af, gd⟩) (hg : Kz l ops ⟨some i, .call ⟨.value f, args, at_⟩, ty, ps, af, gd⟩ = some true) (hi : Nat.ble (i + 1) c.n = true) (hA : tb k = .turn) (hca : KM l f args = some (g, vs)) (eg : Enters c.P g)
  (hpt : PureT c.P g vs.toArray V T0 LL Rl) (hR : ∀ p ∈ Rl, known c L0 p.1 p.2) (hS : ∀ x, SubS S (E' x)) (h : ∀ x, HB c d ((i, V x) :: l) (E' x) X S ops tb rest T) : HB c d l E X S ops tb (k :: rest) T := fun a hf => by
 refine ⟨_, Vd hk, ?_⟩; rw [hA]; refine .inl ⟨α, V, E', ⟨JR hf hg, fun w hs => ?_⟩, fun x => ⟨hS x, h x _ (hf.put (Nat.le_of_ble_eq_true hi))⟩⟩
 have hs := hs.perm hp
 obtain ⟨hd1, _, hd3⟩ := List.pairwise_append.1 hs.distinct
 refine Xj hf hca eg ((hpt.run w (fun p hp => (hs.own p (List.mem_append_left _ hp)).2.2) (fun p hp => ?_) hd1 (fun p hp q hq => ?_)).mono fun _ _ ⟨x, he, hk, h1, h2⟩ => ⟨V x, he, x, rfl, (hs.turnT hk h1 h2).perm (hE x)⟩)
 ·exact (hR p hp).elim (fun h => (hs.own _ (List.mem_append_right _ h)).2.2) hs.readR
 ·rcases hR p hp with h | h
  ·exact fun e => hd3 q hq _ h e.symm
  ·rintro e
   obtain ⟨h1, _, h3⟩ := hs.ext _ h
   have h3 := JP h3
   rcases (hs.own q (List.mem_append_left _ hq)).1 with h4 | h4
   ·exact h1 (e ▸ h4)
   ·simp only at h3 e; omega
theorem Jv3 {o : Oper} {v : Value} (hk : X7 ops.toList k = some o) (hg : Kz l ops o = some true) (hd : o.dst = some i) (hi : Nat.ble (i + 1) c.n = true) (hA : tb k = .turn) (hr : JM c d l E X o v) (hS : SubS S E) (h : HB c d ((i, v) :: l) E X S ops tb rest T) : HB c d l E X S ops tb (k :: rest) T := fun a hf => by
 refine ⟨o, Vd hk, ?_⟩; rw [hA]; refine .inl ⟨Unit, fun _ => v, fun _ => E, ⟨JR hf hg, fun w hs => Yn (hr a w hf hs) ⟨(), rfl, hs⟩⟩, fun _ => ⟨hS, ?_⟩⟩; rw [hd]; exact h _ (hf.put (Nat.le_of_ble_eq_true hi))
end
theorem Jv4 (xs : List AcL) : Nonempty { row : QC // rowOk 8 xs.length (xs.flatMap AcL.cells) row } := ⟨⟨some (0, xs.length, []), ⟨KO AcL.len xs, by simp⟩⟩⟩
structure Step2R (g : GenL) : Type where
  ys : SortR g.accts
  row : QC
  ok : rowOk 8 ys.1.length (KV ys.1) row
def Step2R.st {g : GenL} (x : Step2R g) : StL := ⟨x.ys.1, KY x.row⟩
def Step2R.L {g : GenL} (x : Step2R g) : Jx := JE 48 (KV x.ys.1) x.row
def xY (ys : List AcL) : Int := if Y0 (Y1 ys) = true then 13 else KP (ys.map AcL.er)
theorem xF {g : GenL} (hg : g.In R) (x : Step2R g) : x.st.In (x.L ++ R) :=
 ⟨by show x.ys.1.length ≤ ZS; rw [x.ys.2.1.length_eq]; exact hg.st.len, (JQ x.ok m7).mono fun q hq => List.mem_append_left _ hq, fun a ha => (hg.st.accts a (x.ys.2.1.mem_iff.1 ha)).mono fun q hq => List.mem_append_right _ hq⟩
theorem Jz7 {g : GenL} (hg : g.In R) (hf : g.accts.length ≤ 1000) (rp W n : Nat) (p : Pl) (f : Int) : PureT (α := Step2R g) Tryz.prog 72 [Q4 rp 0].toArray (fun x => .int .i64 (xY x.ys.1)) [xX W g n p f] (fun x => xX W g x.ys.1.length (KY x.row) f :: x.L) (rpB rp W :: R) := by
 have hseg : Seg (rpB rp W :: R) g.accts.length (KV g.accts) g.ap := hg.st.seg.mono fun q hq => List.mem_cons_of_mem _ hq
 have hg2 : g.In (rpB rp W :: R) := hg.mono fun q hq => List.mem_cons_of_mem _ hq
 have hb : g.accts.length ≤ 9223372036854775807 := by omega
 refine J4 Tryz.func72 O O fun w => FA ?_
 refine JI [] [(0, .pure), (1, .pure), (2, .pure), (3, .pure), (4, .pure), (5, .turn), (6, .grow (KD (0 : Nat) (fun r => Value.func (.func 125) #[] #[.pointer (some ⟨r, 0, none⟩)]) (fun r => [Jeh r g.accts.length g.ap]))), (7, .turn), (8, .pure), (9, .pure), (10, .pure), (11, .turn)] 12 [0, 1, 2, 3, 4, 5, 6, 7, 8, 9, 10, 11] m6 m6 m8 (kc ?_)
 refine GN ?_; refine Jv3 (k := 5) O O O O O (Je O (kn 0 O) O O) (fun _ h => absurd h List.not_mem_nil) (XH (k := 6) O O O O O (enters_of Tryz.func74 m6 O) (Jvy _ _) fun rv => ?_)
 refine Jbn (k := 7) (α := { y : SortR g.accts × QC // rowOk 8 g.accts.length (KV y.1.1) y.2 }) (V := fun y => J9 g.accts.length y.1.2) (LL := fun y => JE 48 (KV y.1.1.1) y.1.2) (T0 := []) (L0 := [Jeh rv g.accts.length g.ap, xX W g n p f]) (Rl := Jeh rv g.accts.length g.ap :: rpB rp W :: R) (E' := fun x => xX W g n p f :: Jeh rv g.accts.length g.ap :: JE 48 (KV x.1.1.1) x.1.2) (List.Perm.refl _) (fun x => List.perm_append_comm.trans (List.Perm.swap _ _ _)) O O O O O (enters_of Tryz.func73 m6 O) (Jpv hf (enters_of Tryz.func125 m6 O) (Jvz hb hseg rv)) (fun q hq => by rcases List.mem_cons.1 hq with rfl | h; exact .inl (List.mem_cons_self ..); exact .inr h) (fun _ _ h => absurd h List.not_mem_nil) fun x => ?_
 obtain ⟨⟨ys, row⟩, hrow⟩ := x
 simp only at hrow ⊢
 have hyl := ys.2.1.length_eq
 rw [← hyl] at hrow; refine Qt (v' := KA ys.1.length (KY row)) (by rw [← hyl]; exact (QG _ _ (fun h => by subst h; exact hrow.1)).symm) (Jm (k := 8) O O O O O (fun _ hS => (J2 O O O)) ?_)
 refine EM ?_
 refine Jm (k := 10) O O O O O (fun _ hS => (J6 O O O)) (Y7 (k := 11) (q := 0) (off := 20) (cs' := (wkC g ys.1.length (KY row) f).toArray) O O O O O O O O O O O (fun _ h => absurd h List.not_mem_nil) (Ka (H2 ?_)))
 obtain ⟨x0⟩ := Jv4 ys.1
 have hyl2 : ys.1.length ≤ 1000 := by omega
 have hsy : Seg (JE 48 (KV ys.1) row) ys.1.length (ys.1.flatMap AcL.cells) (KY row) := JQ hrow m7
 refine JI (xX W g ys.1.length (KY row) f :: JE 48 (KV ys.1) row) [(0, .pure), (1, .pure), (2, .pure), (3, .pure), (4, .pure), (5, .grow (KD x0 (fun x => J9 ys.1.length x.1) (fun x => JE 48 (ys.1.flatMap AcL.cells) x.1))), (6, .pure), (7, .turn), (8, .pure), (9, .pure), (10, .pure), (11, .pure), (12, .pure), (13, .pure), (14, .pure), (15, .pure)] 16 [0, 1, 2, 3, 4, 6, 9, 10, 11, 12, 13, 14, 5, 7, 8, 15] m6 m6 (fun q hq => by rcases List.mem_cons.1 hq with rfl | h; exact List.mem_cons_self ..; exact List.mem_cons_of_mem _ (List.mem_cons_of_mem _ h)) ?_; refine Jm (k := 0) O O O O O (fun _ hS => (Je O (JF (k := 0) O) O O)) ?_; refine DP ?_
 refine EL ?_; refine Jm (k := 4) O O O O O (fun _ hS => (Je O (.inl (hS _ (J3 (n := 0) O))) O O)) (Fo ?_); refine G3 ?_; refine Jm (k := 13) O O O O O (fun _ hS => (Je O (.inl (hS _ (J3 (n := 0) O))) O O)) (Jm (k := 14) O O O O O (fun _ hS => (Kc O O)) (JZ (k := 5) O O O O O (enters_of Tryz.func79 m6 O) (Jhi hyl2 hsy) (fun q hq => .inl (List.mem_cons_of_mem _ hq)) fun x2 => ?_))
 obtain ⟨row2, hrow2⟩ := x2
 refine Jbn (k := 7) (α := CompR ys.1) (V := fun q => q.val) (LL := fun _ => []) (T0 := JE 48 (KV ys.1) row2) (Rl := []) (L0 := xX W g ys.1.length (KY row) f :: Jeh rv g.accts.length g.ap :: JE 48 (KV ys.1) row) (E' := fun _ => xX W g ys.1.length (KY row) f :: Jeh rv g.accts.length g.ap :: JE 48 (KV ys.1) row) (List.Perm.refl _) (fun x => List.Perm.refl _) O O O O O (enters_of Tryz.func78 m6 O) (Jpt hyl2 hrow2 (enters_of Tryz.func77 m6 O) Jz0) oN (fun _ => (fun q hq => by rcases List.mem_cons.1 hq with rfl | h; exact List.mem_cons_self ..; exact List.mem_cons_of_mem _ (List.mem_cons_of_mem _ h))) fun qq => ?_; refine Jm (k := 8) O O O O O (fun _ hS => (Kc O O)) ?_; refine Jm (k := 15) O O O O O (fun _ hS => (J2 O O O)) ?_; refine Ka ?_; refine H9 ?_; refine cD (fun h6 => ?_) fun h6 => ?_
 refine Kk 7 O (NW fun w1 hs1 => ?_)
 (have ha : Y0 (Y1 ys.1) = true := qq.2.1.1 m5
  exact ⟨⟨ys, row, hrow⟩, by rw [xY, if_pos ha]; rfl, hs1.weakL (.cons₂ _ (.cons _ (List.Sublist.refl _)))⟩)
 ·refine GU ?_
  have hst := xF hg2 ⟨ys, row, hrow⟩
  refine HY ?_; refine gF ?_; refine XG 3 [0] O O (Ji O O O Jxq (jz hst) (fun q hq => (List.mem_append.1 hq).elim (fun h => .inl (List.mem_cons_of_mem _ (List.mem_cons_of_mem _ h))) .inr) (gM ?_)); refine NW fun w1 hs1 => ?_
  (have ha : ¬ Y0 (Y1 ys.1) = true := fun ha => by
    have := qq.2.1.2 ha
    omega
   exact ⟨⟨ys, row, hrow⟩, by rw [xY, if_neg ha]; rfl, hs1.weakL (.cons₂ _ (.cons _ (List.Sublist.refl _)))⟩)
def xZ (x y : AcE) : Bool := !Op.bytesLess y.addr x.addr
def V5 (l : List AcE) : List AcE := l.mergeSort xZ
theorem wa (x y z : AcE) (h1 : xZ x y = true) (h2 : xZ y z = true) : xZ x z = true := by
 simp only [xZ, Bool.not_eq_true'] at h1 h2 ⊢
 rcases XU x.addr z.addr with e | e | e
 ·rw [e]; exact VO _
 ·exact Xg e
 ·rcases XU x.addr y.addr with f | f | f
  ·rw [f] at e; rw [e] at h2; cases h2
  ·have := QW e f; rw [this] at h2; cases h2
  ·rw [f] at h1; cases h1
theorem Jbo (x y : AcE) : (xZ x y || xZ y x) = true := by
 simp only [xZ]
 rcases XU x.addr y.addr with e | e | e
 ·rw [e, VO]; rfl
 ·rw [Xg e]; rfl
 ·rw [Xg e]; simp
theorem xG {x y : AcE} (h1 : xZ x y = true) (h2 : xZ y x = true) : x.addr = y.addr := by
 simp only [xZ, Bool.not_eq_true'] at h1 h2
 rcases XU x.addr y.addr with e | e | e
 ·exact e
 ·rw [e] at h2; cases h2
 ·rw [e] at h1; cases h1
theorem SortR.pair (ys : SortR xs) : (ys.1.map AcL.er).Pairwise fun x y => xZ x y = true := by
 rw [List.pairwise_map]
 rw [List.pairwise_iff_getElem]
 intro i j hi hj hij
 simp only [xZ, Bool.not_eq_true']
 exact ys.2.2 i j _ _ hij (List.getElem?_eq_getElem hi) (List.getElem?_eq_getElem hj)
theorem Jng {l : List AcE} (hn : (l.map AcE.addr).Nodup) {x y : AcE} (hx : x ∈ l) (hy : y ∈ l) (h : x.addr = y.addr) : x = y := by
 induction l with
 | nil => cases hx
 | cons a l ih =>
  rw [List.map_cons, List.nodup_cons] at hn
  rcases List.mem_cons.1 hx with rfl | hx2
  ·rcases List.mem_cons.1 hy with rfl | hy2
   ·rfl
   ·exact absurd (h ▸ List.mem_map_of_mem hy2) hn.1
  ·rcases List.mem_cons.1 hy with rfl | hy2
   ·exact absurd (h ▸ List.mem_map_of_mem hx2) hn.1
   ·exact ih hn.2 hx2 hy2
theorem SortR.uniq (ys : SortR xs) (hn : ((xs.map AcL.er).map AcE.addr).Nodup) : ys.1.map AcL.er = V5 (xs.map AcL.er) := by
 have hp : (ys.1.map AcL.er).Perm (xs.map AcL.er) := ys.2.1.map _
 have hp2 : (V5 (xs.map AcL.er)).Perm (xs.map AcL.er) := List.mergeSort_perm _ _
 have hs2 : (V5 (xs.map AcL.er)).Pairwise fun x y => xZ x y = true := List.pairwise_mergeSort wa Jbo _
 exact List.Perm.eq_of_pairwise (fun x y hx hy h1 h2 => Jng hn (hp.mem_iff.1 hx) (hp2.mem_iff.1 hy) (xG h1 h2)) ys.pair hs2 (hp.trans hp2.symm)
theorem wb : ∀ {l : List AcE}, l.Pairwise (fun x y => xZ x y = true) → (Y0 (l.map AcE.addr) = true ↔ ¬ (l.map AcE.addr).Nodup)
 | [], _ => by simp [Y0]
 | [x], _ => by simp [Y0]
 | x :: y :: l, h => by
  have ih := wb (List.pairwise_cons.1 h).2
  have e : Y0 ((x :: y :: l).map AcE.addr) = (decide (x.addr = y.addr) || Y0 ((y :: l).map AcE.addr)) := rfl
  rw [e, Bool.or_eq_true, decide_eq_true_eq, ih]
  have e2 : ((x :: y :: l).map AcE.addr).Nodup ↔ x.addr ∉ (y :: l).map AcE.addr ∧ ((y :: l).map AcE.addr).Nodup := List.nodup_cons
  rw [e2]
  constructor
  ·rintro (h1 | h1) ⟨h2, h3⟩
   ·exact h2 (by rw [h1]; exact List.mem_map_of_mem (List.mem_cons_self ..))
   ·exact h1 h3
  ·intro h1
   by_cases h2 : ((y :: l).map AcE.addr).Nodup
   ·left
    by_cases h3 : x.addr ∈ (y :: l).map AcE.addr
    ·obtain ⟨z, hz, hzx⟩ := List.mem_map.1 h3
     have hxy := (List.pairwise_cons.1 h).1 y (List.mem_cons_self ..)
     rcases List.mem_cons.1 hz with rfl | hz
     ·exact hzx.symm
     ·have hyz := (List.pairwise_cons.1 (List.pairwise_cons.1 h).2).1 z hz
      refine xG hxy ?_
      simp only [xZ] at hyz ⊢
      rw [← hzx]; exact hyz
    ·exact absurd ⟨h3, h2⟩ h1
   ·exact .inr h2
def V6 (l : List AcE) : Int := if (l.map AcE.addr).Nodup then KP (V5 l) else 13
theorem vd (ys : SortR xs) : xY ys.1 = V6 (xs.map AcL.er) := by
 have ha : Y1 ys.1 = (ys.1.map AcL.er).map AcE.addr := by simp [Y1, AcL.er]
 have hp : ((ys.1.map AcL.er).map AcE.addr).Perm ((xs.map AcL.er).map AcE.addr) := (ys.2.1.map _).map _
 have h := wb ys.pair
 rw [← ha] at h
 unfold xY V6
 by_cases hn : ((xs.map AcL.er).map AcE.addr).Nodup
 ·have : ¬ Y0 (Y1 ys.1) = true := fun h2 => h.1 h2 (ha ▸ hp.nodup_iff.2 hn)
  rw [if_neg this, if_pos hn, ys.uniq hn]
 ·rw [if_neg hn, if_pos (h.2 fun h2 => hn (hp.nodup_iff.1 (ha ▸ h2)))]
def VM (ts : List Nat) (t : Nat) (rc : Rec) (l : List AcE) : List AcE × Int × Int :=
 if (QB ts t).2 ≠ 0 then ([], 0, (QB ts t).2) else if V6 l ≠ 0 then ([], 0, V6 l) else
  if (QP (QB ts t).1 (V5 l) rc).2 ≠ 0 then ([], 0, (QP (QB ts t).1 (V5 l) rc).2) else ((QP (QB ts t).1 (V5 l) rc).1, (QB ts t).1, 0)
structure BldR (R : Jx) (e : List AcE × Int × Int) : Type where
  s : StL
  f : Int
  err : Int
  L : Jx
  ok : s.In (L ++ R)
  eq : (s.er, f, err) = e
def BldR.val {R : Jx} {e : List AcE × Int × Int} (x : BldR R e) : Value := .tuple #[x.s.val, .int .i64 x.f, .int .i64 x.err]
structure BSt : Type where
  i : Nat
  n : Nat
  p : Pl
  f : Int
  L : Jx
def BSt.ok (R : Jx) (g : GenL) (b : BSt) : Prop :=
 (b.i = 0 ∧ b.n = 0 ∧ b.p = none ∧ b.f = 0 ∧ b.L = []) ∨
 (b.i = 1 ∧ b.n = 0 ∧ b.p = none ∧ b.f = (QB g.ts g.time).1 ∧ (QB g.ts g.time).2 = 0 ∧ b.L = []) ∨
 (b.i = 2 ∧ b.f = (QB g.ts g.time).1 ∧ (QB g.ts g.time).2 = 0 ∧ ∃ x : Step2R g, xY x.ys.1 = 0 ∧ b.n = x.ys.1.length ∧ b.p = KY x.row ∧ b.L = x.L) ∨
 (b.i = 3 ∧ b.f = (QB g.ts g.time).1 ∧ (QB g.ts g.time).2 = 0 ∧ V6 (g.accts.map AcL.er) = 0 ∧ ∃ s : StL, s.In (b.L ++ R) ∧ b.n = s.accts.length ∧ b.p = s.p ∧ (s.er, (0 : Int)) = QP b.f (V5 (g.accts.map AcL.er)) g.rc)
theorem J23 {t : Nat} {l : List AcE} (h : (QB ts t).2 ≠ 0) : VM ts t rc l = ([], 0, (QB ts t).2) := by unfold VM; rw [if_pos h]
theorem Jj5 {t : Nat} {l : List AcE} (h : (QB ts t).2 = 0) (h2 : V6 l ≠ 0) : VM ts t rc l = ([], 0, V6 l) := by unfold VM; rw [if_neg Mh, if_pos h2]
theorem Jei {t : Nat} {l : List AcE} (h : (QB ts t).2 = 0) (h2 : V6 l = 0) : VM ts t rc l = if (QP (QB ts t).1 (V5 l) rc).2 ≠ 0 then ([], 0, (QP (QB ts t).1 (V5 l) rc).2) else ((QP (QB ts t).1 (V5 l) rc).1, (QB ts t).1, 0) := by
 unfold VM; rw [if_neg Mh, if_neg (by simpa using h2)]
structure BStep (R : Jx) (g : GenL) (b : BSt) : Type where
  n : Nat
  p : Pl
  f : Int
  err : Int
  L : Jx
  ok : err = 0 → BSt.ok R g ⟨b.i + 1, n, p, f, L ++ b.L⟩
  bad : err ≠ 0 → VM g.ts g.time g.rc g.ac = ([], 0, err)
def fnN (i : Nat) : FuncId := if i = 0 then 70 else if i = 1 then 72 else 80
theorem Jj6 (i : Nat) : Enters Tryz.prog (fnN i) := by
 unfold fnN
 split
 ·exact enters_of Tryz.func70 m6 O
 ·split
  ·exact enters_of Tryz.func72 m6 O
  ·exact enters_of Tryz.func80 m6 O
theorem Jv5 {l : List AcE} (h : V6 l = 0) : (l.map AcE.addr).Nodup := by
 unfold V6 at h
 split at h
 ·assumption
 ·cases h
theorem Jz8 {g : GenL} (hg : g.In R) (hf : g.accts.length ≤ 1000) {b : BSt} (hb : b.ok R g) (hi : b.i < 3) (rp W : Nat) :
  PureT (α := BStep R g b) Tryz.prog (fnN b.i) [Q4 rp 0].toArray (fun y => .int .i64 y.err) [xX W g b.n b.p b.f] (fun y => xX W g y.n y.p y.f :: y.L) (rpB rp W :: (b.L ++ R)) := by
 obtain ⟨i, n, p, f, L⟩ := b
 rcases hb with ⟨h1, h2, h3, h4, h5⟩ | ⟨h1, h2, h3, h4, h5, h6⟩ | ⟨h1, h2, h3, x, h4, h5, h6, h7⟩ | ⟨h1, _⟩
 ·simp only at h1 h2 h3 h4 h5
  subst h1 h2 h3 h4 h5; exact (Jz5 hg rp W 0 none 0).map (fun _ => ⟨0, none, (QB g.ts g.time).1, (QB g.ts g.time).2, [], fun h => .inr (.inl ⟨rfl, rfl, rfl, rfl, h, rfl⟩), fun h => by unfold VM; rw [if_pos h]⟩) (fun _ => rfl) fun _ => List.Sublist.refl _
 ·simp only at h1 h2 h3 h4 h6
  subst h1 h2 h3 h4 h6
  exact (Jz7 hg hf rp W 0 none _).map (fun x => ⟨x.ys.1.length, KY x.row, (QB g.ts g.time).1, xY x.ys.1, x.L, fun h => .inr (.inr (.inl ⟨rfl, rfl, h5, x, h, rfl, rfl, List.append_nil _⟩)), fun h => by
   have h2 : V6 g.ac ≠ 0 := by rw [vd] at h; exact h
   rw [vd]; exact Jj5 h5 h2⟩) (fun _ => rfl) fun _ => List.Sublist.refl _
 ·simp only at h1 h2 h5 h6 h7
  subst h1 h2 h5 h6 h7
  have he : V6 g.ac = 0 := by rw [← h4, vd]; rfl
  have hs : x.st.er = V5 g.ac := x.ys.uniq (Jv5 he)
  have hq : QP (QB g.ts g.time).1 x.st.er g.rc = QP (QB g.ts g.time).1 (V5 g.ac) g.rc := by rw [hs]
  exact (Jz6 (hg.mono fun q hq => List.mem_append_right _ hq) (xF hg x) rp W _).map (fun y => ⟨y.s.accts.length, y.s.p, (QB g.ts g.time).1, y.err, y.L, fun h => .inr (.inr (.inr ⟨rfl, rfl, h3, he, y.s, by
    show y.s.In (y.L ++ x.L ++ R)
    rw [List.append_assoc]; exact y.ok, rfl, rfl, by
    have e := y.eq.trans hq
    rw [h] at e; exact e⟩)), fun h => by
   have e := y.eq.trans hq
   rw [Jei h3 he, ← e, if_pos h]⟩) (fun _ => rfl) fun _ => List.Sublist.refl _
 ·simp only at h1 hi; omega
def Jv6 (rq rp : Nat) : Nat × Obj := (rq, .cells #[.func (.func 70) #[] #[Q4 rp 0], .func (.func 72) #[] #[Q4 rp 0], .func (.func 80) #[] #[Q4 rp 0]] 73 (0, 0))
theorem j6 {g : GenL} (hg : g.In R) (hf : g.accts.length ≤ 1000) : PureT (α := BldR R (VM g.ts g.time g.rc g.ac)) Tryz.prog 11 [g.val].toArray (fun x => x.val) [] (fun x => x.L) R := by
 refine J4 Tryz.func11 O O fun w => gD fun r1 => ?_; refine LN O fun r2 => Gu ?_; refine LR O (Jd (xs := g.cells) (n := 20) O (kn 1 O) O O O) (LR O (Ju (r := [_, _, _, _, _, _, _, _, _, _, _, _, _, _, _, _, _, _, _, _, _, _]) O O) (JX (cs := (wkC g 0 none 0).toArray) O O O O fun W => gY ?_)); refine Kj O O O (enters_of Tryz.func30 m6 O) (Jz1 W) fun pp => ?_
 obtain ⟨rp, rq⟩ := pp
 change HL _ _ _ (Jv6 rq rp :: rpB rp W :: xX W g 0 none 0 :: (r2, _) :: (r1, _) :: []) _ _ _ _; refine kF ?_; refine Gb ?_; refine Jw (σ := BSt) (fun b => b.ok R g ∧ b.i ≤ 3) (fun b => [(2, Q4 r2 0), (3, .int .i64 0), (4, .int .i64 0), (5, Q4 W 0), (13, .slice (some ⟨rq, 0, none⟩) 3 3), (14, .int .i64 3), (15, .int .i64 (b.i : Int))]) (fun b => Jv6 rq rp :: rpB rp W :: xX W g b.n b.p b.f :: (r2, .cells #[KA 0 none] 36 (0, 0)) :: (r1, .cells g.cells.toArray 32 (0, 0)) :: b.L) (fun _ _ _ => True) (fun b => 3 - b.i) ⟨0, 0, none, 0, []⟩ ⟨.inl ⟨rfl, rfl, rfl, rfl, rfl⟩, Nat.zero_le _⟩ (lK O) (List.Sublist.refl _) (fun _ _ h => h) ?_; rintro b ⟨hok, hi1⟩; refine NO ?_; refine cD (fun h7 => ?_) fun h7 => ?_
 ·refine gk ?_
  have hb3 : b.i < 3 := by omega
  have hi3 : b.i = 0 ∨ b.i = 1 ∨ b.i = 2 := by omega
  refine HY ?_; refine LR O (JO (j := b.i) (m := 1) (off' := b.i) O O O O O hb3 m5) ?_
  refine LR O (Je (v := .func (.func (fnN b.i)) #[] #[Q4 rp 0]) O (kn 0 O) O (by rcases hi3 with h | h | h <;> rw [h] <;> rfl)) ?_; refine Gu ?_; refine QK (T := [xX W g b.n b.p b.f]) (L0 := Jv6 rq rp :: rpB rp W :: (r2, _) :: (r1, _) :: b.L) (Rl := rpB rp W :: (b.L ++ R)) (List.perm_middle (l₁ := [_, _])) O O O (Jj6 b.i) (Jz8 hg hf hok hb3 rp W) (fun q hq => (List.mem_cons.1 hq).elim (fun h => .inl MG) fun hq => (List.mem_append.1 hq).elim (fun h => .inl (List.mem_cons_of_mem _ (List.mem_cons_of_mem _ (List.mem_cons_of_mem _ (List.mem_cons_of_mem _ h))))) .inr) fun y => ?_; refine Kv (((QX y.L [_, _, _, _] b.L).cons _).trans (List.perm_middle (l₁ := [_, _])).symm) ?_; change HL _ _ _ (Jv6 rq rp :: rpB rp W :: xX W g y.n y.p y.f :: (r2, _) :: (r1, _) :: (y.L ++ b.L)) _ _ _ _; refine H2 ?_; refine cD (fun h12 => ?_) fun h12 => ?_
  refine kE ?_; refine F5 ?_; refine Q1 O ?_
  refine LT 3 O O (J1 10 O (Jf O O (.cons (Js (vs := [_]) O (kn 3 O) O O) (.cons (Jh O) (.cons (Jh O) .nil))) (fun w1 hs1 => ?_)))
  (have hbad := y.bad m5
   exact ⟨⟨st0L, 0, y.err, [], vD, hbad.symm⟩, rfl, hs1.weakL (List.nil_sublist _)⟩)
  refine Gz ?_; exact Jo ⟨b.i + 1, y.n, y.p, y.f, y.L ++ b.L⟩ ⟨y.ok m5, by show b.i + 1 ≤ 3; omega⟩ (by show 3 - (b.i + 1) < 3 - b.i; omega) (lK rfl) (List.Sublist.refl _) (fun _ _ h => h)
 ·refine NO ?_; refine JI [xX W g b.n b.p b.f] [(0, .pure), (1, .pure), (2, .pure), (3, .pure), (4, .pure), (5, .pure), (6, .pure), (7, .pure), (8, .turn), (9, .pure), (10, .pure)] 11 [0, 1, 2, 3, 4, 5, 6, 7, 8, 9, 10] m6 m6 (fun q hq => by rw [List.mem_singleton.1 hq]; exact List.mem_cons_of_mem _ (List.mem_cons_of_mem _ List.mem_cons_self)) (Hk ?_); refine DP ?_; refine Jm (k := 3) O O O O O (fun _ hS => (Jz (vs := [_]) O (.inl (hS _ (J3 (n := 0) O))) O O O O)) (Jm (k := 4) O O O O O (fun _ hS => (Jg O)) (Jm (k := 5) O O O O O (fun _ hS => (J2 O O O)) ?_))
  refine Jm (k := 6) O O O O O (fun _ hS => (J6 O O O)) (Jm (k := 7) O O O O O (fun _ hS => (Je O (.inl (hS _ (J3 (n := 0) O))) O O)) (Jbj (k := 8) (q := 3) (n := 1) (off := 0) (vs := #[KA b.n b.p]) (E' := Jv6 rq rp :: rpB rp W :: xX W g b.n b.p b.f :: (r2, _) :: (r1, _) :: b.L) (cs' := #[KA b.n b.p]) O O O O O O O O O mR O O (fun q hq => by rw [List.mem_singleton.1 hq]; exact List.mem_cons_of_mem _ (List.mem_cons_of_mem _ List.mem_cons_self)) (gm ?_))); refine Jm (k := 10) O O O O O (fun _ hS => (J8 O)) (Ka (H6 ?_)); refine Jf O O (.cons (Js (vs := [_]) O (kn 3 O) O O) (.cons (Jh O) (.cons (Jh O) .nil))) (fun w1 hs1 => ?_)
  (rcases hok with ⟨h1, _⟩ | ⟨h1, _⟩ | ⟨h1, _⟩ | ⟨h1, h2, h3, h4, s, h5, h6, h7, h8⟩
   omega
   omega
   omega
   ·refine ⟨⟨s, b.f, 0, b.L, h5, ?_⟩, ?_, hs1.weakL (List.sublist_append_right [_, _, _, _, _] _)⟩
    have h9 : (s.er, (0 : Int)) = QP b.f (V5 g.ac) g.rc := h8
    have h10 : V6 g.ac = 0 := h4
    rw [Jei h3 h10, ← h2, ← h9, if_neg ml]
    ·rw [h6, h7]; rfl)
def ve (x : AcL) : Bool → List AcL → List AcL
 | p, [] => if p then [] else [x]
 | p, y :: ys => (if !p && Op.bytesLess x.addr y.addr then [x] else []) ++ [y] ++ ve x (p || Op.bytesLess x.addr y.addr) ys
theorem j7 (x y : AcL) (p : Bool) (ys : List AcL) : ve x p (y :: ys) = (if !p && Op.bytesLess x.addr y.addr then [x] else []) ++ [y] ++ ve x (p || Op.bytesLess x.addr y.addr) ys := rfl
theorem Jbp {x y : AcL} {res acc ys : List AcL} {p : Bool} (h : res = acc ++ ve x p (y :: ys)) :
  (p = false → Op.bytesLess x.addr y.addr = true → res = acc ++ [x] ++ [y] ++ ve x true ys) ∧ (p = true ∨ Op.bytesLess x.addr y.addr = false → res = acc ++ [y] ++ ve x p ys) := by
 rw [h, j7]
 refine ⟨fun h1 h2 => ?_, fun h1 => ?_⟩
 ·subst h1; rw [h2]; simp
 ·rcases h1 with h1 | h1
  ·subst h1; simp
  ·rw [h1]; simp
theorem wc (x : AcL) : ∀ l, ve x true l = l
 | [] => rfl
 | y :: ys => by rw [j7]; simp [wc x ys]
theorem YU (x : AcL) : ∀ l, (ve x false l).Perm (x :: l)
 | [] => List.Perm.refl _
 | y :: ys => by
  rw [j7]
  by_cases h : Op.bytesLess x.addr y.addr = true
  ·rw [h]; simp [wc]
  ·rw [Bool.not_eq_true] at h
   rw [h]
   simp only [Bool.not_false, Bool.true_and, Bool.false_eq_true, if_false, List.nil_append, Bool.or_self, List.singleton_append]
   exact ((YU x ys).cons y).trans (List.Perm.swap x y ys)
abbrev leL (a b : AcL) : Prop := Op.bytesLess b.addr a.addr = false
theorem Jpw {a b c : AcL} (h1 : leL a b) (h2 : leL b c) : leL a c := by
 have := wa a.er b.er c.er (by simp only [xZ]; rw [show b.er.addr = b.addr from rfl, show a.er.addr = a.addr from rfl, h1]; rfl) (by simp only [xZ]; rw [show c.er.addr = c.addr from rfl, show b.er.addr = b.addr from rfl, h2]; rfl)
 simpa [xZ, AcL.er] using this
theorem Jbq (x : AcL) : ∀ l : List AcL, l.Pairwise leL → (ve x false l).Pairwise leL
 | [], _ => List.pairwise_singleton _ _
 | y :: ys, h => by
  rw [j7]
  obtain ⟨h1, h2⟩ := List.pairwise_cons.1 h
  by_cases hx : Op.bytesLess x.addr y.addr = true
  ·rw [hx]
   simp only [Bool.not_false, Bool.true_and, if_true, Bool.or_true, wc, List.singleton_append]
   refine List.pairwise_cons.2 ⟨fun z hz => ?_, h⟩
   have hxy : leL x y := Xg hx
   rcases List.mem_cons.1 hz with rfl | hz
   ·exact hxy
   ·exact Jpw hxy (h1 z hz)
  ·rw [Bool.not_eq_true] at hx
   rw [hx]
   simp only [Bool.not_false, Bool.true_and, Bool.false_eq_true, if_false, List.nil_append, Bool.or_self, List.singleton_append]
   refine List.pairwise_cons.2 ⟨fun z hz => ?_, Jbq x ys h2⟩
   rcases List.mem_cons.1 ((YU x ys).mem_iff.1 hz) with rfl | hz
   ·exact hx
   ·exact h1 z hz
def vf (out l : List AcL) : List AcL := l.foldl (fun o x => ve x false o) out
theorem j8 (out : List AcL) (x : AcL) (l : List AcL) : vf out (x :: l) = vf (ve x false out) l := rfl
theorem Jbr : ∀ (l out : List AcL), (vf out l).Perm (out ++ l)
 | [], out => by rw [List.append_nil]; exact List.Perm.refl _
 | x :: l, out => by
  rw [j8]
  refine (Jbr l _).trans (((YU x out).append_right l).trans ?_)
  exact List.perm_middle.symm
theorem Jbs : ∀ (l out : List AcL), out.Pairwise leL → (vf out l).Pairwise leL
 | [], _, h => h
 | x :: l, out, h => by rw [j8]; exact Jbs l _ (Jbq x out h)
def J54 (xs : List AcL) : SortR xs := ⟨vf [] xs, Jbr xs [], fun i j x y hij hx hy => by
 obtain ⟨hi, rfl⟩ := List.getElem?_eq_some_iff.1 hx
 obtain ⟨hj, rfl⟩ := List.getElem?_eq_some_iff.1 hy
 exact List.pairwise_iff_getElem.1 (Jbs xs [] List.Pairwise.nil) i j hi hj hij⟩
structure GenOk (ts : List Nat) (t : Nat) (rc : Rec) (l s : List AcE) (f : Int) : Prop where
  act : QB ts t = (f, 0)
  nd : (l.map AcE.addr).Nodup
  chk : KP (V5 l) = 0
  wr : QP f (V5 l) rc = (s, 0)
theorem J24 {t : Nat} {l s : List AcE} (h : VM ts t rc l = (s, f, 0)) : GenOk ts t rc l s f := by
 unfold VM at h
 split at h
 ·rename_i h1; exact absurd (Prod.mk.inj (Prod.mk.inj h).2).2 h1
 rename_i h1
 split at h
 ·rename_i h2; exact absurd (Prod.mk.inj (Prod.mk.inj h).2).2 h2
 rename_i h2
 split at h
 ·rename_i h3; exact absurd (Prod.mk.inj (Prod.mk.inj h).2).2 h3
 rename_i h3
 have h1 := Decidable.not_not.1 h1
 have h2 := Decidable.not_not.1 h2
 have h3 := Decidable.not_not.1 h3
 obtain ⟨e1, e2⟩ := Prod.mk.inj h
 have e2 := (Prod.mk.inj e2).1
 unfold V6 at h2
 split at h2
 ·rename_i hn
  exact ⟨by rw [← e2, ← h1], hn, h2, by rw [← e1, ← e2, ← h3]⟩
 ·cases h2
structure Ov (f : Int) (s t : List AcE) : Prop where
  kept : Kept s t
  fee : ¬ (Qf f 1).2 = true → Qn t A1 = Qn s A1
theorem xH {g : Int} (hg : g ≤ f) (h : (Qf g 1).2 = true) : (Qf f 1).2 = true := by
 unfold Qf at h ⊢
 rw [if_pos rfl] at h ⊢
 split at h
 ·rw [if_pos m5]
 ·cases h
theorem Ov.of {g : Int} {s t : List AcE} (hg : g ≤ f) (W : Wrote g s t r) : Ov f s t := ⟨W.kept, fun hf => by
 have h := W.fee
 rw [if_neg fun h2 => hf (xH hg h2)] at h
 exact h⟩
theorem Ov.trans {g : Int} {s t u : List AcE} (hg : g ≤ f) (h : Ov g s t) (k : Ov f t u) : Ov f s u := ⟨h.kept.trans k.kept, fun hf => (k.fee hf).trans (h.fee fun h2 => hf (xH hg h2))⟩
theorem Ov.mono {g : Int} {s t : List AcE} (hg : g ≤ f) (h : Ov g s t) : Ov f s t := ⟨h.kept, fun hf => h.fee fun h2 => hf (xH hg h2)⟩
theorem Jej {s : List AcE} (h : KN AcE.addr s) : (s.map AcE.addr).Nodup := by
 unfold List.Nodup
 rw [List.pairwise_map]
 exact h.imp fun h => jG h
theorem J06 : ∀ s : BS, wL (s.map Zt) = s.length
 | [] => by rw [List.map_nil, wL]; rfl
 | b :: s => by rw [List.map_cons, wL, J06 s, List.length_cons]; show Yy (.mk b.toNat 0 0 0 [] none [] none 0) + s.length = _; rw [Yy, wL]; simp; omega
theorem Jnh (s : BS) : Yy (xK s) = 1 + s.length := by unfold xK Qv; rw [Yy, J06]; simp
theorem Jv7 : ∀ l : List (BS × BS), (∀ x ∈ l, x.1.length = 32 ∧ x.2.length = 32) → wL (l.map wO) = 67 * l.length
 | [], _ => by rw [List.map_nil, wL]; rfl
 | x :: l, h => by
  obtain ⟨h1, h2⟩ := h x List.mem_cons_self
  rw [List.map_cons, wL, Jv7 l fun y hy => h y (List.mem_cons_of_mem _ hy), List.length_cons]
  unfold wO Qv
  rw [Yy, wL, wL, wL, Jnh, Jnh, h1, h2]; simp; omega
def wA (a : AcE) : Nat := 26 + a.code.length + 67 * a.slots.length
theorem J4t {a : AcE} (h : Wz a = 0) : Yy (acV a) = wA a := by
 obtain ⟨h1, h2, _⟩ := Ve h
 unfold acV Qv wA
 rw [Yy, wL, wL, wL, wL, wL, wL, Jnh, Jnh, Yy, Yy, Yy, wL, Jv7 _ fun x hx => ⟨(h2 x hx).1, (h2 x hx).2.1⟩, h1]; simp; omega
def wS (l : List AcE) : Nat := (l.map wA).sum
theorem J07 : ∀ l : List AcE, (∀ a ∈ l, Wz a = 0) → wL (l.map acV) = wS l
 | [], _ => by rw [List.map_nil, wL]; simp [wS]
 | a :: l, h => by
  have ih := J07 l fun b hb => h b (List.mem_cons_of_mem _ hb)
  rw [List.map_cons, wL, J4t (h a List.mem_cons_self), ih]
  unfold wS
  rw [List.map_cons, List.sum_cons]
theorem Jv8 {l : List AcE} (h : KP l = 0) : Yy (YM l) = 1 + wS l := by
 unfold YM Qv
 rw [Yy, J07 l (XV.1 h).2.1]; simp
def slN (l : List AcE) : Nat := (l.map fun a => a.slots.length).sum
theorem Jv9 {a : AcE} (h : Yz a = true) (h2 : a.code.length ≤ 512) : a.code.length ≤ 60 := by
 unfold Yz at h
 simp only [Bool.and_eq_true, Bool.not_eq_true', Bool.or_eq_false_iff, Bool.and_eq_false_iff, decide_eq_false_iff_not] at h
 omega
theorem Jwa : ∀ l : List AcE, (∀ a ∈ l, Wz a = 0 ∧ Yz a = true) → wS l ≤ 86 * l.length + 67 * slN l
 | [], _ => by simp [wS]
 | a :: l, h => by
  obtain ⟨h1, h2⟩ := h a List.mem_cons_self
  have ih := Jwa l fun b hb => h b (List.mem_cons_of_mem _ hb)
  have hc := Jv9 h2 (Ve h1).2.2.2.1
  unfold wS slN wA at ih ⊢
  rw [List.map_cons, List.sum_cons, List.map_cons, List.sum_cons, List.length_cons]
  omega
theorem Jni : ∀ (l : List AcE) (i : Nat) (n : Int), i + l.length ≤ 41 → (jD i n l).1 = true → (∀ a ∈ l, Yz a = true) ∧ (jD i n l).2 = n + (slN l : Int)
 | [], i, n, _, _ => ⟨fun a ha => (nomatch ha), by unfold jD slN; simp⟩
 | a :: l, i, n, hl, h => by
  rw [List.length_cons] at hl
  unfold jD at h ⊢
  rw [if_neg m5] at h ⊢
  by_cases hf : Yz a = false
  ·rw [if_pos hf] at h; cases h
  ·rw [if_neg hf] at h ⊢
   obtain ⟨h1, h2⟩ := Jni l (i + 1) (n + (a.slots.length : Int)) m5 h
   refine ⟨fun b hb => ?_, ?_⟩
   ·rcases List.mem_cons.1 hb with rfl | hb
    ·simpa using hf
    ·exact h1 b hb
   ·rw [h2]; unfold slN; rw [List.map_cons, List.sum_cons]; omega
theorem Jnj {l : List AcE} (h : je l = true) : l.length ≤ 40 ∧ (∀ a ∈ l, Yz a = true) ∧ slN l ≤ 40 := by
 unfold je at h
 simp only [Bool.and_eq_true, decide_eq_true_eq] at h
 obtain ⟨h1, h2, h3⟩ := h
 obtain ⟨g1, g2⟩ := Jni l 0 0 m5 h1
 exact ⟨h2, g1, by omega⟩
theorem Jnk {l m : List AcE} (h : l.Perm m) : wS l = wS m := (h.map wA).sum_nat
theorem J08 : ∀ {l m : List AcE}, l.Nodup → (∀ x ∈ l, x ∈ m) → wS l ≤ wS m
 | [], _, _, _ => by simp [wS]
 | x :: l, m, hn, h => by
  obtain ⟨h1, h2⟩ := List.nodup_cons.1 hn
  have ih := J08 h2 (m := m.erase x) fun y hy => (List.mem_erase_of_ne (fun e => h1 (by rw [← e]; exact hy))).2 (h y (List.mem_cons_of_mem _ hy))
  have hp := Jnk (List.perm_cons_erase (h x List.mem_cons_self))
  rw [hp]
  unfold wS at ih ⊢
  rw [List.map_cons, List.sum_cons, List.map_cons, List.sum_cons]
  omega
theorem Jwb {a : AcE} (h : Wz a = 0) : wA a ≤ 1610 := by
 obtain ⟨_, _, _, h4, h5⟩ := Ve h
 unfold wA; omega
theorem Jwc (s : List AcE) (hs : KP s = 0) (k : BS) : wA (VN s k) ≤ 1610 := by
 unfold VN
 cases h : Qn s k with
 | none => simp [wA, ac0]
 | some a => exact Jwb (qB hs h).2
theorem Jwd {s t : List AcE} (W : Wrote f s t r) : wS t ≤ wS s + 3220 := by
 have hs := (XV.1 W.new).2.2
 have hn : t.Nodup := by
  have := Jej hs
  unfold List.Nodup at this ⊢
  rw [List.pairwise_map] at this
  exact this.imp fun h e => h (by rw [e])
 have h := J08 (m := VN t A0 :: VN t A1 :: s) hn fun a ha => by
  have e2 : Qn t a.addr = some a := vz hs ha
  by_cases h0 : a.addr = A0
  ·have : VN t A0 = a := by unfold VN; rw [← h0, e2]; rfl
   rw [this]; exact List.mem_cons_self
  by_cases h1 : a.addr = A1
  ·have : VN t A1 = a := by unfold VN; rw [← h1, e2]; rfl
   rw [this]; exact List.mem_cons_of_mem _ List.mem_cons_self
  rw [W.others a.addr h0 h1] at e2
  exact List.mem_cons_of_mem _ (List.mem_cons_of_mem _ (vy e2).2)
 have g0 := Jwc t W.new A0
 have g1 := Jwc t W.new A1
 unfold wS at h ⊢
 rw [List.map_cons, List.sum_cons, List.map_cons, List.sum_cons] at h
 omega
theorem Jek {t : Nat} {l s : List AcE} (h : GenOk ts t rc l s f) (hf : je l = true) : KP s = 0 ∧ Yy (YM s) ≤ 20000 := by
 have W := Jro h.wr
 obtain ⟨f1, f2, f3⟩ := Jnj hf
 obtain ⟨c1, c2, _⟩ := XV.1 h.chk
 have hp := List.mergeSort_perm l xZ
 have hlk : ∀ a ∈ l, Wz a = 0 ∧ Yz a = true := fun a ha => ⟨c2 a (hp.mem_iff.2 ha), f2 a ha⟩
 have h1 := Jwa l hlk
 have h2 := Jwd W
 rw [show wS (V5 l) = wS l from Jnk hp] at h2
 have h3 := (XV.1 W.new).1
 exact ⟨W.new, by rw [Jv8 W.new]; omega⟩
def X6 (s : List AcE) : List AcE := [(Qn s A0).getD ac0]
theorem Jhy {s t : List AcE} (W : Wrote f s t r) : KP (X6 t) = 0 ∧ Yy (YM (X6 t)) ≤ 20000 := by
 obtain ⟨b, b1, b2, _⟩ := W.acct
 have e : X6 t = [b] := by unfold X6; rw [b1]; rfl
 have hc : KP [b] = 0 := by rw [chk_one]; exact b2
 rw [e]
 refine ⟨hc, ?_⟩
 have := Jwb b2
 rw [Jv8 hc]
 unfold wS
 simp only [List.map_cons, List.map_nil, List.sum_cons, List.sum_nil]
 omega
def xI (f : Int) : Int := Jm6 (vl f 5)
def vg (ts : List Nat) (t : Nat) (rc : Rec) (l : List AcE) : BS × Int :=
 if (VM ts t rc l).2.2 ≠ 0 then ([], (VM ts t rc l).2.2) else (Wx t (Q6 (VM ts t rc l).1).1, 0)
def wd (f : Int) (rc : Rec) : Nat := if xI f = 1 then rc.number else 0
def Z0 (ts : List Nat) (t : Nat) (rc : Rec) (l : List AcE) : BS × Int :=
 if (VM ts t rc l).2.2 ≠ 0 then ([], (VM ts t rc l).2.2) else
  VT (xI (VM ts t rc l).2.1) [(Q6 (VM ts t rc l).1).1, (Q6 (X6 (VM ts t rc l).1)).1, Wx t (Q6 (VM ts t rc l).1).1] (wd (VM ts t rc l).2.1 rc)
theorem Jwe (f : Int) : xI f = 0 ∨ xI f = 1 := by
 unfold xI Jm6
 by_cases h : (vl f 5) = []
 ·rw [h]; exact .inl O
 ·have hl : (vl f 5).length - 1 < (vl f 5).length := by have := List.length_pos_iff.2 h; omega
  have hm : (vl f 5).getD ((vl f 5).length - 1) 0 ∈ vl f 5 := by
   rw [List.getD_eq_getElem?_getD, List.getElem?_eq_getElem hl, Option.getD_some]; exact List.getElem_mem hl
  have hm2 := (List.mem_filter.1 hm).1
  simpa [jg] using hm2
theorem Jbt {l : List AcE} (h : KP l = 0) (hn : ∀ a ∈ l, Wr a.nonce) : (Q6 l).1.length = 32 ∧ (Q6 l).2 = 0 := by
 rw [xt h (Jd3 h hn)]
 exact ⟨Vx _ _ 0 yA (Jd3 h hn), rfl⟩
theorem YV (hs : s.In R) : ∀ a ∈ s.er, Wr a.nonce := fun a ha => by
 obtain ⟨b, hb, rfl⟩ := List.mem_map.1 ha
 exact (hs.accts b hb).nonce
theorem Jel {t : Nat} {l : List AcE} (x : BldR R (VM ts t rc l)) (h : x.err = 0) : GenOk ts t rc l x.s.er x.f := J24 (x.eq.symm.trans (by rw [h]))
theorem jh {g : GenL} (hf : je g.ac = true) : g.accts.length ≤ 40 := by
 have := (Jnj hf).1
 unfold GenL.ac at this
 rwa [List.length_map] at this
theorem j9 {l : List AcE} (h : KP l = 0) (hn : ∀ a ∈ l, Wr a.nonce) : ∃ s : BS, Q6 l = (s, 0) ∧ s.length = 32 := ⟨(Q6 l).1, Prod.ext rfl (Jbt h hn).2, (Jbt h hn).1⟩
theorem jA {t : Nat} {l s : List AcE} {e : Int} (h : (s, f, e) = VM ts t rc l) (he : e ≠ 0) : vg ts t rc l = ([], e) ∧ Z0 ts t rc l = ([], e) := by
 constructor
 ·unfold vg; rw [← h, if_pos he]
 ·unfold Z0; rw [← h, if_pos he]
theorem Jhz {t : Nat} {l s : List AcE} {e : Int} (h : (s, f, e) = VM ts t rc l) (he : e = 0) (hr : Q6 s = (rt, 0)) : vg ts t rc l = (Wx t rt, 0) := by
 unfold vg; rw [← h, if_neg (by simpa using he)]
 show (Wx t (Q6 s).1, (0 : Int)) = _
 rw [hr]
theorem Jbu {t : Nat} {l s : List AcE} {e : Int} (h : (s, f, e) = VM ts t rc l) (he : e = 0) {st : BS} (hr : Q6 s = (rt, 0)) (hs : Q6 (X6 s) = (st, 0)) : Z0 ts t rc l = VT (xI f) [rt, st, Wx t rt] (wd f rc) := by
 unfold Z0; rw [← h, if_neg (by simpa using he)]
 show VT (xI f) [(Q6 s).1, (Q6 (X6 s)).1, Wx t (Q6 s).1] (wd f rc) = _
 rw [hr, hs]
theorem YW (s : StL) (rv : Nat) : StL.er ⟨[Q5 s A0], some (⟨rv, 0, none⟩, 1)⟩ = X6 s.er := by
 show [(Q5 s A0).er] = X6 s.er
 unfold X6
 rw [Jk7]
theorem Jwf {g : GenL} (hg : g.In R) (hf : je g.ac = true) : PureR Tryz.prog 14 [g.val].toArray (Wm (vg g.ts g.time g.rc g.ac)) R := by
 have hl := jh hf
 refine Jc Tryz.func14 O O fun w => gD fun r1 => ?_; refine Gu ?_; refine kN ?_; refine Kn O O O Joi (j6 hg m5) oR fun x => GL ?_; change HL _ _ ((10, .tuple #[x.s.val, .int .i64 x.f, .int .i64 x.err]) :: _) ((r1, _) :: x.L) _ _ _ _; refine LS 4 [] O O (LN O fun r4 => Ha ?_); refine JN 11 O (cD (fun h5 => ?_) fun h5 => ?_)
 refine HS ?_
 have hbad := jA x.eq m5
 refine GG ?_; refine Nl fun w1 hs1 => ?_
 (refine ⟨?_, hs1.keep⟩
  rw [hbad.1]; rfl)
 ·refine GU ?_
  have he : x.err = 0 := by omega
  obtain ⟨hck, hw⟩ := Jek (Jel x he) hf
  obtain ⟨rt, hrt, hrl⟩ := j9 hck (YV x.ok)
  have hG := Jhz x.eq he hrt
  refine gV ?_; refine XG 12 [1] O O (Jn O O O J1v (Jed (root := rt) hg.time m5) (J1 6 O (Nl fun w1 hs1 => ?_)))
  (refine ⟨?_, hs1.keep⟩
   rw [hG]; rfl)
theorem Jnl {g : GenL} (hg : g.In R) (hf : je g.ac = true) : PureR Tryz.prog 16 [g.val].toArray (Wm (Z0 g.ts g.time g.rc g.ac)) R := by
 have hl := jh hf
 have hn0 : g.rc.number < 18446744073709551616 := hg.rc.1
 refine Jc Tryz.func16 O O fun w => gD fun r1 => ?_; refine Gu ?_; refine kN ?_; refine Kn O O O Joi (j6 hg m5) oR fun x => GL ?_; change HL _ _ ((18, .tuple #[x.s.val, .int .i64 x.f, .int .i64 x.err]) :: _) ((r1, _) :: x.L) _ _ _ _; refine LS 4 [] O O (LN O fun r4 => Ha ?_); refine JN 11 O (cD (fun h5 => ?_) fun h5 => ?_)
 refine HS ?_
 have hbad := jA x.eq m5
 refine GG ?_; refine Nl fun w1 hs1 => ?_
 (refine ⟨?_, hs1.keep⟩
  rw [hbad.2]; rfl)
 ·refine GU ?_
  have he : x.err = 0 := by omega
  have hok := Jel x he
  obtain ⟨hck, hw⟩ := Jek hok hf
  obtain ⟨hck2, hw2⟩ := Jhy (Jro hok.wr)
  obtain ⟨rt, hrt, hrl⟩ := j9 hck (YV x.ok)
  obtain ⟨st, hst, hsl⟩ := j9 hck2 MZ
  have hC := Jbu x.eq he hrt hst
  obtain ⟨v, hv⟩ : ∃ v, v = xI x.f := ⟨_, rfl⟩
  have hv01 := Jwe x.f
  rw [← hv] at hC hv01; refine gV ?_; refine JN 8 O ?_
  refine JI [] [(3, .pure), (4, .pure), (5, .pure), (6, .grow (Vu vr (.cells #[.string ⟨#[]⟩, .int .u64 0, .int .u64 0, .int .u64 0, .int .u64 0, .int .u64 0, .string ⟨#[]⟩, .slice none 0 0] 48 (0, 0)))), (7, .turn), (8, .pure)] 9 [0, 1, 2, 3, 4, 5, 6, 7, 8] m6 m6 m8 (JY (k := 0) O O O O O (Jd (xs := x.s.cells) (n := 1) O (kn 0 O) O O O) (JW (k := 1) O O O O O J1t (P_Addr0.toR) (fun q hq => .inr hq) (JW (k := 2) O O O O O (enters_of Tryz.func18 m6 O) (Juh (R := x.L ++ R) x.ok A0) (fun q hq => (List.mem_append.1 hq).elim (fun h => Or.inl (List.mem_cons_of_mem _ (List.mem_cons_of_mem _ h))) (fun hq => Or.inr hq)) (Jm (k := 3) O O O O O (fun _ hS => (Jg O)) (Jm (k := 4) O O O O O (fun _ hS => (Kh O O)) (Jm (k := 5) O O O O O (fun _ hS => (Kh O O)) (VZ (k := 6) (cs := #[_, _, _, _, _, _, _, _]) O O O O O O fun r9 => Vk (k := 7) (q := 0) (n := 8) (ys := (Q5 x.s A0).cells) O O O O O O O O O O O (fun _ h => absurd h List.not_mem_nil) (gS ?_)))))))); refine GF fun rv => ?_; refine Ji (v := Wm (Q6 (StL.er ⟨[Q5 x.s A0], some (⟨rv, 0, none⟩, 1)⟩))) O O O J1u (xu (vV (jr x.ok A0) rv) (fun _ => by rw [YW]; exact hw2)) (fun q hq => (List.mem_cons.1 hq).elim (fun h => .inl Mt) fun hq => (List.mem_append.1 hq).elim (fun h => Or.inl (List.mem_cons_of_mem _ (List.mem_cons_of_mem _ (List.mem_cons_of_mem _ (List.mem_cons_of_mem _ h))))) (fun hq => Or.inr hq)) (Jq (congrArg Wm ((congrArg Q6 (YW x.s rv)).trans hst)) (JH 10 O (Jn O O O (enters_of Tryz.func21 m6 O) (J4p x.f 5) (Jq M4 (Goc 22 [3] O O (cD (fun h14 => ?_) fun h14 => ?_))))))
  refine Qy 12 [3] O O (Gg ?_); refine Nl fun w1 hs1 => ?_
  (refine ⟨?_, hs1.keep⟩
   rw [hC, show wd x.f g.rc = 0 from by unfold wd; rw [← hv, if_neg m5]]; rfl)
  ·refine Qy 10 [3] O O (Gg ?_); refine Nl fun w1 hs1 => ?_
   (refine ⟨?_, hs1.keep⟩
    rw [hC, show wd x.f g.rc = g.rc.number from by unfold wd; rw [← hv, if_pos m5]]; rfl)
theorem Jpx {l : List AcL} {p : Pl} (hl : l.length ≤ 1000) (hseg : Seg R l.length (KV l) p) :
    PureT (α := { row : QC // rowOk 8 (vf [] l).length (KV (vf [] l)) row }) Tryz.prog 32 [KA l.length p].toArray (fun y => J9 (vf [] l).length y.1) [] (fun y => JE 48 (KV (vf [] l)) y.1) R := by
  obtain ⟨fin, hfin⟩ : ∃ r, r = vf [] l := ⟨_, rfl⟩
  rw [← hfin]; refine J4 Tryz.func32 O O fun w => JJ (JC 17 O (Jw (σ := Nat × List AcL × QC) (fun q => q.1 ≤ l.length ∧ fin = vf q.2.1 (l.drop q.1) ∧ q.2.1.length = q.1 ∧ rowOk 8 q.2.1.length (KV q.2.1) q.2.2) (fun q => [(0, KA l.length p), (3, KA q.2.1.length (KY q.2.2)), (4, .int .i64 (q.1 : Int))]) (fun q => JE 48 (KV q.2.1) q.2.2) (fun _ _ _ => True) (fun q => l.length - q.1) (0, [], none) ⟨Nat.zero_le _, hfin, rfl, rfl, rfl⟩ (lK O) (List.Sublist.refl _) (fun _ _ h => h) ?_)); rintro ⟨i, out, row⟩ ⟨hi1, hsrt, hlen, hrow⟩; simp only at hi1 hsrt hlen hrow
  have hso := JQ (e := 48) hrow m7
  change HC _ _ [(0, _), (3, KA out.length (KY row)), (4, .int .i64 (i : Int))] (JE _ (KV out) row) _ _ _; refine gn ?_; refine F3 ?_; refine cD (fun g => ?_) fun g => ?_
  · refine gk ?_
    obtain ⟨x, hx, hmx⟩ := QD (show i < l.length by omega)
    have hso := JQ (e := 48) hrow m7
    obtain ⟨res, hres⟩ : ∃ r, r = ve x false out := ⟨_, rfl⟩
    refine JC 16 O (Jw (σ := Nat × Bool × List AcL × Nat × List Value × QC) (fun q => q.1 ≤ out.length ∧ res = q.2.2.1 ++ ve x q.2.1 (out.drop q.1) ∧ OutI AcL.cells 8 q.2.2.1 q.2.2.2.1 q.2.2.2.2.1 q.2.2.2.2.2 ∧ q.2.2.2.1 ≤ 2 * q.1) (fun q => [(0, KA l.length p), (3, KA out.length (KY row)), (4, .int .i64 (i : Int)), (5, J9 q.2.2.2.1 q.2.2.2.2.2), (6, .bool q.2.1), (7, .int .i64 (q.1 : Int))]) (fun q => JE 48 q.2.2.2.2.1 q.2.2.2.2.2 ++ JE 48 (KV out) row) (fun _ _ _ => True) (fun q => out.length - q.1) (0, false, [], 0, [], none) ⟨Nat.zero_le _, hres, OutI.nil, Nat.zero_le _⟩ (lK O) (List.Sublist.refl _) (fun _ _ h => h) ?_); rintro ⟨k, pt, acc, m, xs, row2⟩ ⟨hk1, hinv, ho, hm2⟩; simp only at hk1 hinv ho hm2; change HC _ _ [(0, _), (3, _), (4, _), (5, J9 m row2), (6, .bool pt), (7, .int .i64 (k : Int))] (JE _ xs row2 ++ JE _ (KV out) row) _ _ _; refine gn ?_; refine LR O (Jy O hso O) (ki ?_); refine cD (fun g => ?_) fun g => ?_
    · refine NO ?_
      obtain ⟨y, hy, hmy⟩ := QD (show k < out.length by omega)
      rw [VY hy] at hinv
      have hno := ho.num
      refine JK 15 m6 m6 (gr ?_); refine Nm ?_
      refine Yl 22 O (fun gb => ?_) (fun gb => ?_) <;> (try simp only [ZZ] at gb) <;> first | (refine Ja O O O (Jg O) ?_) | (refine JG O O O ?_)
      all_goals refine kR ?_
      all_goals first | (refine Ja O O O (JV (off' := Xe p + (i * 8 + 0)) O O (by show Xe p + i * 8 + 0 = _; omega)) ?_) | refine JG O O O ?_
      all_goals first | refine Ja O O O (Qc AcL.len (k := 0) (v := J5 x.addr) oR O hseg hx O O) ?_ | refine JG O O O ?_
      all_goals refine H1 ?_
      all_goals refine H1 ?_
      all_goals first | (refine Ja O O O (Jk (j := k) O hso O O O me m5) ?_) | refine JG O O O ?_
      all_goals first | (refine Ja O O O (JV (off' := Xe (KY row) + (k * 8 + 0)) O O (by show Xe (KY row) + k * 8 + 0 = _; omega)) ?_) | refine JG O O O ?_
      all_goals first | refine Ja O O O (Qc AcL.len (k := 0) (v := J5 y.addr) (fun q hq => Or.inl (List.mem_append_right _ hq)) O hso hy O O) ?_ | refine JG O O O ?_
      all_goals first | refine Ja O O O (Jkk (a := x.addr) (b := y.addr) O O) ?_ | refine JG O O O ?_
      all_goals refine gi ?_
      all_goals (
       refine JS (J1 1 O (XC 1 O ?_)); refine J7 O (fun g => ?_) (fun g => ?_)
       · try exact Bool.noConfusion g
         all_goals try simp only [ZZ] at g
         all_goals (
          refine gn ?_
          refine kG ?_; refine Dw fun rv => ?_; refine JA (L0 := (rv, _) :: JE 48 (KV out) row) (xs := xs) (row := row2) (n := m) (sz := 8) (b := 96) (news := x.cells) List.perm_middle.symm O O O O (kn 0 O) O O O O O m7 O O O m7 ho.ok m5 m5 fun ra cap sp hra => ki ?_; refine qH (.cons₂ _ (.cons _ (List.Sublist.refl _))) ?_
          obtain ⟨pt2, hpt2⟩ : ∃ b, b = true := ⟨_, rfl⟩
          refine kE ?_; refine Jq (congrArg Value.bool hpt2.symm) (H9 ?_)
          (have ho1 := ho.snoc hra
           have hinv1 := (Jbp hinv).1 m9 m9
           have hm1 : m + 1 ≤ 2 * k + 1 := by omega
           change HC _ _ ((6, .bool pt2) :: (5, J9 (m + 1) (some (ra, cap, sp))) :: _) (JE 48 (xs ++ x.cells) (some (ra, cap, sp)) ++ JE 48 (KV out) row) _ _ _; clear hinv ho hno hra hm2
           generalize acc ++ [x] = acc at ho1 hinv1
           generalize m + 1 = m at ho1 hm1 ⊢
           generalize xs ++ x.cells = xs at ho1 ⊢
           generalize (some (ra, cap, sp) : QC) = row2 at ho1 ⊢
           rw [← hpt2] at hinv1; clear hpt2
           obtain ⟨pt, rfl⟩ : ∃ b, b = pt2 := ⟨pt2, rfl⟩)
          have ho := ho1
          have hno := ho.num
          exact NG
          skip)
       try simp only [ZZ] at g
       refine JC 2 O ?_
       (have ho1 := ho
        have hinv1 := (Jbp hinv).2 nO
        have hm1 : m ≤ 2 * k + 1 := by omega
        clear hinv ho hno hm2)
       have ho := ho1
       have hno := ho.num
       exact NG
       skip)
    refine Dk ?_
    obtain rfl : k = out.length := by omega
    rw [List.drop_length, ve] at hinv
    have hno := ho.num
    refine gk ?_; refine cD (fun g => ?_) fun g => ?_
    refine gZ ?_
    refine kG ?_; refine Dw fun rv => ?_; refine JA (L0 := (rv, _) :: JE 48 (KV out) row) (xs := xs) (row := row2) (n := m) (sz := 8) (b := 96) (news := x.cells) List.perm_middle.symm O O O O (kn 0 O) O O O O O m7 O O O m7 ho.ok m5 m5 fun ra cap sp hra => ki ?_
    (have hr : res = acc ++ [x] := by rw [hinv]; simp_all
     have ho1 := ho.snoc hra
     refine qH (L' := JE 48 (xs ++ x.cells) (some (ra, cap, sp))) (.cons₂ _ (List.nil_sublist _)) ?_; rw [← hr] at ho1; change HC _ _ ((5, J9 (m + 1) (some (ra, cap, sp))) :: _) _ _ _ _; clear hinv ho hno hra
     generalize m + 1 = m at ho1 ⊢
     generalize xs ++ x.cells = xs at ho1 ⊢
     generalize (some (ra, cap, sp) : QC) = row2 at ho1 ⊢)
    exact G6
    refine JC 2 O ?_
    (have hr : res = acc := by rw [hinv]; simp_all
     have ho1 := ho
     refine qH (L' := JE 48 xs row2) (List.sublist_append_left _ _) ?_; rw [← hr] at ho1
     clear hinv ho hno)
    exact G6
  · refine NO ?_
    obtain rfl : i = l.length := by omega
    rw [List.drop_length] at hsrt
    obtain rfl : fin = out := hsrt
    refine Kk 6 O (NW fun w1 hs1 => ?_); exact ⟨⟨row, hrow⟩, by rw [← QG _ _ hrow.zero]; rfl, hs1⟩
end Go.Proofs.YtfaagelglpgpkaaGreatDoor
