import Derived.Test.YtckoepmdmhdepaaGreatDoorZtStablee
open Go.Proofs.Tryz (prog)
set_option maxRecDepth 100000
namespace Go.Proofs.YtckoepmdmhdepaaGreatDoor
set_option linter.all false
open Go.SL Go.RowKit Go.Shelf
open Go.Proofs (Enters enters_of)
variable {s : BS} {v : Bool} {fn : Func} {g : FuncId} {e hi lo : Int} {it : It} {x y : ItL} {R Rl : J3} {acc : List AxE} {ys : List ItL} {caps cs vs : List Value} {α : Type} {a cap i q r r1 r2 r5 sz u : Nat} {row : QZ} {t : TxL} {c : UInt8} {bad : Value → Prop} {w : World} {LL : α → J3}
def jo (r2 r3 : Nat) (cs : List Value) (e : Int) : J3 := [(r2, .cells cs.toArray 33 (0, 0)), (r3, .cells #[.int .i64 e] 43 (0, 0))]
theorem Ju3 (r2 r3 : Nat) (hne : r2 ≠ r3) (cs : List Value) (hcs : cs.length = 36) (e0 e1 : Int) (w : World) (hT : jn (jo r2 r3 cs e0) w) : CallsDIn (FW none) 0 prog 49 [Kj r2, Kj r3].toArray (.panicking (ja (wgV e1))) w (fun e u' w' => (∃ x, e = .returned x) ∧ settle u' = .returning ∧ Keep [r2, r3] w w' ∧ jn (jo r2 r3 tx0L.cells e1) w') := by
 have hdis : (jo r2 r3 cs e0).Pairwise fun p q => p.1 ≠ q.1 := by unfold jo; simp [hne]
 refine Wr (yz prog w (jo r2 r3 cs e0) [] Tryz.f49.ntmps) Tryz.func49 O O O O (L := jo r2 r3 cs e0) (X := fun _ _ => True) (St.startT hT (fun p hp => nomatch hp) hdis (fun p hp => nomatch hp)) fun c₀ cs0 hu => ?_
 obtain ⟨hrv, hrc⟩ := Jc0 (cs := cs0) hu
 refine vB fun K hK => Y7 ?_; change HS _ _ _ _ _ _ [0, 1, 2, 3, 4, 5, 6, 7] _ _; refine Y8 O O O O (fun a w hf => rfl) hrv hrc (Yf O O O O (JH O O O) (Yf O O O O (Jw O) (Yf O O O O (Jb O O) (Yf O O O O (Jb O O) (Zk O XC O O (LN O fun rw => W9 (XB ?_))))))); refine Zk O XD O O (J2 (k := 0) (n := 1) (cs' := #[_]) (vs := #[_]) O O O O O O O m8 O O (W9 (XB ?_))); refine GR ?_; clear hK K; refine sR fun _ hK1 => gl ?_; refine nK hK1 (Jl O (fun g => ?_) (fun g => ?_))
 try simp only [ZZ] at g
 refine Kk [(rw, .cells #[.int .i64 e1] 113 (0, 0))] [(0, .pure), (1, .pure), (2, .pure), (3, .turn), (4, .turn)] 5 [0, 1, 2, 3, 4] m4 m4 (fun p hp => by rw [U'.1 hp]; exact N') (Jr (k := 0) O O O O O (fun _ _ => Jo (r := tx0L.cells) O m4) ?_)
 refine Jr (k := 1) O O O O O (fun _ hS => (Ja O O m0)) (Jr (k := 2) O O O O O (fun _ hS => (Jc O (.inl (hS _ (J0 (n := 0) O))) O O)) (KV (k := 3) (q := 1) (n := 36) (ys := tx0L.cells) O O O O O O O O (by simpa using hcs) rfl rfl (fun p hp => by rw [U'.1 hp]; exact N') (Qy (k := 4) (q := 2) (cs' := #[.int .i64 e1]) O O O O O O O O O O O (fun p hp => by rw [U'.1 hp]; exact N') (KJ (W9 (Yg (u' := .panicking [{ v := wgV e1, recovered := true }]) O O O .nil (fun w1 hs1 => ?_))))))); refine ⟨⟨_, rfl⟩, rfl, by have := hs1.keep; simpa [yz, jo] using this, fun p hp => ?_⟩; exact DS
 ·try exact Bool.noConfusion g
section
variable {c : Cx} {l : KY} {L L0 : J3} {X : XP} {d : List Deferred} {fn : Func} {R : Ending → World → Prop} {r2 r3 : Nat} {cs : List Value} {e0 e1 : Int}
theorem Wa (hP : c.P = prog) (hcs : cs.length = 36) (h : HQ c d l (jo r2 r3 tx0L.cells e1) X (bodyPostM (FW none) 0 prog fn R .ret)) : HQ c (dF 49 [Kj r2, Kj r3] :: d) l (jo r2 r3 cs e0) X (bodyPostM (FW none) 0 prog fn R (.panic (ja (wgV e1)))) :=
 Jh2 (enters_of Tryz.func49 m4 rfl) (fun w hs => CallsDIn.mono (Ju3 r2 r3 (by have h := hs.distinct; unfold jo at h; simpa using h) cs hcs e0 e1 w (fun p hp => (hs.own p hp).2.2)) fun _ _ w' ⟨h1, h2, h3, h4⟩ => ⟨h1, h2, by
  have hs0 : St c (jo r2 r3 cs e0 ++ []) X w := by rw [List.append_nil]; exact hs
  have hm : ∀ p ∈ jo r2 r3 tx0L.cells e1, p.1 ∈ (jo r2 r3 cs e0).map (·.1) := fun p hp => by
   simp only [jo, F', List.not_mem_nil, or_false] at hp
   rcases hp with rfl | rfl <;> simp [jo]
  have h5 := hs0.turnT (LL := jo r2 r3 tx0L.cells e1) (by simpa [jo] using h3) (fun p hp => ⟨.inl (hm p hp), h4 p hp⟩) (by have h := hs.distinct; unfold jo at h ⊢; simpa using h)
  rwa [List.append_nil] at h5⟩) h
end
def tkE (s : BS) : Nat := if (s.getD 0 0).toNat < 192 then (s.getD 0 0).toNat else 0
def qg (s : BS) : BS := if (s.getD 0 0).toNat < 192 then s.drop 1 else s
def txT (k : Nat) (g : List It) : TxE := if k = 126 then Jyy g else if k = 0 then Ja6 g else if k = 1 then Jp6 g else if k = 2 then Jp7 g else Jp8 g
def yg (k : Nat) (g : List It) : Prop := if k = 126 then DepOk g else if k = 0 then LegOk g else if k = 1 then TypOk1 g else if k = 2 then TypOk2 g else TypOk4 g
def txF (s : BS) : TxE := txT (tkE s) (WM (qg s)).1.xs
structure TxOk (s : BS) : Prop where
  ne : s ≠ []
  kd : (s.getD 0 0).toNat < 192 → (s.getD 0 0).toNat ≠ 0 ∧ Qp ((s.getD 0 0).toNat : Int) ≠ 0
  un : (WM (qg s)).2 = 0
  row : Ka (WM (qg s)).1 (Qp (tkE s)) (Qp (tkE s)) = 0
  fld : yg (tkE s) (WM (qg s)).1.xs
  chk : X0 (txF s) = 0
structure TxD (s : BS) where
  x : TxL
  L : J3
  e : Int
  inn : x.In L
  good : e = 0 → TxOk s ∧ x.er = txF s
  bad : e ≠ 0 → ¬ TxOk s ∧ x = tx0L
def jk (s : BS) (e : Int) (he : e ≠ 0) (h : ¬ TxOk s) : TxD s := ⟨tx0L, [], e, Jar, fun h0 => absurd h0 he, fun _ => ⟨h, rfl⟩⟩
theorem yj {k : Nat} (h : k = 126 ∨ k = 0 ∨ k = 1 ∨ k = 2 ∨ k = 4) (g : List It) : (txT k g).kind = k := by
 rcases h with rfl | rfl | rfl | rfl | rfl <;> rfl
theorem Jlh {p : Pl} (hlen : ys.length = Qp ((0 : Nat) : Int)) (hs : Seg R ys.length (Kq ys) p) :
  PureXT (α := TxN (txT 0 (ys.map ItL.er))) prog 54 [Kj q].toArray (yg 0 (ys.map ItL.er)) (badW (yg 0 (ys.map ItL.er))) (fun z => z.x.val) (QE q ys.length p) (fun z => z.L) R := Jp4 hlen hs
theorem Jgq {p : Pl} (hlen : ys.length = Qp ((126 : Nat) : Int)) (hs : Seg R ys.length (Kq ys) p) :
  PureXT (α := TxN (txT 126 (ys.map ItL.er))) prog 53 [Kj q].toArray (yg 126 (ys.map ItL.er)) (badW (yg 126 (ys.map ItL.er))) (fun z => z.x.val) (QE q ys.length p) (fun z => z.L) R := Jlg hlen hs
theorem Jqm {p : Pl} {k : Nat} (hk : k = 1 ∨ k = 2 ∨ k = 4) (hlen : ys.length = Qp ((k : Nat) : Int)) (hs : Seg R ys.length (Kq ys) p) (hin : ∀ y ∈ ys, y.In R) :
  PureXT (α := TxN (txT k (ys.map ItL.er))) prog 55 [Kj q, .int .i64 (k : Int)].toArray (yg k (ys.map ItL.er)) (badW (yg k (ys.map ItL.er))) (fun z => z.x.val) (QE q ys.length p) (fun z => z.L) R := by
 rcases hk with rfl | rfl | rfl
 ·exact Jp9 hlen hs hin
 ·exact Jqa hlen hs hin
 ·exact Jqb hlen hs hin
theorem J1g (hs : s.length ≤ 1000000000) (hne : s ≠ []) (h192 : 192 ≤ (s.getD 0 0).toNat) : PureT (α := TxD s) prog 12 [Jk s].toArray (fun z => .tuple #[z.x.val, .int .i64 z.e]) [] (fun z => z.L) [] := by
 have hpos : 0 < s.length := List.length_pos_iff.2 hne
 have hkk : tkE s = 0 := if_neg m3
 have hu : qg s = s := if_neg m3
 have hk5 : (0 : Nat) = 126 ∨ (0 : Nat) = 0 ∨ (0 : Nat) = 1 ∨ (0 : Nat) = 2 ∨ (0 : Nat) = 4 := by decide
 have hU := Vr hs
 refine HW fun w r2 r3 => ?_; refine Jl O (fun h5 => ?_) (fun h5 => ?_)
 exact absurd h5 (mJ)
 ·try simp only [ZZ] at h5
  refine Et ?_; refine Jl O (fun h9 => ?_) (fun h9 => ?_)
  exact absurd h9 (nI)
  ·try simp only [ZZ] at h9
   refine gx ?_; refine KA O O O Jac hU oN fun y => ?_
   obtain ⟨yx, yL, yin, yer⟩ := y
   refine gc ?_; change HL _ _ _ ((r3, _) :: (r2, _) :: yL) _ _ _ _; refine MR ?_; refine LN O fun r5 => gO ?_; refine Jm (k := 1) (cs' := #[.int .i64 (WM s).2]) O O O O O O O O O O (kV ?_); refine MY ?_
   refine KD O O O ZJ (VR _) oN (fun hun _ => ?_) (fun v hv => by
    (repeat (first | refine J6 ?_ | refine Jz ?_))
    obtain ⟨hn, e1, he1, rfl⟩ : badW (TxOk s) v := by exact ⟨fun h => hv.1 Mu, _, hv.1, hv.2⟩
    refine QO [2, 1] (L' := jo r2 r3 tx0L.cells _) m7 O (N8 fun w1 hs1 => ?_)
    exact ⟨jk s e1 he1 hn, rfl, hs1.weakL (S')⟩)
   refine NQ ?_; refine Kk ((r5, .cells (List.toArray yx.cells) 91 (0, 0)) :: yL) [(1, .grow (V1 (0 : Nat) (fun r => .map (some r)) (fun r => [wU r]))), (2, .pure)] 4 [0, 2, 1, 3] m4 m4 (fun p hp => (F'.1 hp).elim (fun h => h ▸ N') fun h => (M' (M' (M' h)))) (Xk (k := 0) O O O O O (Ji (xs := yx.cells) (n := 3) O (kn 0 O) O O (ItL.len _)) (ku ?_)); refine QV (k := 1) O O O O O Jad YD fun rm => ?_
   refine Xk (k := 3) O O O O O (Qk (v := .int .i64 (Qp ((0 : Nat) : Int) : Int)) (VP (t := 3) m4) O O (kn 0 O) O O ⟨_, rfl⟩ mc (WR ((0 : Nat) : Int))) (KJ ?_)
   refine KD O O O Jni (WO (Jeb (Qp ((0 : Nat) : Int)) yin)) (fun q hq => .inl (M' (M' (M' (M' hq))))) (fun hG q => ?_) (fun v hv => by
    (repeat (first | refine J6 ?_ | refine Jz ?_))
    obtain ⟨hn, e1, he1, rfl⟩ : badW (TxOk s) v := by exact hv.mono fun h => by have h2 := h.row; rw [hkk, hu, ← yer] at h2; exact h2
    refine QO [3, 2] (L' := jo r2 r3 tx0L.cells _) m7 O (N8 fun w1 hs1 => ?_)
    exact ⟨jk s e1 he1 hn, rfl, hs1.weakL (S')⟩)
   have hlen : yx.xs.length = Qp ((0 : Nat) : Int) := by have h := QC hG; rw [ItL.er_xs, D'] at h; omega
   have hsg := XG yin
   refine kB ?_; refine LN O fun r7 => JP 15 O (Jl O (fun h17 => ?_) (fun h17 => ?_))
   exact absurd h17 (m7)
   ·try simp only [ZZ] at h17
    refine gv ?_; refine Jl O (fun h19 => ?_) (fun h19 => ?_)
    ·try simp only [ZZ] at h19
     refine NG ?_
     refine JB (T := QE q yx.xs.length yx.p) (L0 := (r7, _) :: (rm, _) :: (r5, _) :: (r3, _) :: (r2, _) :: yL) (Rl := yL) (P') O O O (enters_of Tryz.func54 m4 O) (Jlh hlen hsg) (fun q hq => .inl (M' (M' (M' (M' (M' hq)))))) (fun hfo z => ?_) (fun v hv => by
      (repeat (first | refine J6 ?_ | refine Jz ?_))
      obtain ⟨hn, e1, he1, rfl⟩ : badW (TxOk s) v := by exact hv.mono fun h => by have h2 := h.fld; rw [hkk, hu, ← yer, ItL.er_xs] at h2; exact h2
      refine De fun w1 hs1 => ?_
      exact ⟨jk s e1 he1 hn, rfl, hs1.weakL (S')⟩)
     obtain ⟨zx, zL, zin, zer⟩ := z
     rw [yj hk5] at zin zer; refine gc ?_; change HL _ _ _ ((r7, _) :: (rm, _) :: (r5, _) :: (r3, _) :: (r2, _) :: (yL ++ zL)) _ _ _ _; refine Je (k := 0) (n := 36) (ys := zx.cells) O O O O O O O O O (gp ?_)
     refine MP ?_; refine Jm (k := 0) (cs' := List.toArray (({ zx with kind := ((0 : Nat) : Int) } : TxL)).cells) rfl rfl rfl rfl rfl rfl rfl rfl m4 rfl (kV ?_); refine En ?_
     have hck := YE zin
     rw [zer] at hck; refine Ju O O O Jnh hck (fun q hq => .inl (M' (M' (M' (M' (M' (Y' hq))))))) ?_
     refine KD O O O ZJ (VR _) oN (fun hok0 _ => ?_) (fun v hv => by
      (repeat (first | refine J6 ?_ | refine Jz ?_))
      obtain ⟨hn, e1, he1, rfl⟩ : badW (TxOk s) v := by exact ⟨fun h => hv.1 nk, _, hv.1, hv.2⟩
      refine De fun w1 hs1 => ?_
      exact ⟨jk s e1 he1 hn, rfl, hs1.weakL (S')⟩)
     refine kV ?_; refine En ?_; refine Je (k := 4) (n := 36) (ys := ({ zx with kind := ((0 : Nat) : Int) } : TxL).cells) rfl rfl rfl rfl rfl rfl rfl rfl rfl (HH ?_); refine Zz O (Jh O O (.cons (Jj (vs := ({ zx with kind := ((0 : Nat) : Int) } : TxL).cells) rfl (kn 4 rfl) rfl rfl) (.cons (JX rfl (kn 3 rfl) rfl rfl) .nil)) (fun w1 hs1 => ?_)); exact ⟨⟨_, zL, 0, zin, fun _ => ⟨⟨hne, fun h => absurd h m3, by rw [hu]; exact hun, by rw [hkk, hu, ← yer]; exact hG, by rw [hkk, hu, ← yer, ItL.er_xs]; exact hfo, by unfold txF; rw [hkk, hu, ← yer, ItL.er_xs]; exact hok0⟩, by unfold txF; rw [hkk, hu, ← yer, ItL.er_xs]; exact zer⟩, fun h => absurd O h⟩, rfl, hs1.weakL (.cons _ (.cons _ (.cons _ (.cons _ (.cons _ ((List.sublist_append_right _ _)))))))⟩
    ·exact absurd h19 (m7)
theorem Jy3 (hs : s.length ≤ 1000000000) (hne : s ≠ []) (hs0 : (s.getD 0 0).toNat = 126) : PureT (α := TxD s) prog 12 [Jk s].toArray (fun z => .tuple #[z.x.val, .int .i64 z.e]) [] (fun z => z.L) [] := by
 have hpos : 0 < s.length := List.length_pos_iff.2 hne
 have hkk : tkE s = 126 := by unfold tkE; rw [if_pos m3]; exact hs0
 have hu : qg s = s.drop 1 := if_pos m3
 have hk5 : (126 : Nat) = 126 ∨ (126 : Nat) = 0 ∨ (126 : Nat) = 1 ∨ (126 : Nat) = 2 ∨ (126 : Nat) = 4 := by decide
 have hm0 : ((Qp ((126 : Nat) : Int) : Nat) : Int) ≠ 0 := by decide
 have hmn : Qp ((s.getD 0 0).toNat : Int) ≠ 0 := by rw [hs0]; decide
 have hU := Vr (s := s.drop 1) nX
 refine HW fun w r2 r3 => ?_; refine Jl O (fun h5 => ?_) (fun h5 => ?_)
 exact absurd h5 (mJ)
 ·try simp only [ZZ] at h5
  refine Et ?_; refine Jl O (fun h9 => ?_) (fun h9 => ?_)
  ·try simp only [ZZ] at h9
   refine HE ?_; refine WK (show _ = Value.int .i64 ((126 : Nat) : Int) from congrArg (Value.int .i64) m3) (F8 ?_); refine gp ?_; refine J4 mh (JI O (KG O O O Jad YD fun rm0 => (JI O ?_)))
   refine LR O (Qk (v := .int .i64 (Qp ((126 : Nat) : Int) : Int)) (VP (t := 3) m4) O O (kn 0 O) O O ⟨_, rfl⟩ mc (WR ((126 : Nat) : Int))) (KC O (J4 Mm (LR O (Jy O O) ?_))); refine Dt ?_; refine Jl O (fun h16 => ?_) (fun h16 => ?_)
   exact absurd h16 (m7)
   ·try simp only [ZZ] at h16
    refine gx ?_; refine KA O O O Jac hU oN fun y => ?_
    obtain ⟨yx, yL, yin, yer⟩ := y
    refine Hl fun r5 => ?_
    refine KD O O O ZJ (VR _) oN (fun hun _ => ?_) (fun v hv => by
     (repeat (first | refine J6 ?_ | refine Jz ?_))
     obtain ⟨hn, e1, he1, rfl⟩ : badW (TxOk s) v := by exact ⟨fun h => hv.1 Mu, _, hv.1, hv.2⟩
     refine QO [3, 2] (L' := jo r2 r3 tx0L.cells _) m7 O (N8 fun w1 hs1 => ?_)
     exact ⟨jk s e1 he1 hn, rfl, hs1.weakL (S')⟩)
    refine kR fun rm => ?_
    refine Xk (k := 3) O O O O O (Qk (v := .int .i64 (Qp ((126 : Nat) : Int) : Int)) (VP (t := 3) m4) O O (kn 0 O) O O ⟨_, rfl⟩ mc (WR ((126 : Nat) : Int))) (KJ ?_)
    refine KD O O O Jni (WO (Jeb (Qp ((126 : Nat) : Int)) yin)) (fun q hq => .inl (M' (M' (M' (M' (M' hq)))))) (fun hG q => ?_) (fun v hv => by
     (repeat (first | refine J6 ?_ | refine Jz ?_))
     obtain ⟨hn, e1, he1, rfl⟩ : badW (TxOk s) v := by exact hv.mono fun h => by have h2 := h.row; rw [hkk, hu, ← yer] at h2; exact h2
     refine De fun w1 hs1 => ?_
     exact ⟨jk s e1 he1 hn, rfl, hs1.weakL (S')⟩)
    have hlen : yx.xs.length = Qp ((126 : Nat) : Int) := by have h := QC hG; rw [ItL.er_xs, D'] at h; omega
    have hsg := XG yin
    refine kB ?_; refine LN O fun r7 => JP 15 O (Jl O (fun h24 => ?_) (fun h24 => ?_))
    ·try simp only [ZZ] at h24
     refine NG ?_
     refine JB (T := QE q yx.xs.length yx.p) (L0 := (r7, _) :: (rm, _) :: (r5, _) :: (_, _) :: (r3, _) :: (r2, _) :: yL) (Rl := yL) (P') O O O (enters_of Tryz.func53 m4 O) (Jgq hlen hsg) (fun q hq => .inl (M' (M' (M' (M' (M' (M' hq))))))) (fun hfo z => ?_) (fun v hv => by
      (repeat (first | refine J6 ?_ | refine Jz ?_))
      obtain ⟨hn, e1, he1, rfl⟩ : badW (TxOk s) v := by exact hv.mono fun h => by have h2 := h.fld; rw [hkk, hu, ← yer, ItL.er_xs] at h2; exact h2
      refine Ft ?_; refine N8 fun w1 hs1 => ?_
      exact ⟨jk s e1 he1 hn, rfl, hs1.weakL (S')⟩)
     obtain ⟨zx, zL, zin, zer⟩ := z
     rw [yj hk5] at zin zer; refine Fz ?_; refine Jm (k := 0) (cs' := List.toArray (({ zx with kind := ((126 : Nat) : Int) } : TxL)).cells) rfl rfl rfl rfl rfl rfl rfl rfl m4 rfl (Ee ?_)
     have hck := YE zin
     rw [zer] at hck; refine GS ?_
     refine KD O O O ZJ (VR _) oN (fun hok0 _ => ?_) (fun v hv => by
      (repeat (first | refine J6 ?_ | refine Jz ?_))
      obtain ⟨hn, e1, he1, rfl⟩ : badW (TxOk s) v := by exact ⟨fun h => hv.1 nk, _, hv.1, hv.2⟩
      refine Ft ?_; refine N8 fun w1 hs1 => ?_
      exact ⟨jk s e1 he1 hn, rfl, hs1.weakL (S')⟩)
     refine Ee ?_; refine Je (k := 5) (n := 36) (ys := ({ zx with kind := ((126 : Nat) : Int) } : TxL).cells) rfl rfl rfl rfl rfl rfl rfl rfl rfl (Es ?_); refine Jh O O (.cons (Jj (vs := ({ zx with kind := ((126 : Nat) : Int) } : TxL).cells) rfl (kn 5 rfl) rfl rfl) (.cons (JX rfl (kn 4 rfl) rfl rfl) .nil)) (fun w1 hs1 => ?_); exact kY
    exact absurd h24 (m7)
  ·exact absurd h9 (nG)
theorem Jy4 {k : Nat} (hs : s.length ≤ 1000000000) (hne : s ≠ []) (hk : k = 1 ∨ k = 2 ∨ k = 4) (hs0 : (s.getD 0 0).toNat = k) : PureT (α := TxD s) prog 12 [Jk s].toArray (fun z => .tuple #[z.x.val, .int .i64 z.e]) [] (fun z => z.L) [] := by
 have hpos : 0 < s.length := List.length_pos_iff.2 hne
 have hkk : tkE s = k := by unfold tkE; rw [if_pos m3]; exact hs0
 have hu : qg s = s.drop 1 := if_pos m3
 have hk5 : k = 126 ∨ k = 0 ∨ k = 1 ∨ k = 2 ∨ k = 4 := .inr (.inr hk)
 have hm0 : ((Qp ((k : Nat) : Int) : Nat) : Int) ≠ 0 := by rcases hk with rfl | rfl | rfl <;> decide
 have hmn : Qp ((s.getD 0 0).toNat : Int) ≠ 0 := by rw [hs0]; omega
 have hU := Vr (s := s.drop 1) nX
 refine HW fun w r2 r3 => ?_; refine Jl O (fun h5 => ?_) (fun h5 => ?_)
 exact absurd h5 (mJ)
 ·try simp only [ZZ] at h5
  refine Et ?_; refine Jl O (fun h9 => ?_) (fun h9 => ?_)
  ·try simp only [ZZ] at h9
   refine HE ?_; refine WK (show _ = Value.int .i64 ((k : Nat) : Int) from congrArg (Value.int .i64) m3) (F8 ?_); refine gp ?_; refine J4 mh (JI O (KG O O O Jad YD fun rm0 => (JI O ?_)))
   refine LR O (Qk (v := .int .i64 (Qp ((k : Nat) : Int) : Int)) (VP (t := 3) m4) O O (kn 0 O) O O ⟨_, rfl⟩ mc (WR ((k : Nat) : Int))) (KC O (J4 Mm (LR O (Jy O O) ?_))); refine Dt ?_; refine Jl O (fun h16 => ?_) (fun h16 => ?_)
   exact absurd h16 (m7)
   ·try simp only [ZZ] at h16
    refine gx ?_; refine KA O O O Jac hU oN fun y => ?_
    obtain ⟨yx, yL, yin, yer⟩ := y
    refine Hl fun r5 => ?_
    refine KD O O O ZJ (VR _) oN (fun hun _ => ?_) (fun v hv => by
     (repeat (first | refine J6 ?_ | refine Jz ?_))
     obtain ⟨hn, e1, he1, rfl⟩ : badW (TxOk s) v := by exact ⟨fun h => hv.1 Mu, _, hv.1, hv.2⟩
     refine QO [3, 2] (L' := jo r2 r3 tx0L.cells _) m7 O (N8 fun w1 hs1 => ?_)
     exact ⟨jk s e1 he1 hn, rfl, hs1.weakL (S')⟩)
    refine kR fun rm => ?_
    refine Xk (k := 3) O O O O O (Qk (v := .int .i64 (Qp ((k : Nat) : Int) : Int)) (VP (t := 3) m4) O O (kn 0 O) O O ⟨_, rfl⟩ mc (WR ((k : Nat) : Int))) (KJ ?_)
    refine KD O O O Jni (WO (Jeb (Qp ((k : Nat) : Int)) yin)) (fun q hq => .inl (M' (M' (M' (M' (M' hq)))))) (fun hG q => ?_) (fun v hv => by
     (repeat (first | refine J6 ?_ | refine Jz ?_))
     obtain ⟨hn, e1, he1, rfl⟩ : badW (TxOk s) v := by exact hv.mono fun h => by have h2 := h.row; rw [hkk, hu, ← yer] at h2; exact h2
     refine De fun w1 hs1 => ?_
     exact ⟨jk s e1 he1 hn, rfl, hs1.weakL (S')⟩)
    have hlen : yx.xs.length = Qp ((k : Nat) : Int) := by have h := QC hG; rw [ItL.er_xs, D'] at h; omega
    have hsg := XG yin
    refine kB ?_; refine LN O fun r7 => J5 12 O (J4 mh (NQ ?_)); refine Jl O (fun h24 => ?_) (fun h24 => ?_)
    exact absurd h24 (m7)
    ·try simp only [ZZ] at h24
     refine gz ?_; refine J4 mh (NQ ?_); refine Jl O (fun h26 => ?_) (fun h26 => ?_)
     exact absurd h26 (m7)
     ·try simp only [ZZ] at h26
      refine gz ?_
      refine JB (T := QE q yx.xs.length yx.p) (L0 := (r7, _) :: (rm, _) :: (r5, _) :: (_, _) :: (r3, _) :: (r2, _) :: yL) (Rl := yL) (P') O O O (enters_of Tryz.func55 m4 O) (Jqm hk hlen hsg yin.sub) (fun q hq => .inl (M' (M' (M' (M' (M' (M' hq))))))) (fun hfo z => ?_) (fun v hv => by
       (repeat (first | refine J6 ?_ | refine Jz ?_))
       obtain ⟨hn, e1, he1, rfl⟩ : badW (TxOk s) v := by exact hv.mono fun h => by have h2 := h.fld; rw [hkk, hu, ← yer, ItL.er_xs] at h2; exact h2
       refine Ft ?_; refine N8 fun w1 hs1 => ?_
       exact ⟨jk s e1 he1 hn, rfl, hs1.weakL (S')⟩)
      obtain ⟨zx, zL, zin, zer⟩ := z
      rw [yj hk5] at zin zer; refine Fz ?_; refine Jm (k := 0) (cs' := List.toArray (({ zx with kind := ((k : Nat) : Int) } : TxL)).cells) rfl rfl rfl rfl rfl rfl rfl rfl m4 rfl (kV ?_); refine Eo ?_
      have hck := YE zin
      rw [zer] at hck; refine GS ?_
      refine KD O O O ZJ (VR _) oN (fun hok0 _ => ?_) (fun v hv => by
       (repeat (first | refine J6 ?_ | refine Jz ?_))
       obtain ⟨hn, e1, he1, rfl⟩ : badW (TxOk s) v := by exact ⟨fun h => hv.1 nk, _, hv.1, hv.2⟩
       refine Ft ?_; refine N8 fun w1 hs1 => ?_
       exact ⟨jk s e1 he1 hn, rfl, hs1.weakL (S')⟩)
      refine kV ?_; refine Eo ?_; refine Je (k := 5) (n := 36) (ys := ({ zx with kind := ((k : Nat) : Int) } : TxL).cells) rfl rfl rfl rfl rfl rfl rfl rfl rfl (Es ?_); refine Jh O O (.cons (Jj (vs := ({ zx with kind := ((k : Nat) : Int) } : TxL).cells) rfl (kn 5 rfl) rfl rfl) (.cons (JX rfl (kn 4 rfl) rfl rfl) .nil)) (fun w1 hs1 => ?_); exact kY
  ·exact absurd h9 (nG)
theorem Jy5 : PureT (α := TxD []) prog 12 [Jk []].toArray (fun z => .tuple #[z.x.val, .int .i64 z.e]) [] (fun z => z.L) [] := by
 obtain ⟨s, hs⟩ : ∃ s : BS, s = [] := ⟨_, rfl⟩
 rw [← hs]; refine HW fun w r2 r3 => ?_; refine Jl O (fun h5 => ?_) (fun h5 => ?_)
 try simp only [ZZ] at h5
 refine NG ?_; refine LR O (Jo (r := tx0L.cells) O m4) (Je (k := 1) (n := 36) (ys := tx0L.cells) O O O O O O O O O (Jm (k := 0) (cs' := #[.int .i64 3]) O O O O O O O O O O (gA ?_))); refine Zz O (Jh O O (.cons (Jj (vs := tx0L.cells) O (kn 1 O) O O) (.cons (JX O (kn 0 O) O O) .nil)) (fun w1 hs1 => ?_)); exact ⟨jk s 3 m7 (by intro h; exact h.ne hs), rfl, hs1.weakL (S')⟩
 ·exact absurd h5 ((by intro h; exact of_decide_eq_false h hs))
theorem Jy6 (hne : s ≠ []) (h192 : (s.getD 0 0).toNat < 192) (hb : (s.getD 0 0).toNat = 0 ∨ Qp ((s.getD 0 0).toNat : Int) = 0) : PureT (α := TxD s) prog 12 [Jk s].toArray (fun z => .tuple #[z.x.val, .int .i64 z.e]) [] (fun z => z.L) [] := by
  have hpos : 0 < s.length := List.length_pos_iff.2 hne
  refine HW fun w r2 r3 => ?_; refine Jl O (fun h5 => ?_) (fun h5 => ?_)
  exact absurd h5 (mJ)
  · try simp only [ZZ] at h5
    refine Et ?_; refine Jl O (fun h9 => ?_) (fun h9 => ?_)
    · try simp only [ZZ] at h9
      refine HE ?_; refine F8 ?_; refine g8 ?_
      refine J8 22 O (fun gb => ?_) (fun gb => ?_) <;> (try simp only [ZZ] at gb) <;> first | (refine KG O O O Jad YD fun rm0 => ?_) | (refine LK O ?_)
      all_goals refine Ns ?_
      all_goals first | (refine LR O (Qk (v := .int .i64 (Qp ((s.getD 0 0).toNat : Int) : Int)) (VP (t := 3) m4) O O (kn 0 O) O O ⟨_, rfl⟩ mc (WR ((s.getD 0 0).toNat : Int))) ?_) | refine LK O ?_
      all_goals refine MQ ?_
      all_goals (
       refine kN ?_; refine Jl O (fun h16 => ?_) (fun h16 => ?_)
       try simp only [ZZ] at h16
       refine NG ?_; refine LR O (Jo (r := tx0L.cells) O m4) ?_
       first | (refine Je (k := 1) (n := 36) (ys := tx0L.cells) O O O O O O O O O ?_) | (refine Je (k := 2) (n := 36) (ys := tx0L.cells) O O O O O O O O O ?_)
       first | (refine Jm (k := 0) (cs' := #[.int .i64 9]) O O O O O O O O O O ?_) | (refine Jm (k := 1) (cs' := #[.int .i64 9]) O O O O O O O O O O ?_)
       refine gA ?_
       first
         | (refine Zz O ?_
            refine Jh O O (.cons (Jj (vs := tx0L.cells) O (kn 1 O) O O) (.cons (JX O (kn 0 O) O O) .nil)) (fun w1 hs1 => ?_)
            exact ⟨jk s 9 m7 (by intro h; have := h.kd h192; omega), rfl, hs1.weakL (S')⟩)
         | (refine Zz O ?_
            refine Jh O O (.cons (Jj (vs := tx0L.cells) O (kn 2 O) O O) (.cons (JX O (kn 1 O) O O) .nil)) (fun w1 hs1 => ?_)
            exact ⟨jk s 9 m7 (by intro h; have := h.kd h192; omega), rfl, hs1.weakL (S')⟩)
       exact absurd h16 ((by intro h; first | exact absurd h m7 | (have := of_decide_eq_false h; omega)))
       skip)
    · exact absurd h9 (nG)
theorem Jed (hs : s.length ≤ 1000000000) : PureT (α := TxD s) prog 12 [Jk s].toArray (fun z => .tuple #[z.x.val, .int .i64 z.e]) [] (fun z => z.L) [] := by
 by_cases hne : s = []
 ·subst hne; exact Jy5
 by_cases h192 : 192 ≤ (s.getD 0 0).toNat
 ·exact J1g hs hne h192
 by_cases hb : (s.getD 0 0).toNat = 0 ∨ Qp ((s.getD 0 0).toNat : Int) = 0
 ·exact Jy6 hne m3 hb
 rw [not_or] at hb
 by_cases h6 : (s.getD 0 0).toNat = 126
 ·exact Jy3 hs hne h6
 refine Jy4 (k := (s.getD 0 0).toNat) hs hne ?_ O
 obtain ⟨h0, h1⟩ := hb
 unfold Qp at h1
 by_cases a1 : (s.getD 0 0).toNat = 1
 ·exact .inl a1
 by_cases a2 : (s.getD 0 0).toNat = 2
 ·exact .inr (.inl a2)
 by_cases a4 : (s.getD 0 0).toNat = 4
 ·exact .inr (.inr a4)
 ·exfalso; apply h1; rw [if_neg m3, if_neg m3, if_neg m3, if_neg m3, if_neg m3]
def bgE (s : BS) (i : Nat) : Bool := (s.getD (s.length - 1 - i / 8) 0).toNat.testBit (i % 8)
def Ve (n : Nat) : Nat := (n + 7) / 8
def QG (l : List Bool) : List Value := l.map Value.bool
def ZR (s : BS) (n : Nat) : List Bool := (List.range n).map (bgE s)
def xd (s : BS) (n : Nat) : Bool := (List.range (8 * s.length)).any fun i => decide (n ≤ i) && bgE s i
def Vi (s : BS) (n : Nat) : List Bool × Int := if n > 4096 then ([], 1) else if s.length ≠ Ve n then ([], 2) else if xd s n = true then ([], 8) else (ZR s n, 0)
theorem xf (s : BS) (i : Nat) : QG (ZR s i) ++ [Value.bool (bgE s i)] = QG (ZR s (i + 1)) := by
 unfold QG ZR
 rw [List.range_succ, List.map_append, List.map_append]; rfl
theorem jQ (s : BS) (n : Nat) : (ZR s n).length = n := by unfold ZR; simp
theorem Jqn  {n : Nat} (h : i < 8 * s.length) (h1 : n ≤ i) (h2 : bgE s i = true) : xd s n = true :=
 List.any_eq_true.2 ⟨i, List.mem_range.2 h, by rw [decide_eq_true h1, h2]; rfl⟩
theorem Ju4 {n : Nat} (h : ∀ i, i < 8 * s.length → n ≤ i → bgE s i = false) : xd s n = false := by
 cases e : xd s n with
 | false => rfl
 | true =>
  obtain ⟨i, h1, h2⟩ := List.any_eq_true.1 e
  rw [Bool.and_eq_true] at h2
  have h3 := h i (List.mem_range.1 h1) (of_decide_eq_true h2.1)
  rw [h3] at h2; exact absurd h2.2 m7
theorem Jqo {b : UInt8} : (b.toNat / 2 ^ i) &&& 1 = if b.toNat.testBit i then 1 else 0 := by
 rw [Nat.and_one_is_mod, Nat.testBit_eq_decide_div_mod_eq]
 by_cases h : b.toNat / 2 ^ i % 2 = 1
 ·rw [h]; simp
 ·rw [if_neg Mq]; omega
theorem Ju5 {n : Nat} (hn : n ≤ 1000000) : Pure prog 308 [.int .i64 (n : Int)].toArray (.int .i64 (Ve n : Nat)) := by
 refine JA Tryz.func308 O O fun w => Gm ?_; refine J4 mV ?_
 refine GV ?_; refine J4 mW (KC O (J4 mX (JD 4 O ?_))); exact Ng
theorem Ju6 (s : BS) : PureE (α := Nat) prog 327 [Jk s].toArray (fun r => .func (.func 337) #[] #[Kj r]) (fun r => [stB r s]) := by
 refine Qm Tryz.func327 O O fun w => ?_; exact gF
theorem Ju7 (hs : s.length ≤ 1000000) (rs : Nat) : vV prog 337 [Kj rs] [stB rs s] 0 (nxN (fun i => [.int .i64 (i : Int), .bool (bgE s i)]) (8 * s.length)) (Jxc (8 * s.length)) := by
  refine Xf Tryz.func337 O O fun q xids w2 XI XF hY => MZ ?_; refine NM ?_; refine Nz ?_
  refine GV ?_; refine J4 (show _ = Value.int .i64 ((8 * s.length : Nat) : Int) from by rw [wrap_i64 m3 m3]; congr 1 <;> omega) ?_; refine G5 ?_; refine JQ (σ := Nat) (fun i => i ≤ 8 * s.length) (fun i => [(0, .func (.yield q) #[] #[]), (1, Kj rs), (6, .int .i64 ((8 * s.length : Nat) : Int)), (7, .int .i64 (i : Int))]) (fun _ => []) (fun i => XI i) (fun i => 8 * s.length - i) 0 (Z') (lK O) (S') (fun _ _ h => h) ?_; intro i hi; refine gv ?_; refine cD (fun g => ?_) fun g => ?_
  · refine Jv 14 O (NM ?_); refine NM ?_; refine Nz ?_
    refine GV ?_; refine J4 (show _ = Value.int .i64 ((s.length - 1 : Nat) : Int) from by rw [wrap_i64 m3 m3]; congr 1 <;> omega) ?_; refine gu ?_; refine J4 (show _ = Value.int .i64 ((i / 8 : Nat)) from congrArg (Value.int .i64) (Zq m3 m7 m3)) ?_
    refine GV ?_; refine J4 (show _ = Value.int .i64 ((s.length - 1 - i / 8 : Nat) : Int) from by rw [wrap_i64 m3 m3]; congr 1 <;> omega) ?_; refine LR O (JW (j := s.length - 1 - i / 8) O O O O m3 O) ?_; refine gu ?_; refine J4 (show _ = Value.int .i64 ((i % 8 : Nat)) from congrArg (Value.int .i64) (Jsu _ _)) ?_; refine LR O (Jb9 (n := i % 8) (b := (((s.getD (s.length - 1 - i / 8) 0).toNat / 2 ^ (i % 8) : Nat) : Int)) O O O (show _ ≤ 8 from by omega) m3 (by rw [Int.natCast_ediv])) ?_; refine LR O (xK (op := .and) (m := (s.getD (s.length - 1 - i / 8) 0).toNat / 2 ^ (i % 8)) (n := 1) O O O (Nat.lt_of_le_of_lt (Nat.div_le_self _ _) (V6 _)) m7 (congrArg Int.ofNat Jqo)) ?_
    refine GV ?_; refine J4 (show _ = Value.bool (bgE s i) from by unfold bgE; cases (s.getD (s.length - 1 - i / 8) 0).toNat.testBit (i % 8) <;> rfl) ?_; refine QN (XT := XI (i + 1)) (XF := XF) O O O O (hY i [.int .i64 (i : Int), .bool (bgE s i)] (i + 1) ⟨by omega, rfl, rfl⟩) ?_ ?_
    all_goals (
     refine kW ?_; refine Jl O (fun g => ?_) (fun g => ?_)
     · try exact Bool.noConfusion g
       all_goals try simp only [ZZ] at g
       all_goals (
        exact EI
        skip)
     · try exact Bool.noConfusion g
       all_goals try simp only [ZZ] at g
       all_goals (
        refine gx ?_; refine J4 m9 ?_; exact kX
        skip)
     skip)
  · refine KF 4 O (Gy fun w1 hs1 => ?_)
    obtain ⟨xs1, hx1⟩ := hs1.now
    exact ⟨⟨_, rfl⟩, hs1.keep, .inl ⟨i, _, (by show i = 8 * s.length; omega), hx1⟩⟩
abbrev Jy7 (l : List Bool) := { row : QZ // rowOk 1 l.length (QG l) row }
theorem Jee (hs : s.length ≤ 1000000) {n : Nat} (hn : n ≤ 1000000) : PureT (α := Jy7 (Vi s n).1) prog 312 [Jk s, .int .i64 (n : Int)].toArray (fun y => .tuple #[JV (Vi s n).1.length y.1, .int .i64 (Vi s n).2]) [] (fun y => J9 4 (QG (Vi s n).1) y.1) [] := by
 refine Jq Tryz.func312 O O fun w => MZ ?_; refine JR (cs := List.toArray ([.int .i64 (n : Int)])) O O O O fun r3 => LN O fun r4 => LN O fun r5 => gp ?_; refine kI ?_; refine gu ?_; refine kI ?_; refine KC O (LR O (Jy O O) (JP 3 O ?_)); refine cD (fun g => ?_) fun g => ?_
 refine NG ?_
 refine kQ ?_
 refine Nx ?_; refine G4 ?_
 (refine Jh O O (.cons (JX O (kn 1 O) O O) (.cons (JX O (kn 0 O) O O) .nil)) (fun w1 hs1 => ?_)
  have hU : Vi s n = ([], 1) := by unfold Vi; exact if_pos m3
  rw [hU]
  exact ⟨⟨none, ⟨rfl, rfl⟩⟩, rfl, hs1.weakL (S')⟩)
 ·refine gz ?_; refine Nz ?_; refine kI ?_; refine JC O O O (enters_of Tryz.func308 m4 O) (Ju5 hn) (G5 ?_); refine cD (fun g => ?_) fun g => ?_
  refine NG ?_
  refine kQ ?_
  refine Nx ?_; refine G4 ?_
  (refine Jh O O (.cons (JX O (kn 1 O) O O) (.cons (JX O (kn 0 O) O O) .nil)) (fun w1 hs1 => ?_)
   have hU : Vi s n = ([], 2) := by unfold Vi; rw [if_neg m3, if_pos m3]
   rw [hU]
   exact ⟨⟨none, ⟨rfl, rfl⟩⟩, rfl, hs1.weakL (S')⟩)
  ·refine Ku 4 O ?_
   have hnl : s.length = Ve n := by omega
   have hn4 : ¬ n > 4096 := by omega
   have hn8 : n ≤ 8 * s.length := by unfold Ve at hnl; omega
   refine HI ?_; refine LN O fun r6 => gp ?_; refine KG O O O (enters_of Tryz.func327 m4 O) (Ju6 s) fun rs => NQ ?_; refine Zc [1, 3, 2, 0, 4] m7 O (Zr (τ := Unit) (fun i (z : Nat × QZ) => z.1 = min i n ∧ i ≤ 8 * s.length ∧ rowOk 1 z.1 (QG (ZR s z.1)) z.2 ∧ ∀ j, j < i → n ≤ j → bgE s j = false) (fun z => (r6, .cells #[JV z.1 z.2] 345 (0, 0)) :: (r4, .cells #[.slice none 0 0] 345 (0, 0)) :: (r5, .cells #[.int .i64 0] 43 (0, 0)) :: J9 4 (QG (ZR s z.1)) z.2) (fun j _ => j = .ret ∧ xd s n = true) (fun _ => [(r4, .cells #[.slice none 0 0] 345 (0, 0)), (r5, .cells #[.int .i64 8] 43 (0, 0))]) [(rs, _), (r3, _)] (0, none) O O (enters_of Tryz.func337 m4 O) (Ju7 hs rs) M0 O (fun q hq => Or.inl mB) O ⟨(Nat.zero_min _).symm, Z', ⟨rfl, rfl⟩, fun j hj => absurd hj (Nat.not_lt_zero _)⟩ ?_ ?_ ?_)
   rintro q Xr Xb w3 i _ _ ⟨m, row⟩ ⟨hi, rfl, rfl⟩ ⟨hm, hil, hrow, hno⟩ Kr hKr; refine inR ?_
   simp only at hm hKr hrow ⊢; refine GL ?_; refine EW ?_; clear hKr; refine gw ?_; refine Gp ?_; refine NQ ?_; refine cD (fun g => ?_) fun g => ?_
   refine HI ?_; refine MS ?_; refine gl ?_; refine JO (n := 1) (sz := 1) (vs := [_]) (zs := [_]) (r := [Value.bool (bgE s i)]) O O O O O O O O O me O fun rb => ?_
   obtain rfl : m = i := by omega
   refine Kw (L0 := [_, _, _, _]) (xs := QG (ZR s m)) (row := row) (n := m) (sz := 1) (b := 1) (news := [Value.bool (bgE s m)]) (B' (l₁ := [_, _, _, _])) O O O O (kn 0 O) O O O O O m7 O O O m7 hrow m3 m3 fun ra cap sp hra => ?_
   refine Hj ?_; refine JD 2 O ?_
   (refine QO [2, 3, 4, 0] (L' := [_, _, _, _]) m7 O ?_
    refine Xg (m + 1, some (ra, cap, sp)) ⟨by simp only; omega, by omega, by rw [xf] at hra; exact hra, fun j hj hjn => by omega⟩ ?_
    simp only [J9, JV, xf])
   refine Hu ?_; refine cD (fun g => ?_) fun g => ?_
   refine NG ?_
   refine kQ ?_
   refine Hj ?_; refine gA ?_; refine QO [1, 2] (L' := [_, _]) m7 O ?_; exact Yd () ⟨rfl, Jqn hi m3 ma⟩ O
   refine KF 2 O ?_
   (refine Xg (m, row) ⟨by simp only; omega, by omega, hrow, fun j hj hjn => by
     rcases Nat.lt_succ_iff_lt_or_eq.1 hj with h | rfl
     exact hno j h hjn
     assumption⟩ ?_
    rfl)
   ·rintro D i ⟨m, row⟩ hfi ⟨hm, hil, hrow, hno⟩
    simp only at hm hrow ⊢
    have hfi : i = 8 * s.length := hfi
    obtain rfl : m = n := by omega
    have hov : xd s m = false := Ju4 fun j hj => hno j m3
    refine wh 4 O (LR O (Jc (v := JV m row) O (kn 1 O) O O) ?_)
    refine Jm (k := 2) (cs' := #[JV m row]) O O O O O Me O O O O (HH ?_)
    (refine Wp (k := 0) O O ?_
     refine Jh O O (.cons (JX O (kn 2 O) O O) (.cons (JX O (kn 3 O) O O) .nil)) (fun w1 hs1 => ?_)
     have hU : Vi s m = (ZR s m, 0) := by unfold Vi; rw [if_neg hn4, if_neg m3, hov]; rfl
     rw [hU]
     exact ⟨⟨row, by rw [jQ]; exact hrow⟩, congrArg (fun k => Ending.returned (Value.tuple #[JV k row, .int .i64 0])) (jQ s m).symm, hs1.weakL (.cons _ (.cons _ (.cons _ (.cons _ (List.sublist_append_left _ _)))))⟩)
   ·rintro D j t ⟨rfl, hov⟩
    refine KF 3 O ?_
    (refine Wp (k := 0) O O ?_
     refine Jh O O (.cons (JX O (kn 1 O) O O) (.cons (JX O (kn 2 O) O O) .nil)) (fun w1 hs1 => ?_)
     have hU : Vi s n = ([], 8) := by unfold Vi; rw [if_neg hn4, if_neg m3, hov]; rfl
     rw [hU]
     exact ⟨⟨none, ⟨rfl, rfl⟩⟩, rfl, hs1.weakL (S')⟩)
def W5 (s : BS) : Nat → List Nat → Nat → List Nat × Nat × Int
 | 0, acc, a => (acc, a, 0)
 | n + 1, acc, a => if (KO s a).2.2 ≠ 0 then ([], 0, (KO s a).2.2) else W5 s n (acc ++ [(KO s a).1]) (KO s a).2.1
abbrev Ju8 (l : List Nat) := { row : QZ // rowOk 1 l.length (l.map uV) row }
structure UnI (s : BS) (n a0 i a : Nat) (acc : List Nat) (row : QZ) : Prop where
  le : i ≤ n
  len : acc.length = i
  eq : W5 s n [] a0 = W5 s (n - i) acc a
  ok : rowOk 1 i (acc.map uV) row
theorem Jjd (hs : s.length ≤ 9223372036854775807) {n a0 : Nat} (hn : n ≤ 4096) (ha : a0 ≤ s.length) : PureT (α := Ju8 (W5 s n [] a0).1) prog 313 [Jk s, .int .i64 (a0 : Int), .int .i64 (n : Int)].toArray (fun y => .tuple #[JV (W5 s n [] a0).1.length y.1, .int .i64 ((W5 s n [] a0).2.1 : Int), .int .i64 (W5 s n [] a0).2.2]) [] (fun y => J9 22 ((W5 s n [] a0).1.map uV) y.1) [] := by
 refine Jq Tryz.func313 O O fun w => Kl (Jv 12 O (J4 mh (gr ?_))); refine Nz ?_; refine KC O (LR O (Jy O O) (JP 2 O ?_)); refine Jl O (fun h12 => ?_) (fun h12 => ?_)
 exact absurd h12 (nI)
 ·try simp only [ZZ] at h12
  refine Ku 15 O (JQ (σ := Nat × Nat × List Nat × QZ) (fun z => UnI s n a0 z.1 z.2.1 z.2.2.1 z.2.2.2) (fun z => [(0, Jk s), (1, .int .i64 (z.2.1 : Int)), (9, JV z.1 z.2.2.2), (29, .int .i64 (n : Int)), (30, .int .i64 (z.1 : Int))]) (fun z => J9 22 (z.2.2.1.map uV) z.2.2.2) (fun _ _ _ => True) (fun z => n - z.1) (0, a0, [], none) ⟨Z', rfl, rfl, ⟨rfl, rfl⟩⟩ (lK O) (S') (fun _ _ h => h) ?_); rintro ⟨i, a, acc, row⟩ hI; simp only at hI
  have hi1 := hI.le
  have hil := hI.len
  refine gv ?_; refine cD (fun g => ?_) fun g => ?_
  ·refine Hu ?_
   obtain ⟨k, hk⟩ : ∃ k, n - i = k + 1 := ⟨n - i - 1, by omega⟩
   have heq := hI.eq
   rw [hk, W5] at heq; refine gz ?_; refine JC O O O Jh5 (X9 hs _) (MR ?_); refine Fh ?_; refine JP 12 O (cD (fun g => ?_) fun g => ?_)
   refine KF 15 O (GJ fun w1 hs1 => ?_)
   (rw [if_pos ma] at heq
    rw [heq]
    exact ⟨⟨none, ⟨rfl, rfl⟩⟩, rfl, hs1.weakL (S')⟩)
   ·refine gx ?_; refine JO (n := 1) (sz := 1) (vs := [_]) (zs := [_]) (r := [uV (KO s a).1]) O O O O O O O O O me O fun rb => Kw (L0 := [_]) (xs := acc.map uV) (row := row) (n := i) (sz := 1) (b := 8) (news := [uV (KO s a).1]) (B' (l₁ := [_])) O O O O (kn 0 O) O O O O O m7 O O O m7 hI.ok m3 m3 fun ra cap sp hra => J5 8 O (gK ?_); rw [if_neg m3] at heq
    have e : acc.map uV ++ [uV (KO s a).1] = (acc ++ [(KO s a).1]).map uV := by rw [List.map_append]; rfl
    rw [e] at hra; exact JL (i + 1, (KO s a).2.1, acc ++ [(KO s a).1], some (ra, cap, sp)) ⟨by simp only; omega, by simp only [C', List.length_singleton]; omega, by rw [heq, show n - (i + 1) = k by omega], hra⟩ mj (lK rfl) (by rw [← e]; exact .cons_cons _ (S')) (fun _ _ h => h)
  ·refine gv ?_
   have heq := hI.eq
   rw [show n - i = 0 by omega, W5] at heq; refine KF 9 O (GJ fun w1 hs1 => ?_)
   (rw [heq]
    exact ⟨⟨row, by rw [hil]; exact hI.ok⟩, congrArg (fun k => Ending.returned (Value.tuple #[JV k row, .int .i64 (a : Int), .int .i64 0])) hil.symm, hs1⟩)
theorem Jli (b : Bool) : Pure prog 339 [.bool b].toArray (.bool b) := by
 refine JA Tryz.func339 O O fun w => Kl (KF 12 O ?_); exact Ng
theorem Jgr {l : List Bool} {b : Bool} (h : l[i]? = some b) : (l.take (i + 1)).count true = (l.take i).count true + (if b = true then 1 else 0) := by
 rw [List.take_add_one, h, Option.toList_some, List.count_append]
 cases b <;> rfl
theorem vK {l : List Bool} {b : Bool} (h : l[i]? = some b) : (QG l)[i]? = some (.bool b) := by unfold QG; rw [List.getElem?_map, h]; rfl
theorem Jlj {l : List Bool} {p : Pl} (hl : l.length ≤ 1000000) (hs : Seg R l.length (QG l) p) : PureR prog 338 [Km l.length p, .func (.func 339) #[] #[]].toArray (.int .i64 ((l.count true : Nat) : Int)) R := by
 refine J1 Tryz.func338 O O fun w => Kl (Jv 14 O (No ?_)); refine JQ (σ := Nat × Nat) (fun z => z.1 ≤ l.length ∧ z.2 = (l.take z.1).count true) (fun z => [(1, .func (.func 339) #[] #[]), (5, .int .i64 (z.2 : Int)), (8, Km l.length p), (9, .int .i64 (l.length : Int)), (10, .int .i64 (z.1 : Int))]) (fun _ => []) (fun _ _ _ => True) (fun z => l.length - z.1) (0, 0) ⟨Z', rfl⟩ (lK O) (S') (fun _ _ h => h) ?_; rintro ⟨i, m⟩ ⟨hi1, hm⟩; simp only at hi1 hm; refine gv ?_; refine cD (fun g => ?_) fun g => ?_
 ·refine Hu ?_
  obtain ⟨b, hb, _⟩ := Vh nU
  have hct := Jgr hb
  have hml : m ≤ i := by rw [hm]; exact Lb' (List.count_le_length ..) n6
  refine HI ?_
  refine Nq ?_; refine LR O (Qr oR O hs m3 O (vK hb)) (g8 ?_); refine JC O O O (enters_of Tryz.func339 m4 O) (Jli b) (Dt ?_); refine cD (fun g => ?_) fun g => ?_
  ·refine gz ?_; refine J4 (show _ = Value.int .i64 ((m + 1 : Nat) : Int) from by rw [wrap_i64 m3 m3]; congr 1 <;> omega) ?_; refine Dr ?_; exact JL (i + 1, m + 1) ⟨by simp only; omega, by simp only; rw [hct, ← hm, if_pos ma]⟩ mj (lK rfl) (S') (fun _ _ h => h)
  ·refine gx ?_; refine gK ?_; exact JL (i + 1, m) ⟨by simp only; omega, by simp only; rw [hct, ← hm, if_neg mF, Nat.add_zero]⟩ mj (lK rfl) (S') (fun _ _ h => h)
 ·refine KF 12 O (MW fun w1 hs1 => ?_); rw [hm, show i = l.length by omega, List.take_length]; rfl
theorem Jqp {l : List Bool} {p : Pl} (hl : l.length ≤ 1000000) (hs : Seg R l.length (QG l) p) : PureR prog 330 [Km l.length p].toArray (.int .i64 ((l.count true : Nat) : Int)) R := by
 refine J1 Tryz.func330 O O fun w => G7 ?_; refine Ju O O O (enters_of Tryz.func338 m4 O) (Jlj hl hs) oR ?_; exact GP
theorem Ja9 (hs : s.length ≤ 1000000000) : (lookE s a).2.1 + (lookE s a).2.2.1 ≤ 1000000000 := by
 by_cases h : (lookE s a).1 = 0
 ·unfold lookE at h ⊢
  split at h
  ·cases h
  ·rename_i h1
   rw [if_neg h1]
   split at h
   ·rename_i h2; rw [if_pos h2]; show a + 1 ≤ _; omega
   ·rename_i h2
    rw [if_neg h2]
    split at h
    ·rename_i h3; exact absurd h h3
    ·rename_i h3
     rw [if_neg h3]
     split at h
     ·cases h
     ·rename_i h4
      rw [if_neg h4]
      split at h
      ·cases h
      ·rename_i h5
       rw [if_neg h5]
       show (ZO s a _).2.1 + (ZO s a _).2.2 ≤ _
       by_cases h6 : (ZO s a (s.getD a 0).toNat).2.1 ≤ s.length
       ·omega
       ·have h7 : (ZO s a (s.getD a 0).toNat).2.2 = 0 := by omega
        rw [h7]
        have hc : (s.getD a 0).toNat < 256 := (s.getD a 0).toNat_lt
        unfold ZO
        split
        ·unfold Yj
         split
         ·decide
         ·split
          ·decide
          ·split
           ·decide
           ·show a + 1 + _ + 0 ≤ _; omega
        ·show a + 1 + 0 ≤ _; omega
 ·unfold lookE at h ⊢
  split
  ·exact E6
  ·rename_i h1
   rw [if_neg h1] at h
   split
   ·rename_i h2; rw [if_pos h2] at h; exact absurd O h
   ·rename_i h2
    rw [if_neg h2] at h
    split
    ·exact E6
    ·rename_i h3
     rw [if_neg h3] at h
     split
     ·exact E6
     ·rename_i h4
      rw [if_neg h4] at h
      split
      ·exact E6
      ·rename_i h5; rw [if_neg h5] at h; exact absurd O h
theorem Jqq (hs : s.length ≤ 1000000) (ha : a ≤ s.length) : Pure prog 349 [Jk s, .int .i64 (a : Int)].toArray (.tuple #[.int .i64 (((lookE s a).2.1 + (lookE s a).2.2.1 : Nat) : Int), .int .i64 (lookE s a).1]) := by
 have hle := Ja9 (s := s) (a := a) m3
 refine JA Tryz.func349 O O fun w => Hr ?_; refine JC O O O Jh6 (Jap hs ha) (MR ?_); refine LN O fun r1 => ?_
 refine N1 ?_; refine kB ?_
 refine N5 ?_
 refine N5 ?_
 refine GV ?_; refine J4 (show _ = Value.int .i64 (((lookE s a).2.1 + (lookE s a).2.2.1 : Nat) : Int) from by rw [wrap_i64 m3 m3]; congr 1 <;> omega) ?_; refine JD 6 O ?_; refine MT fun w1 hs1 => ?_; exact HG
theorem Jqr (hs : s.length ≤ 1000000) (ha : a ≤ s.length) : Pure prog 179 [Jk s, .int .i64 (a : Int)].toArray (.tuple #[.int .i64 ((lookE s a).2.1 : Int), .int .i64 ((lookE s a).2.2.1 : Int), .bool (lookE s a).2.2.2, .int .i64 (lookE s a).1]) := by
 refine JA Tryz.func179 O O fun w => Kl (Jv 12 O (JC O O O Jh6 (Jap hs ha) (MR ?_))); refine LN O fun r1 => ?_
 refine N1 ?_; refine G5 ?_; refine KB 11 m4 m4 ?_
 refine Nk ?_
 refine Nk ?_
 refine Nk ?_; refine kr ?_; refine kc ?_; refine kc ?_; refine KR (GN ?_); refine Jh O O (.cons (Jg O) (.cons (Jg O) (.cons (Jg O) (.cons (Jg O) .nil)))) (fun w1 hs1 => ?_); exact HG
abbrev CZ := Nat × Int
variable {z z1 z2 z3 : CZ}
def Kf (r : Nat) (s : BS) (z : CZ) : Nat × Obj := (r, .cells #[Jk s, .int .i64 (z.1 : Int), .int .i64 z.2] 437 (0, 0))
def JE (z : CZ) (e : Int) : CZ := if z.2 = 0 then (z.1, e) else z
def KN (s : BS) (n : Nat) (z : CZ) : (BS × Bool) × CZ := if z.2 ≠ 0 then (([], false), z) else if s.length - z.1 < n then (([], false), (z.1, 3)) else (((s.take (z.1 + n)).drop z.1, true), (z.1 + n, 0))
theorem Vx {n : Nat} (h : z.1 ≤ s.length) : (KN s n z).2.1 ≤ s.length := by
 unfold KN; split
 ·exact h
 ·split
  ·exact h
  ·show z.1 + n ≤ _; omega
theorem Yv (s : BS) (n : Nat) (z : CZ) : (KN s n z).1.1.length ≤ s.length := by
 unfold KN; split
 ·exact Gw
 ·split
  ·exact Gw
  ·show ((s.take (z.1 + n)).drop z.1).length ≤ _; exact EX
theorem Qt (z : CZ) (e : Int) : (JE z e).1 = z.1 := by unfold JE; split <;> rfl
theorem Vs (r : Nat) (s : BS) (z : CZ) (e : Int) : PureT (α := Unit) prog 334 [Kj r, .int .i64 e].toArray (fun _ => .bool (decide ((JE z e).2 = 0))) [Kf r s z] (fun _ => [Kf r s (JE z e)]) [] := by
 obtain ⟨a, e0⟩ := z
 refine Jq Tryz.func334 O O fun w => Kl ?_
 unfold Kf
 refine Jv 10 O ?_
 refine Gt ?_; refine cD (fun g => ?_) fun g => ?_
 refine Di ?_
 refine Nx ?_; refine gp ?_
 refine N5 ?_; refine EN fun w1 hs1 => ?_
 (have hk : JE (a, e0) e = (a, e) := if_pos (by show e0 = 0; omega)
  rw [hk]
  exact ⟨(), congrArg (fun b => Ending.returned (Value.bool b)) (VZ _ _), hs1⟩)
 ·refine Hq ?_
  refine N5 ?_; refine EN fun w1 hs1 => ?_
  (have hk : JE (a, e0) e = (a, e0) := if_neg MH
   rw [hk]
   exact ⟨(), congrArg (fun b => Ending.returned (Value.bool b)) (VZ _ _), hs1⟩)
theorem YF {n : Nat} (ha : z.1 ≤ s.length) (hs : s.length ≤ 1000000000) (hn : n ≤ 1000000000) : PureT (α := Unit) prog 329 [Kj r, .int .i64 (n : Int)].toArray (fun _ => .tuple #[Jk (KN s n z).1.1, .bool (KN s n z).1.2]) [Kf r s z] (fun _ => [Kf r s (KN s n z).2]) [] := by
  obtain ⟨a, e0⟩ := z
  simp only at ha; refine Jq Tryz.func329 O O fun w => Kl ?_
  unfold Kf
  refine Ku 8 O (KB 19 m4 m4 (N0 ?_))
  refine Nk ?_; refine gP ?_; refine kr ?_
  refine vr 11 O (fun gb => ?_) (fun gb => ?_) <;> (try simp only [ZZ] at gb) <;> first | (refine Jt O O O (Jw O) ?_) | (refine Kp O O O ?_)
  all_goals refine Nw ?_
  all_goals first | refine Jt O O O (JJ O O) ?_ | refine Kp O O O ?_
  all_goals refine Nw ?_
  all_goals first | (refine Jt O O O (JH O O O) ?_; refine WK mO ?_) | refine Kp O O O ?_
  all_goals refine DC ?_
  all_goals refine GQ ?_
  all_goals (
   refine KR (JD 1 O (V0 1 O ?_)); refine Jl O (fun g => ?_) (fun g => ?_)
   · try exact Bool.noConfusion g
     all_goals try simp only [ZZ] at g
     all_goals (
      refine gz ?_
      refine MP ?_
      refine Nx ?_; refine g8 ?_
      refine Gt ?_; refine Jl O (fun g => ?_) (fun g => ?_)
      try simp only [ZZ] at g
      refine GL ?_; refine MT fun w1 hs1 => ?_
      (have hk : KN s n (a, e0) = (([], false), (a, 3)) := by unfold KN; rw [if_neg Mo, if_pos (by show s.length - a < n; omega)]
       rw [hk]; exact ⟨(), rfl, hs1⟩)
      try exact Bool.noConfusion g
      skip)
   · try simp only [ZZ] at g
     refine DE ?_
     refine Gt ?_; refine cD (fun g => ?_) fun g => ?_
     refine GL ?_; refine MT fun w1 hs1 => ?_
     (have hk : KN s n (a, e0) = (([], false), (a, e0)) := if_pos ML
      rw [hk]; exact ⟨(), rfl, hs1⟩)
     · refine Hq ?_
       refine N5 ?_; refine gu ?_; refine J4 nA (Ho ?_)
       refine Nx ?_; refine NQ ?_; refine KB 17 m4 m4 (N0 ?_)
       refine Gg ?_; refine kc ?_; refine KR (GN ?_); refine MT fun w1 hs1 => ?_
       (have hk : KN s n (a, e0) = (((s.take (a + n)).drop a, true), (a + n, 0)) := by unfold KN; rw [if_neg Mo, if_neg (by show ¬ s.length - a < n; omega)]
        obtain rfl : e0 = 0 := by omega
        rw [hk]; exact ⟨(), rfl, hs1⟩)
   skip)
def VO (s : BS) (n : Nat) (z : CZ) : List Bool × CZ := let t := KN s (Ve n) z
 if t.1.2 = false then (List.replicate n false, t.2) else if (JE t.2 (Vi t.1.1 n).2).2 ≠ 0 then (List.replicate n false, JE t.2 (Vi t.1.1 n).2) else ((Vi t.1.1 n).1, JE t.2 (Vi t.1.1 n).2)
def VX (s : BS) (n : Nat) (z : CZ) : List Nat × CZ := if z.2 ≠ 0 then (List.replicate n 0, z) else
 let u := W5 s n [] z.1
 if (JE z u.2.2).2 ≠ 0 then (List.replicate n 0, JE z u.2.2) else (u.1, (u.2.1, (JE z u.2.2).2))
def XH (s : BS) (z : CZ) : W4 × CZ := (W4.of (ZI (KN s 32 z).1.1).1, (KN s 32 z).2)
theorem Ju9 {n : Nat} (h : n ≤ 4096) : Ve n ≤ 512 := by unfold Ve; omega
theorem Jje (n : Nat) : QG (List.replicate n false) = List.replicate n (Value.bool false) := by unfold QG; rw [List.map_replicate]
theorem Jqs (n : Nat) : (List.replicate n 0).map uV = List.replicate n (uV 0) := List.map_replicate ..
theorem vL {z : Value} {n rm : Nat} {e : TypeId} : rowOk 1 n (List.replicate n z) (some (rm, n, [])) ∧ J9 e (List.replicate n z) (some (rm, n, [])) = [(rm, .cells (List.replicate n z).toArray e (0, 0))] :=
 ⟨⟨by rw [List.length_replicate, Nat.mul_one], by simp⟩, by show [(rm, Obj.cells (List.replicate n z ++ []).toArray e (0, 0))] = _; rw [List.append_nil]⟩
theorem Jww (n rm : Nat) : rowOk 1 (List.replicate n false).length (QG (List.replicate n false)) (some (rm, n, [])) := by rw [Jje, List.length_replicate]; exact (vL (e := 0)).1
theorem Jqt (n rm : Nat) (e : TypeId) : J9 e (QG (List.replicate n false)) (some (rm, n, [])) = [(rm, .cells (List.replicate n (.bool false)).toArray e (0, 0))] := by rw [Jje]; exact vL.2
theorem Jqu (n rm : Nat) : JV (List.replicate n false).length (some (rm, n, [])) = .slice (some ⟨rm, 0, none⟩) n n := by rw [List.length_replicate]; rfl
theorem Jwx (n rm : Nat) : rowOk 1 (List.replicate n 0).length ((List.replicate n 0).map uV) (some (rm, n, [])) := by rw [Jqs, List.length_replicate]; exact (vL (e := 0)).1
theorem Jqv (n rm : Nat) (e : TypeId) : J9 e ((List.replicate n 0).map uV) (some (rm, n, [])) = [(rm, .cells (List.replicate n (uV 0)).toArray e (0, 0))] := by rw [Jqs]; exact vL.2
theorem Jqw (n rm : Nat) : JV (List.replicate n 0).length (some (rm, n, [])) = .slice (some ⟨rm, 0, none⟩) n n := by rw [List.length_replicate]; rfl
theorem Jba {n : Nat} (ha : z.1 ≤ s.length) (hs : s.length ≤ 1000000) (hn : n ≤ 4096) : PureT (α := Jy7 (VO s n z).1) prog 328 [Kj r, .int .i64 (n : Int)].toArray (fun y => JV (VO s n z).1.length y.1) [Kf r s z] (fun y => Kf r s (VO s n z).2 :: J9 4 (QG (VO s n z).1) y.1) [] := by
 have hnl := Ju9 hn
 obtain ⟨t, ht⟩ : ∃ t, KN s (Ve n) z = t := ⟨_, rfl⟩
 have hcb : VO s n z = if t.1.2 = false then (List.replicate n false, t.2) else if (JE t.2 (Vi t.1.1 n).2).2 ≠ 0 then (List.replicate n false, JE t.2 (Vi t.1.1 n).2) else ((Vi t.1.1 n).1, JE t.2 (Vi t.1.1 n).2) := by unfold VO; rw [ht]
 have hT := YF (r := r) (n := Ve n) ha m3 m3
 have htl : t.1.1.length ≤ 1000000 := by rw [← ht]; exact Lb' (Yv ..) hs
 rw [ht] at hT; refine Jq Tryz.func328 O O fun w => Hr ?_; refine J4 mV ?_
 refine GV ?_; refine J4 mW (KC O (J4 mX (Jx (T := [_]) (L0 := []) (Rl := []) (O') O O O wH hT oN fun _ => ?_))); rw [List.append_nil]; refine H4 ?_; refine cD (fun g => ?_) fun g => ?_
 ·refine gz ?_; refine Y1 (n := n) (b := 1) O O O O O O O O O m3 m3 fun rm => EN fun w1 hs1 => ?_
  (have hk : VO s n z = (List.replicate n false, t.2) := by rw [hcb]; exact if_pos mF
   rw [hk]
   exact ⟨⟨some (rm, n, []), Jww n rm⟩, congrArg Ending.returned (Jqu n rm).symm, by show St _ (_ :: J9 _ (QG (List.replicate n false)) (some (rm, n, []))) _ _; rw [Jqt]; exact hs1.perm (P')⟩)
 ·refine Hq ?_; refine KA O O O (enters_of Tryz.func312 m4 O) (Jee htl (n := n) m3) oN fun y => ?_
  obtain ⟨row, hrow⟩ := y
  refine gc ?_; change HL _ _ _ (Kf r s t.2 :: J9 4 (QG (Vi t.1.1 n).1) row) _ _ _ _; refine MR ?_; refine J5 9 O (Jx (T := [_]) (L0 := J9 4 (QG (Vi t.1.1 n).1) row) (Rl := []) (O') O O O Xo (Vs r s t.2 (Vi t.1.1 n).2) oN fun _ => ?_); change HL _ _ _ (Kf r s (JE t.2 (Vi t.1.1 n).2) :: J9 4 (QG (Vi t.1.1 n).1) row) _ _ _ _; refine NQ ?_; refine cD (fun g => ?_) fun g => ?_
  ·refine gz ?_; refine Y1 (n := n) (b := 1) O O O O O O O O O m3 m3 fun rm => EN fun w1 hs1 => ?_
   (have hk : VO s n z = (List.replicate n false, JE t.2 (Vi t.1.1 n).2) := by rw [hcb, if_neg mF]; exact if_pos mF
    rw [hk]
    exact ⟨⟨some (rm, n, []), Jww n rm⟩, congrArg Ending.returned (Jqu n rm).symm, by show St _ (_ :: J9 _ (QG (List.replicate n false)) (some (rm, n, []))) _ _; rw [Jqt]; exact (hs1.perm (P')).weakL (.cons_cons _ (.cons_cons _ (S')))⟩)
  ·refine KF 9 O (N3 fun w1 hs1 => ?_)
   (have hk : VO s n z = ((Vi t.1.1 n).1, JE t.2 (Vi t.1.1 n).2) := by rw [hcb, if_neg mF]; exact if_neg mF
    rw [hk]
    exact ⟨⟨row, hrow⟩, rfl, hs1⟩)
theorem Jjf {n : Nat} (ha : z.1 ≤ s.length) (hs : s.length ≤ 1000000) (hn : n ≤ 4096) : PureT (α := Ju8 (VX s n z).1) prog 333 [Kj r, .int .i64 (n : Int)].toArray (fun y => JV (VX s n z).1.length y.1) [Kf r s z] (fun y => Kf r s (VX s n z).2 :: J9 22 ((VX s n z).1.map uV) y.1) [] := by
 obtain ⟨a, e0⟩ := z
 simp only at ha
 obtain ⟨u, hu⟩ : ∃ u, W5 s n [] a = u := ⟨_, rfl⟩
 have hcb : VX s n (a, e0) = if e0 ≠ 0 then (List.replicate n 0, (a, e0)) else if (JE (a, e0) u.2.2).2 ≠ 0 then (List.replicate n 0, JE (a, e0) u.2.2) else (u.1, (u.2.1, (JE (a, e0) u.2.2).2)) := by unfold VX; rw [hu]
 have hT := Jjd (s := s) m3 (n := n) (a0 := a) m3 ha
 rw [hu] at hT; refine Jq Tryz.func333 O O fun w => Hr ?_
 refine Gt ?_; refine cD (fun g => ?_) fun g => ?_
 ·refine gz ?_; refine Y1 (n := n) (b := 8) O O O O O O O O O m3 m3 fun rm => EN fun w1 hs1 => ?_
  (have hk : VX s n (a, e0) = (List.replicate n 0, (a, e0)) := by rw [hcb]; exact if_pos m3
   rw [hk]
   exact ⟨⟨some (rm, n, []), Jwx n rm⟩, congrArg Ending.returned (Jqw n rm).symm, by show St _ (_ :: J9 _ ((List.replicate n 0).map uV) (some (rm, n, []))) _ _; rw [Jqv]; exact hs1.perm (P')⟩)
 ·refine D5 ?_; refine Kk [Kf r s (a, e0)] [(0, .pure), (1, .pure), (2, .pure), (3, .pure), (4, .pure), (5, .pure), (6, .pure), (7, .pure), (8, .pure), (9, .grow (V1 (⟨some (0, u.1.length, []), ⟨by simp, by simp⟩⟩ : Ju8 u.1) (fun y => Value.tuple #[JV u.1.length y.1, .int .i64 (u.2.1 : Int), .int .i64 u.2.2]) (fun y => J9 22 (u.1.map uV) y.1))), (10, .pure), (11, .pure), (12, .pure), (13, .pure), (14, .pure), (15, .pure), (16, .pure)] 17 [0, 1, 2, 3, 4, 5, 6, 7, 8, 9, 10, 11, 12, 13, 14, 15, 16] m4 m4 (fun p hp => hp) (NE ?_); refine Jr (k := 3) O O O O O (fun _ hS => (Jc O (.inl (hS _ (J0 (n := 0) O))) O O)) (Hc ?_); refine Jr (k := 7) O O O O O (fun _ hS => (Jc O (.inl (hS _ (J0 (n := 0) O))) O O)) (Ey ?_); refine zH (k := 9) O O O O O (enters_of Tryz.func313 m4 O) hT oN fun y => D0 ?_; refine Jr (k := 11) O O O O O (fun _ hS => (Jb O O)) (Jr (k := 12) O O O O O (fun _ hS => (Jb O O)) (Jr (k := 13) O O O O O (fun _ hS => (Jb O O)) (Em ?_))); refine Jr (k := 15) O O O O O (fun _ hS => (J7 O)) (Jr (k := 16) O O O O O (fun _ hS => (J7 O)) (KJ (G5 ?_)))
  obtain ⟨row, hrow⟩ := y
  refine jD B' ?_; change HC _ _ _ (Kf r s (a, e0) :: J9 22 (u.1.map uV) row) _ _ _; refine gz ?_; refine Jx (T := [_]) (L0 := J9 22 (u.1.map uV) row) (Rl := []) (O') O O O Xo (Vs r s (a, e0) u.2.2) oN fun _ => ?_; change HL _ _ _ (Kf r s (JE (a, e0) u.2.2) :: J9 22 (u.1.map uV) row) _ _ _ _; refine NQ ?_; refine cD (fun g => ?_) fun g => ?_
  ·refine gz ?_; refine Y1 (n := n) (b := 8) O O O O O O O O O m3 m3 fun rm => EN fun w1 hs1 => ?_
   (have hk : VX s n (a, e0) = (List.replicate n 0, JE (a, e0) u.2.2) := by rw [hcb, if_neg m3]; exact if_pos mF
    rw [hk]
    exact ⟨⟨some (rm, n, []), Jwx n rm⟩, congrArg Ending.returned (Jqw n rm).symm, by show St _ (_ :: J9 _ ((List.replicate n 0).map uV) (some (rm, n, []))) _ _; rw [Jqv]; exact (hs1.perm (P')).weakL (.cons_cons _ (.cons_cons _ (S')))⟩)
  ·refine DE ?_
   refine MP ?_; refine Jm (k := 0) (cs' := #[Jk s, .int .i64 (u.2.1 : Int), .int .i64 (JE (a, e0) u.2.2).2]) O O O O O O O O O O (JD 9 O (N3 fun w1 hs1 => ?_))
   (have hk : VX s n (a, e0) = (u.1, (u.2.1, (JE (a, e0) u.2.2).2)) := by rw [hcb, if_neg m3]; exact if_neg mF
    rw [hk]
    exact ⟨⟨row, hrow⟩, rfl, hs1⟩)
theorem J1h (s : BS) : ∃ a b c d, (ZI s).1 = [a, b, c, d] := w4 (ww s).1
theorem Jjg (ha : z.1 ≤ s.length) (hs : s.length ≤ 1000000) : PureT (α := Unit) prog 331 [Kj r].toArray (fun _ => .agg (wC (XH s z).1).toArray) [Kf r s z] (fun _ => [Kf r s (XH s z).2]) [] := by
 obtain ⟨t, ht⟩ : ∃ t, KN s 32 z = t := ⟨_, rfl⟩
 have hcb : XH s z = (uW t.1.1, t.2) := by unfold XH uW; rw [ht]
 have hT := YF (r := r) (n := 32) ha m3 m3
 rw [ht] at hT
 have hU := Xp t.1.1
 obtain ⟨a, b, c, d, hw⟩ := J1h t.1.1
 have hwC : wC (uW t.1.1) = [uV a, uV b, uV c, uV d] := by unfold uW; rw [hw]; rfl
 rw [hcb, hwC]
 unfold Jkc at hU
 rw [hw] at hU; refine Jq Tryz.func331 O O fun w => DI fun r2 => ?_; refine kB ?_; refine Jx (T := [Kf r s z]) (L0 := [(r2, _)]) (Rl := []) (P') O O O wH hT oN fun _ => ?_; change HL _ _ _ [Kf r s t.2, (r2, _)] _ _ _ _; refine HR ?_; refine JC O O O Jnv hU (MR ?_); refine LN O fun r5 => Je (k := 0) (n := 4) (ys := [uV a, uV b, uV c, uV d]) O O O O O O O O O (kB ?_); refine LR O (Ji (xs := [uV a, uV b, uV c, uV d]) (n := 4) O (kn 0 O) O O O) (Je (k := 2) (n := 4) (ys := [uV a, uV b, uV c, uV d]) O O O O O O O O O (GN ?_)); refine Jh O O (.cons (Jj (vs := [uV a, uV b, uV c, uV d]) O (kn 2 O) O O) .nil) (fun w1 hs1 => ?_); exact ⟨(), rfl, hs1.weakL (.cons _ (.cons_cons _ (S')))⟩
def Wk (s : BS) (z : CZ) : It × CZ := if z.2 ≠ 0 then (KE, z) else if (lookE s z.1).1 ≠ 0 then (KE, (z.1, (lookE s z.1).1)) else
 let t := KN s ((lookE s z.1).2.1 + (lookE s z.1).2.2.1 - z.1) z
 ((WM t.1.1).1, JE t.2 (WM t.1.1).2)
theorem xg (h : (lookE s a).1 = 0) : a ≤ (lookE s a).2.1 := by
 unfold lookE at h ⊢
 split at h
 ·cases h
 ·rename_i h1
  rw [if_neg h1]
  split at h
  ·rename_i h2; rw [if_pos h2]; exact Lc'
  ·rename_i h2
   rw [if_neg h2]
   split at h
   ·rename_i h3; exact absurd h h3
   ·rename_i h3
    rw [if_neg h3]
    split at h
    ·cases h
    ·rename_i h4
     rw [if_neg h4]
     split at h
     ·cases h
     ·rename_i h5
      rw [if_neg h5]
      show a ≤ (ZO s a _).2.1
      unfold ZO at h3 ⊢
      split
      ·rename_i h6
       rw [if_pos h6] at h3
       unfold Yj at h3 ⊢
       split
       ·rename_i h7; rw [if_pos h7] at h3; exact absurd m7 h3
       ·rename_i h7
        rw [if_neg h7] at h3
        split
        ·rename_i h8; rw [if_pos h8] at h3; exact absurd m7 h3
        ·rename_i h8
         rw [if_neg h8] at h3
         split
         ·rename_i h9; rw [if_pos h9] at h3; exact absurd m7 h3
         ·show a ≤ a + 1 + _; omega
      ·show a ≤ a + 1; omega
theorem Jqx : itL0.er = KE := Wu []
theorem Jva (ha : z.1 ≤ s.length) (hs : s.length ≤ 1000000) : PureT (α := ItN (Wk s z).1) prog 342 [Kj r].toArray (fun y => y.x.val) [Kf r s z] (fun y => Kf r s (Wk s z).2 :: y.L) [] := by
 obtain ⟨a, e0⟩ := z
 simp only at ha
 have hle := Ja9 (s := s) (a := a) m3
 obtain ⟨lk, hlk⟩ : ∃ lk, lookE s a = lk := ⟨_, rfl⟩
 obtain ⟨m, hm⟩ : ∃ m, lk.2.1 + lk.2.2.1 = m := ⟨_, rfl⟩
 have hN := Jqq (s := s) (a := a) hs ha
 have hfr : lk.1 = 0 → a ≤ m := fun h => by have := xg (s := s) (a := a) (by rw [hlk]; exact h); rw [hlk] at this; omega
 rw [hlk, hm] at hN hle
 obtain ⟨t, ht⟩ : ∃ t, KN s (m - a) (a, e0) = t := ⟨_, rfl⟩
 have hcb : Wk s (a, e0) = if e0 ≠ 0 then (KE, (a, e0)) else if lk.1 ≠ 0 then (KE, (a, lk.1)) else ((WM t.1.1).1, JE t.2 (WM t.1.1).2) := by unfold Wk; simp only [hlk, hm, ht]
 have hT := YF (r := r) (z := (a, e0)) (n := m - a) ha m3 m3
 rw [ht] at hT
 have htl : t.1.1.length ≤ 1000000000 := by rw [← ht]; exact Lb' (Yv ..) m3
 refine Jq Tryz.func342 O O fun w => DI fun r2 => ?_; refine Ec ?_; refine LR O (Jc (v := .int .i64 e0) O (kn 1 O) O O) (NQ ?_); refine cD (fun g => ?_) fun g => ?_
 refine Hf ?_; refine Je (k := 0) (n := 3) (ys := itL0.cells) O O O O O O O O O (gA ?_)
 (refine Jh O O (.cons (Jj (vs := itL0.cells) O (kn 0 O) O O) .nil) (fun w1 hs1 => ?_)
  have hk : Wk s (a, e0) = (KE, (a, e0)) := by rw [hcb]; exact if_pos m3
  rw [hk]
  exact ⟨⟨itL0, [], Q8 mf, Jqx⟩, rfl, hs1.weakL (.cons _ (T'))⟩)
 ·refine D5 ?_; refine KB 14 m4 m4 (DF ?_); refine Jt O O O (Jc (v := Jk s) O (kn 1 O) O O) (DF ?_); refine Jt O O O (Jc (v := .int .i64 (a : Int)) O (kn 1 O) O O) (Vu O O O (enters_of Tryz.func349 m4 O) hN (kr ?_)); refine EG ?_; refine EG ?_; refine kc ?_; refine KR (g8 ?_); refine Jx (T := [Kf r s (a, e0)]) (L0 := [(r2, _)]) (Rl := []) (P') O O O Xo (Vs r s (a, e0) lk.1) oN fun _ => ?_; change HL _ _ _ [Kf r s (JE (a, e0) lk.1), (r2, _)] _ _ _ _
  obtain rfl : e0 = 0 := by omega
  refine NQ ?_; refine cD (fun g => ?_) fun g => ?_
  refine Hf ?_; refine Je (k := 1) (n := 3) (ys := itL0.cells) O O O O O O O O O (gA ?_)
  (refine Jh O O (.cons (Jj (vs := itL0.cells) O (kn 1 O) O O) .nil) (fun w1 hs1 => ?_)
   have hk : Wk s (a, 0) = (KE, JE (a, 0) lk.1) := by rw [hcb, if_neg m7]; exact if_pos MB
   rw [hk]
   exact ⟨⟨itL0, [], Q8 mf, Jqx⟩, rfl, hs1.weakL (.cons_cons _ (S'))⟩)
  ·refine Jv 8 O ?_
   refine MP ?_
   have hk0 : JE (a, 0) lk.1 = (a, 0) := by unfold JE at *; simp_all
   rw [hk0]; refine LR O (Jc (v := .int .i64 (a : Int)) O (kn 0 O) O O) ?_
   have ham : a ≤ m := hfr MB
   refine GV ?_; refine J4 (show _ = Value.int .i64 ((m - a : Nat) : Int) from by rw [wrap_i64 m3 m3]; congr 1 <;> omega) ?_; refine Jx (T := [Kf r s (a, 0)]) (L0 := [(r2, _)]) (Rl := []) (O') O O O wH hT oN fun _ => ?_; change HL _ _ _ [Kf r s t.2, (r2, _)] _ _ _ _; refine HR ?_; refine KA O O O Jac (Vr htl) oN fun y => ?_
   obtain ⟨yx, yL, yin, yer⟩ := y
   refine gc ?_; change HL _ _ _ (Kf r s t.2 :: (r2, _) :: yL) _ _ _ _; refine MR ?_; refine LN O fun r7 => gO ?_; refine g8 ?_; refine Jx (T := [Kf r s t.2]) (L0 := (r7, _) :: (r2, _) :: yL) (Rl := []) (P') O O O Xo (Vs r s t.2 (WM t.1.1).2) oN fun _ => ?_; change HL _ _ _ (Kf r s (JE t.2 (WM t.1.1).2) :: (r7, _) :: (r2, _) :: yL) _ _ _ _; refine kV ?_; refine LR O (Ji (xs := yx.cells) (n := 3) O (kn 1 O) O O (ItL.len _)) (Je (k := 2) (n := 3) (ys := yx.cells) O O O O O (ItL.len _) O (ItL.one _) O (GN ?_))
   (refine Jh O O (.cons (Jj (vs := yx.cells) O (kn 2 O) O nQ) .nil) (fun w1 hs1 => ?_)
    have hk : Wk s (a, 0) = ((WM t.1.1).1, JE t.2 (WM t.1.1).2) := by rw [hcb, if_neg m7]; exact if_neg MB
    rw [hk]
    exact ⟨⟨yx, yL, yin, yer⟩, rfl, hs1.weakL (.cons_cons _ (.cons _ (.cons _ (T'))))⟩)
def V4 (it : It) (lo hi : Int) (z : CZ) : CZ := if z.2 ≠ 0 then z else (z.1, Ka it lo hi)
def Vf (x : ItL) (lo hi : Int) (z : CZ) : List ItL × Pl := if (V4 x.er lo hi z).2 = 0 then (x.xs, x.p) else ([], none)
theorem q6 (hx : x.In R) (lo hi : Int) : PureT (α := Unit) prog 341 [Kj r, x.val, .int .i64 lo, .int .i64 hi].toArray (fun _ => Km (Vf x lo hi z).1.length (Vf x lo hi z).2) [Kf r s z] (fun _ => [Kf r s (V4 x.er lo hi z)]) R := by
 obtain ⟨a, e0⟩ := z
 have hgl := Wi hx lo hi
 obtain ⟨g, hg⟩ : ∃ g, Ka x.er lo hi = g := ⟨_, rfl⟩
 rw [hg] at hgl; refine Jq Tryz.func341 O O fun w => MZ ?_; refine JR (cs := List.toArray (x.cells)) O O O O fun r5 => J5 8 O ?_
 refine MP ?_; refine LR O (Jc (v := .int .i64 e0) O (kn 1 O) O O) (NQ ?_); refine cD (fun h4 => ?_) fun h4 => ?_
 refine KF 7 O (N3 fun w1 hs1 => ?_)
 (have hk : V4 x.er lo hi (a, e0) = (a, e0) := if_pos ML
  have hv : Vf x lo hi (a, e0) = ([], none) := by unfold Vf; rw [hk]; exact if_neg MH
  rw [hk, hv]
  exact ⟨(), rfl, hs1.weakL (.cons _ (T'))⟩)
 ·refine gw ?_; refine H7 ?_; refine gu ?_; refine Ju O O O vh hgl oR (DN ?_); refine Jx (T := [Kf r s (a, e0)]) (L0 := [(r5, _)]) (Rl := []) (P') O O O Xo (Vs r s (a, e0) g) oN fun _ => ?_; change HL _ _ _ [Kf r s (JE (a, e0) g), (r5, _)] _ _ _ _; refine JD 9 O (N3 fun w1 hs1 => ?_)
  (obtain rfl : e0 = 0 := by omega
   have hk : V4 x.er lo hi (a, 0) = (a, g) := by unfold V4; rw [if_neg (fun h => h rfl), hg]
   have hv : Vf x lo hi (a, 0) = if g = 0 then (x.xs, x.p) else ([], none) := by unfold Vf; rw [hk]
   have hk2 : JE (a, 0) g = (a, g) := if_pos rfl
   rw [hk2] at hs1; rw [hk, hv]; refine ⟨(), ?_, hs1.weakL (.cons_cons _ (S'))⟩
   show _ = Ending.returned (Km (if g = 0 then (x.xs, x.p) else ([], none)).1.length (if g = 0 then (x.xs, x.p) else ([], none)).2)
   by_cases h0 : g = 0
   rw [if_pos h0]; simp only [QD, if_pos h0]
   ·rw [if_neg h0]; simp only [QD, if_neg h0]; rfl)
def Xs (it : It) (n : Nat) (z : CZ) : CZ := if it.l = true ∨ it.b.length ≠ n then JE z 2 else z
theorem Jef (x : ItL) (n : Nat) : PureT (α := Unit) prog 350 [Kj r, x.val, .int .i64 (n : Int)].toArray (fun _ => Jk x.b) [Kf r s z] (fun _ => [Kf r s (Xs x.er n z)]) [] := by
  obtain ⟨l, b, p, xs⟩ := x
  unfold Xs
  rw [er_l, er_b]; refine Jq Tryz.func350 O O fun w => MZ ?_; refine JR (cs := List.toArray (ItL.cells (.mk l b p xs))) O O O O fun r4 => gp ?_
  refine N5 ?_; refine gl ?_
  refine J8 9 O (fun gb => ?_) (fun gb => ?_) <;> (try simp only [ZZ] at gb) <;> first | (refine LR O (Ja O O m0) ?_) | (refine LK O ?_)
  all_goals refine Nh ?_
  all_goals refine ko ?_
  all_goals refine Ns ?_
  all_goals refine MQ ?_
  all_goals (
   refine kN ?_; refine Jl O (fun g => ?_) (fun g => ?_)
   · try simp only [ZZ] at g
     refine NG ?_; refine Jx (T := [Kf r s z]) (L0 := [(r4, _)]) (Rl := []) (P') O O O Xo (Vs r s z 2) oN fun _ => ?_; change HL _ _ _ [Kf r s (JE z 2), (r4, _)] _ _ _ _; refine kV ?_
     refine Gb ?_; refine gA ?_; refine N3 fun w1 hs1 => ?_
     (rw [if_pos (by first | exact .inl ma | exact .inr m3)]
      exact ⟨(), rfl, hs1.weakL (.cons_cons _ (S'))⟩)
   · try exact Bool.noConfusion g
     all_goals try simp only [ZZ] at g
     all_goals (
      refine DK ?_; refine gA ?_; refine N3 fun w1 hs1 => ?_
      (rw [if_neg Mw]
       exact ⟨(), rfl, hs1.weakL (.cons _ (T'))⟩)
      skip)
   skip)
def Vg (s : BS) (z : CZ) : Int × CZ :=
 let t := KN s 1 z
 if t.1.2 = false then (0, t.2) else if 192 ≤ (t.1.1.getD 0 0).toNat then (0, (t.2.1 - 1, t.2.2)) else if (t.1.1.getD 0 0).toNat ≠ 1 ∧ (t.1.1.getD 0 0).toNat ≠ 2 then (0, JE t.2 9) else
 let u := KN s 1 t.2
 let v := if u.1.2 = true ∧ (u.1.1.getD 0 0).toNat < 192 then JE u.2 2 else u.2
 (((t.1.1.getD 0 0).toNat : Int), (v.1 - 1, v.2))
theorem Jqy (s : BS) (n : Nat) (z : CZ) : z.1 ≤ (KN s n z).2.1 := by
 unfold KN; split
 ·exact Lc'
 ·split
  ·exact Lc'
  ·show z.1 ≤ z.1 + n; omega
theorem q7 {n : Nat} (hz : z.1 ≤ s.length) (h : (KN s n z).1.2 = true) : (KN s n z).1.1.length = n ∧ (KN s n z).2 = (z.1 + n, 0) ∧ z.2 = 0 := by
 unfold KN at h ⊢
 split at h
 ·cases h
 ·rename_i h1
  rw [if_neg h1]
  split at h
  ·cases h
  ·rename_i h2
   rw [if_neg h2]; refine ⟨?_, rfl, by omega⟩
   show ((s.take (z.1 + n)).drop z.1).length = n
   exact EX
theorem Jvb (ha : z.1 ≤ s.length) (hs : s.length ≤ 1000000) : PureT (α := Unit) prog 340 [Kj r].toArray (fun _ => .int .i64 (Vg s z).1) [Kf r s z] (fun _ => [Kf r s (Vg s z).2]) [] := by
  have hT := YF (r := r) (z := z) (n := 1) ha m3 m3
  have hy1 := q7 (n := 1) ha
  have hle1 := Vx (n := 1) ha
  unfold Vg
  obtain ⟨t, ht⟩ : ∃ t, KN s 1 z = t := ⟨_, rfl⟩
  rw [ht] at hT hy1 hle1 ⊢
  have hT2 := YF (r := r) (z := t.2) (n := 1) hle1 m3 m3
  have hy2 := q7 (n := 1) hle1
  have hge2 := Jqy s 1 t.2
  have hle2 := Vx (n := 1) hle1
  obtain ⟨u, hu⟩ : ∃ u, KN s 1 t.2 = u := ⟨_, rfl⟩
  rw [hu] at hT2 hy2 hge2 hle2; simp only [hu]
  have hk2 := Qt u.2 2
  have hk9 := Qt t.2 9
  obtain ⟨⟨tb, ti⟩, ta, te⟩ := t
  obtain ⟨⟨ub, ui⟩, ua, ue⟩ := u
  simp only at hT hT2 hy1 hle1 hy2 hge2 hle2 hk2 hk9 ⊢
  obtain ⟨kz, hkz⟩ : ∃ kz, JE (ua, ue) 2 = kz := ⟨_, rfl⟩
  rw [hkz] at hk2 ⊢
  obtain ⟨ka, ke⟩ := kz
  simp only at hk2 ⊢
  have hk3 := hk2.symm
  subst hk3; refine Jq Tryz.func340 O O fun w => G7 ?_; refine Jx (T := [Kf r s z]) (L0 := []) (Rl := []) (O') O O O wH hT oN fun _ => ?_; change HL _ _ _ ([Kf r s (ta, te)]) _ _ _ _; refine MR ?_; refine JP 13 O (cD (fun g => ?_) fun g => ?_)
  · refine GL ?_; refine N3 fun w1 hs1 => ?_
    (rw [if_pos (by cases ti <;> simp_all)]
     exact ⟨(), rfl, hs1⟩)
  · refine Dz ?_
    have hti : ti = true := by cases ti <;> simp_all
    have hy1 := hy1 hti
    have hta : 1 ≤ ta := by have := congrArg Prod.fst hy1.2.1; simp only at this; omega
    refine NG ?_; refine LR O (JW (j := 0) (n := ((tb.getD 0 0).toNat : Int)) O O O O m3 O) (G5 ?_); refine cD (fun g => ?_) fun g => ?_
    · refine Di ?_; refine LR O (Jc (v := .int .i64 (ta : Int)) O (kn 0 O) O O) ?_
      refine GV ?_; refine J4 (show _ = Value.int .i64 ((ta - 1 : Nat) : Int) from by rw [wrap_i64 m3 m3]; congr 1 <;> omega) ?_; refine Ho ?_; refine Jm (k := 0) (cs' := #[Jk s, .int .i64 ((ta - 1 : Nat) : Int), .int .i64 te]) O O O O O O O O O O ?_; refine JD 10 O ?_; refine N3 fun w1 hs1 => ?_
      (rw [if_neg ME, if_pos m3]
       exact ⟨(), rfl, hs1⟩)
    · refine Hq ?_; refine LR O (JW (j := 0) (n := ((tb.getD 0 0).toNat : Int)) O O O O m3 O) (KC O (JT m3 m3 (J5 9 O ?_)))
      refine J8 32 O (fun gb => ?_) (fun gb => ?_) <;> (try simp only [ZZ] at gb) <;> first | (refine JI O ?_) | (refine LK O ?_)
      all_goals refine MQ ?_
      all_goals (
       refine kN ?_; refine Jl O (fun g => ?_) (fun g => ?_)
       · try exact Bool.noConfusion g
         all_goals try simp only [ZZ] at g
         all_goals (
          refine gz ?_; refine Jx (T := [Kf r s (ta, te)]) (L0 := []) (Rl := []) (O') O O O Xo (Vs r s (ta, te) 9) oN fun _ => ?_; change HL _ _ _ ([Kf r s (JE (ta, te) 9)]) _ _ _ _; refine JD 9 O (N3 fun w1 hs1 => ?_)
          (rw [if_neg ME, if_neg m3, if_pos m3]
           exact ⟨(), rfl, hs1⟩)
          skip)
       · try simp only [ZZ] at g
         refine Hq ?_; refine Jx (T := [Kf r s (ta, te)]) (L0 := []) (Rl := []) (O') O O O wH hT2 oN fun _ => ?_; change HL _ _ _ ([Kf r s (ua, ue)]) _ _ _ _; refine DN ?_
         refine J8 44 O (fun gb => ?_) (fun gb => ?_) <;> (try simp only [ZZ] at gb) <;> first | (refine JI O ?_) | (refine LK O ?_)
         all_goals first | (refine LR O (JW (j := 0) (n := ((ub.getD 0 0).toNat : Int)) O O O O (by have := hy2 ma; omega) rfl) ?_) | refine LK O ?_
         all_goals refine MQ ?_
         all_goals (
          refine kN ?_; refine Jl O (fun g => ?_) (fun g => ?_)
          · try exact Bool.noConfusion g
            all_goals try simp only [ZZ] at g
            all_goals (
             refine NG ?_
             have hkp := Vs r s (ua, ue) 2
             rw [hkz] at hkp; refine Jx (T := [Kf r s (ua, ue)]) (L0 := []) (Rl := []) (O') O O O Xo hkp oN fun _ => ?_; change HL _ _ _ ([Kf r s (ua, ke)]) _ _ _ _; refine gp ?_
             refine gW ?_; refine N3 fun w1 hs1 => ?_
             (rw [if_neg ME, if_neg m3, if_neg m3, if_pos (by first | exact ⟨by assumption, by omega⟩ | (refine ⟨?_, ?_⟩ <;> simp_all))]
              exact ⟨(), rfl, hs1⟩)
             skip)
          · try simp only [ZZ] at g
            refine Hq ?_
            refine gW ?_; refine N3 fun w1 hs1 => ?_
            (rw [if_neg ME, if_neg m3, if_neg m3, if_neg nF]
             exact ⟨(), rfl, hs1⟩)
          skip)
       skip)
def qW (n : Nat) (ks : List It) (z : CZ) : CZ := ks.foldl (fun z k => Xs k n z) z
def XJ : List It → List AxE → CZ → List AxE × CZ
 | [], acc, z => (acc, z)
 | x :: r, acc, z => let z1 := V4 x 2 2 z
  if z1.2 ≠ 0 then (acc, z1) else
  let z2 := Xs (x.xs.getD 0 KE) 20 z1
  let z3 := V4 (x.xs.getD 1 KE) 0 16 z2
  XJ r (acc ++ [⟨(x.xs.getD 0 KE).b, if z3.2 = 0 then (x.xs.getD 1 KE).xs.map It.b else []⟩]) (if z3.2 = 0 then qW 32 (x.xs.getD 1 KE).xs z3 else z3)
def YY (it : It) (z : CZ) : List AxE × CZ := if (V4 it 0 16 z).2 = 0 then XJ it.xs [] (V4 it 0 16 z) else ([], V4 it 0 16 z)
end Go.Proofs.YtckoepmdmhdepaaGreatDoor
namespace Go.SL
set_option linter.all false
open Go Go.RowKit Go.Shelf
open Go.Proofs (Enters enters_of)
variable {a : Act} {af : Array Edge} {ops : Array Oper} {args : Array Operand} {at_ : Array TypeId} {code : Code} {τ : Type} {E : Code → τ → Prop} {c : Cx} {R : Ending → World → Prop} {Q : Exit → Act → World → Prop} {g : FuncId} {A A' E' L L0 Rl Z : J3} {K : J3 → Act → Prop} {T : J3 → Array Bool → Act → Prop} {d : List Deferred} {rest : List Oper} {vs : List Value} {i id j q : Nat} {o : Oper} {f x : Operand} {gd : Option (Nat × Bool)} {dst : Option Nat} {ps : String} {α : Type} {e ty : TypeId} {v : Value} {w : World} {X : XP} {tb : YV} {LL : α → J3} {V : α → Value}
section
variable {c : Cx} {l : KY} {L E : J3} {X : XP} {Q : Exit → Act → World → Prop} {d : List Deferred}
variable {ops : Array Oper} {rest : List Nat} {i k : Nat} {v : Value} {o : Oper} {tb : YV} {S : J3} {T : J3 → Act → Prop}
theorem St.selT (h : St c (A ++ Z) X w) (js : List Nat) (hn : js.Nodup) (hA : qY A js = A') : St c (A' ++ Z) X w := by
 have h1 := (h.weakL (List.sublist_append_left A Z)).sel js hn
 rw [hA] at h1
 have sub : ∀ p ∈ A', p ∈ A := fun p hp => by
  rw [← hA] at hp
  obtain ⟨j, _, hj⟩ := Yb hp
  exact List.mem_of_getElem? hj
 obtain ⟨d1, d2, d3⟩ := List.pairwise_append.1 h.distinct
 exact ⟨h.keep, fun p hp => h.own p (G'.2 ((G'.1 hp).imp (sub p) id)), List.pairwise_append.2 ⟨h1.distinct, d2, fun a ha b hb => d3 a (sub a ha) b hb⟩, h.ext, h.xlt,
  h.x.sub fun p hp => ⟨p.2, G'.2 ((G'.1 hp).imp (sub p) id)⟩⟩
theorem Jbb (js : List Nat) (hn : js.Nodup) (hA : qY A js = A') (h : HC c d l (A' ++ Z) X code Q) : HC c d l (A ++ Z) X code Q := fun a w hf hs => h a w hf (hs.selT js hn hA)
theorem Wy {K : Act → World → Prop} (js : List Nat) (hn : js.Nodup) (hA : qY A js = A') (h : HQ c d l (A' ++ Z) X K) : HQ c d l (A ++ Z) X K := fun a w hf hs => h a w hf (hs.selT js hn hA)
theorem Jbc {rest : List Oper} (js : List Nat) (hn : js.Nodup) (hA : qY A js = A') (h : HL c d l (A' ++ Z) X ops rest Q) : HL c d l (A ++ Z) X ops rest Q := fun a w hf hs => h a w hf (hs.selT js hn hA)
theorem Jlk {R : Value → World → Prop}
  (hf : Fr c.n d l a) (hca : Yo l f args = some (g, vs)) (eg : Enters c.P g) (h : Calls c.P g vs.toArray w fun e w2 => ∃ v, e = .returned v ∧ R v w2) : actAt c ⟨dst, .call ⟨.value f, args, at_⟩, ty, ps, af, gd⟩ a w R := by
 unfold actAt
 rw [ZP hf hca c.P w _ rfl eg]; exact h
theorem xh  {T0 : J3} {E' : α → J3}
  (hp : E.Perm (T0 ++ L0)) (hE : ∀ x, (LL x ++ L0).Perm (E' x)) (hk : X3 ops.toList k = some ⟨some i, .call ⟨.value f, args, at_⟩, ty, ps, af, gd⟩) (hg : KW l ops ⟨some i, .call ⟨.value f, args, at_⟩, ty, ps, af, gd⟩ = some true) (hi : Nat.ble (i + 1) c.n = true) (hA : tb k = .turn) (hca : Yo l f args = some (g, vs)) (eg : Enters c.P g)
  (hpt : PureT c.P g vs.toArray V T0 LL Rl) (hR : ∀ p ∈ Rl, known c L0 p.1 p.2) (hS : ∀ x, SubS S (E' x)) (h : ∀ x, HB c d ((i, V x) :: l) (E' x) X S ops tb rest T) : HB c d l E X S ops tb (k :: rest) T := fun a hf => by
 refine ⟨_, Vn hk, ?_⟩; rw [hA]; refine .inl ⟨α, V, E', ⟨Kh hf hg, fun w hs => ?_⟩, fun x => ⟨hS x, h x _ (hf.put (H' hi))⟩⟩
 have hs := hs.perm hp
 obtain ⟨hd1, _, hd3⟩ := List.pairwise_append.1 hs.distinct
 refine Jlk hf hca eg ((hpt.run w (fun p hp => (hs.own p (W' hp)).2.2) (fun p hp => ?_) hd1 (fun p hp q hq => ?_)).mono fun _ _ ⟨x, he, hk, h1, h2⟩ => ⟨V x, he, x, rfl, (hs.turnT hk h1 h2).perm (hE x)⟩)
 ·exact (hR p hp).elim (fun h => (hs.own _ (Y' h)).2.2) hs.readR
 ·rcases hR p hp with h | h
  ·exact fun e => hd3 q hq _ h e.symm
  ·rintro e
   obtain ⟨h1, _, h3⟩ := hs.ext _ h
   have h3 := JM h3
   rcases (hs.own q (W' hq)).1 with h4 | h4
   ·exact h1 (e ▸ h4)
   ·simp only at h3 e; omega
end
end Go.SL
namespace Go.Proofs.YtckoepmdmhdepaaGreatDoor
open Go.SL Go.RowKit Go.Shelf
open Go.Proofs (Enters enters_of)
variable {s : BS} {z z1 z2 z3 : CZ} {g : FuncId} {e hi lo : Int} {it : It} {x y : ItL} {F R Rl : J3} {acc : List AxE} {ys : List ItL} {cs vs : List Value} {α : Type} {a cap i q r sz u : Nat} {row : QZ} {t : TxL} {c : UInt8} {w : World}
theorem Yw (hx : x.In R) (lo hi : Int) (z : CZ) : Seg R (Vf x lo hi z).1.length (Kq (Vf x lo hi z).1) (Vf x lo hi z).2 := by
 unfold Vf
 split
 ·exact hx.seg
 ·exact Seg.nil
theorem jR (hx : x.In R) (lo hi : Int) (z : CZ) : (∀ y ∈ (Vf x lo hi z).1, y.In R) ∧ (Vf x lo hi z).1.length ≤ 1000000 := by
 unfold Vf
 split
 ·exact And.intro hx.sub hx.hl
 ·exact And.intro (fun _ h => by cases h) (Z')
theorem jS (x : ItL) (lo hi : Int) (z : CZ) : (Vf x lo hi z).1.map ItL.er = if (V4 x.er lo hi z).2 = 0 then x.er.xs else [] := by
 unfold Vf
 split
 ·exact (ItL.er_xs x).symm
 ·rfl
theorem vM (h : (V4 it lo hi z).2 = 0) : z.2 = 0 ∧ Ka it lo hi = 0 := by
 unfold V4 at h
 split at h
 ·rename_i h1; exact absurd h h1
 ·rename_i h1; exact ⟨by omega, h⟩
theorem Jqz (h : (Vf x 2 2 z).1.length = 2) : (V4 x.er 2 2 z).2 = 0 ∧ Vf x 2 2 z = (x.xs, x.p) := by
 unfold Vf at h ⊢
 split at h
 ·rename_i h1; exact ⟨h1, if_pos h1⟩
 ·cases h
theorem Jq0 (h : (Vf x 2 2 z).1.length ≠ 2) : (V4 x.er 2 2 z).2 ≠ 0 := fun h1 => h (by
 unfold Vf
 rw [if_pos h1]
 have := QC (vM h1).2
 rw [ItL.er_xs, D'] at this
 show x.xs.length = 2
 omega)
theorem Jq1 {x a b : It} {r : List It} (h0 : (V4 x 2 2 z).2 = 0) (hx : x.xs = [a, b]) (h2 : Xs a 20 (V4 x 2 2 z) = z2) (h3 : V4 b 0 16 z2 = z3) :
  XJ (x :: r) acc z = XJ r (acc ++ [⟨a.b, if z3.2 = 0 then b.xs.map It.b else []⟩]) (if z3.2 = 0 then qW 32 b.xs z3 else z3) := by
 subst h3 h2; rw [XJ]; simp only [hx, h0]
 rfl
theorem Jq2 {x : It} {r : List It} (h0 : (V4 x 2 2 z).2 ≠ 0) : XJ (x :: r) acc z = (acc, V4 x 2 2 z) := by
 rw [XJ]; exact if_pos h0
theorem Jvc {b : It} {ks : List ItL} {zj : CZ} (hker : ks.map ItL.er = if z3.2 = 0 then b.xs else []) (hK : qW 32 (ks.map ItL.er) z3 = zj) : (if z3.2 = 0 then b.xs.map It.b else []) = ks.map ItL.b ∧ (if z3.2 = 0 then qW 32 b.xs z3 else z3) = zj := by
 have e : ks.map ItL.b = (ks.map ItL.er).map It.b := by rw [List.map_map]; exact List.map_congr_left fun x _ => (ItL.er_b x).symm
 rw [e]; rw [hker] at hK ⊢
 by_cases h : z3.2 = 0
 ·rw [if_pos h] at hK ⊢; rw [if_pos h, if_pos h]; exact ⟨rfl, hK⟩
 ·rw [if_neg h] at hK ⊢; rw [if_neg h, if_neg h]; exact ⟨rfl, hK⟩
theorem Jvd (a b c d e : α) (P2 P1 F : List α) : (a :: b :: c :: (P2 ++ (d :: e :: (P1 ++ F)))).Perm (P1 ++ (a :: b :: c :: (P2 ++ (d :: e :: F)))) := by
 have := Ye ([a, b, c] ++ (P2 ++ [d, e])) P1 F
 simpa using this
structure CacI (R : J3) (xs : List ItL) (z1 : CZ) (i : Nat) (row : QZ) (ys : List AxL) (F : J3) (z : CZ) : Prop where
  le : i ≤ xs.length
  ok : rowOk 2 i (V2 ys) row
  len : ys.length = i
  inn : ∀ a ∈ ys, a.In F
  eq : XJ (xs.map ItL.er) [] z1 = XJ ((xs.drop i).map ItL.er) (ys.map AxL.er) z
structure CacK (ks : List ItL) (z3 : CZ) (j : Nat) (row : QZ) (z : CZ) : Prop where
  le : j ≤ ks.length
  ok : rowOk 1 j ((ks.take j).map fun x => Jk x.b) row
  eq : qW 32 (ks.map ItL.er) z3 = qW 32 ((ks.drop j).map ItL.er) z
theorem xi (hx : x.In R) : PureT (α := AxsN (YY x.er z).1) prog 344 [Kj r, x.val].toArray (fun y => JV y.ys.length y.row) [Kf r s z] (fun y => Kf r s (YY x.er z).2 :: y.L) R := by
 obtain ⟨z1, hz1⟩ : ∃ z1, V4 x.er 0 16 z = z1 := ⟨_, rfl⟩
 have hcc : YY x.er z = XJ ((Vf x 0 16 z).1.map ItL.er) [] z1 := by
  unfold YY
  rw [jS, hz1]
  split
  rfl
  rfl
 have hs := Yw hx 0 16 z
 obtain ⟨hin, hxl⟩ := jR hx 0 16 z
 obtain ⟨⟨xs, p⟩, hxp⟩ : ∃ q, Vf x 0 16 z = q := ⟨_, rfl⟩
 have hRow := q6 (r := r) (s := s) (z := z) hx 0 16
 rw [hz1, hxp] at hRow; rw [hxp] at hcc hs hin hxl; simp only at hcc hs hin hxl hRow; refine Jq Tryz.func344 O O fun w => MZ ?_; refine JR (cs := List.toArray (x.cells)) O O O O fun r3 => J5 11 O (NR ?_); refine g8 ?_; refine H7 ?_; refine Jx (T := [Kf r s z]) (L0 := [(r3, .cells (List.toArray x.cells) 91 (0, 0))]) (Rl := R) (P') O O O zM hRow oR fun _ => ?_; change HL _ _ _ ([Kf r s z1, (r3, .cells (List.toArray x.cells) 91 (0, 0))]) _ _ _ _; refine No ?_; refine JQ (σ := Nat × QZ × List AxL × J3 × CZ) (fun q => CacI R xs z1 q.1 q.2.1 q.2.2.1 q.2.2.2.1 q.2.2.2.2) (fun q => [(0, Kj r), (5, JV q.1 q.2.1), (6, .func (.func 350) #[Kj r] #[]), (17, Km xs.length p), (18, .int .i64 (xs.length : Int)), (19, .int .i64 (q.1 : Int))]) (fun q => Kf r s q.2.2.2.2 :: (r3, .cells (List.toArray x.cells) 91 (0, 0)) :: (J9 175 (V2 q.2.2.1) q.2.1 ++ q.2.2.2.1)) (fun _ _ _ => True) (fun q => xs.length - q.1) (0, none, [], [], z1) ⟨Z', ⟨rfl, rfl⟩, rfl, (fun _ h => nomatch h), rfl⟩ (lK O) (T') (fun _ _ h => h) ?_; rintro ⟨i, row, ys, F, zi⟩ hI; simp only at hI
 have hi1 := hI.le
 change HC _ _ _ (Kf r s zi :: (r3, .cells (List.toArray x.cells) 91 (0, 0)) :: (J9 175 (V2 ys) row ++ F)) _ _ _; refine gv ?_; refine cD (fun g => ?_) fun g => ?_
 ·refine Hu ?_
  obtain ⟨y, hy, hmy⟩ := Vh mz
  refine HI ?_
  refine H6 ?_; refine LN O fun r8 => Gx ?_; refine kB ?_; refine H8 ?_; refine Jx (T := [Kf r s zi]) (L0 := (r8, _) :: (r3, .cells (List.toArray x.cells) 91 (0, 0)) :: (J9 175 (V2 ys) row ++ F)) (Rl := R) (P') O O O zM (q6 (r := r) (s := s) (z := zi) (hin y hmy) 2 2) oR fun _ => ?_; change HL _ _ _ (Kf r s (V4 y.er 2 2 zi) :: (r8, _) :: (r3, .cells (List.toArray x.cells) 91 (0, 0)) :: (J9 175 (V2 ys) row ++ F)) _ _ _ _; refine JP 5 O ?_
  have hsg := Yw (hin y hmy) 2 2 zi
  refine NG ?_; refine LR O (JZ O hsg O) (NQ ?_); refine cD (fun g => ?_) fun g => ?_
  refine KF 14 O (N3 fun w1 hs1 => ?_)
  (have hC : YY x.er z = (ys.map AxL.er, V4 y.er 2 2 zi) := by rw [hcc, hI.eq, jL hy, Jq2 (Jq0 m3)]
   rw [hC]
   exact ⟨⟨ys, row, (J9 175 (V2 ys) row ++ F), (by rw [hI.len]; exact hI.ok), fun q hq => W' hq, fun b hb => (hI.inn b hb).mono fun q hq => Y' hq, rfl⟩, congrArg (fun n => Ending.returned (JV n row)) hI.len.symm, hs1.weakL (.cons_cons _ (.cons _ (.cons _ (T'))))⟩)
  ·refine D5 ?_
   obtain ⟨hz0, hcv⟩ := Jqz (x := y) (z := zi) m3
   have hy2 : y.xs.length = 2 := by have h : (Vf y 2 2 zi).1.length = 2 := m3; rw [hcv] at h; exact h
   obtain ⟨y0, y1, hyx⟩ := Ji6 hy2
   rw [hcv] at hsg; rw [hcv]; simp only [hyx] at hsg ⊢
   have hy1I : y1.In R := (hin y hmy).sub y1 (by rw [hyx]; simp)
   obtain ⟨z2, hz2⟩ : ∃ z2, Xs y0.er 20 (V4 y.er 2 2 zi) = z2 := ⟨_, rfl⟩
   obtain ⟨z3, hz3⟩ : ∃ z3, V4 y1.er 0 16 z2 = z3 := ⟨_, rfl⟩
   have hsk := Yw hy1I 0 16 z2
   obtain ⟨hkin, hkl⟩ := jR hy1I 0 16 z2
   have hker := jS y1 0 16 z2
   rw [hz3] at hker
   obtain ⟨⟨ks, kp⟩, hkp⟩ : ∃ q, Vf y1 0 16 z2 = q := ⟨_, rfl⟩
   rw [hkp] at hsk hkin hkl hker; simp only at hsk hkin hkl hker; refine gz ?_
   refine LR O (JG (j := 0) O hsg O O O mg mf) (LR O (Ky ItL.len oR O hsg (show [y0, y1][0]? = some y0 from rfl) rfl rfl) ?_)
   have hM0 := Jef (r := r) (s := s) (z := V4 y.er 2 2 zi) y0 20
   rw [hz2] at hM0; refine QW (T := [Kf r s (V4 y.er 2 2 zi)]) (L0 := (r8, _) :: (r3, .cells (List.toArray x.cells) 91 (0, 0)) :: (J9 175 (V2 ys) row ++ F)) (Rl := []) (O') O O O (enters_of Tryz.func350 m4 O) hM0 oN fun _ => ?_; change HL _ _ _ (Kf r s z2 :: (r8, _) :: (r3, .cells (List.toArray x.cells) 91 (0, 0)) :: (J9 175 (V2 ys) row ++ F)) _ _ _ _; refine D6 ?_; refine LN O fun r10 => Je (k := 0) (n := 2) (ys := [Jk y0.b, .slice none 0 0]) O O O O O O O O O (g8 ?_)
   refine LR O (JG (j := 1) O hsg O O O mg mf) (LR O (Ky ItL.len oR O hsg (show [y0, y1][1]? = some y1 from rfl) rfl rfl) ?_)
   have hRow3 := q6 (r := r) (s := s) (z := z2) hy1I 0 16
   rw [hkp, hz3] at hRow3; refine Jx (T := [Kf r s z2]) (L0 := (r10, _) :: (r8, _) :: (r3, .cells (List.toArray x.cells) 91 (0, 0)) :: (J9 175 (V2 ys) row ++ F)) (Rl := R) (P') O O O zM hRow3 oR fun _ => ?_; change HL _ _ _ (Kf r s z3 :: (r10, _) :: (r8, _) :: (r3, .cells (List.toArray x.cells) 91 (0, 0)) :: (J9 175 (V2 ys) row ++ F)) _ _ _ _; refine LR O (JZ O hsk O) (G5 ?_); refine JQ (σ := Nat × QZ × CZ) (fun q => CacK ks z3 q.1 q.2.1 q.2.2) (fun q => [(0, Kj r), (5, JV i row), (6, .func (.func 350) #[Kj r] #[]), (17, Km xs.length p), (18, .int .i64 (xs.length : Int)), (19, .int .i64 (i : Int)), (10, Kj r10), (39, Km ks.length kp), (40, .int .i64 (ks.length : Int)), (41, .int .i64 (q.1 : Int))]) (fun q => Kf r s q.2.2 :: (r10, .cells #[Jk y0.b, JV q.1 q.2.1] 175 (0, 0)) :: (J9 9 ((ks.take q.1).map fun x => Jk x.b) q.2.1 ++ ((r8, .cells (List.toArray y.cells) 91 (0, 0)) :: (r3, .cells (List.toArray x.cells) 91 (0, 0)) :: (J9 175 (V2 ys) row ++ F)))) (fun _ _ _ => True) (fun q => ks.length - q.1) (0, none, z3) ⟨Z', ⟨rfl, rfl⟩, rfl⟩ (lK O) (T') (fun _ _ h => h) ?_; rintro ⟨j, row2, zj⟩ hK; simp only at hK
   have hj1 := hK.le
   change HC _ _ _ (Kf r s zj :: (r10, .cells #[Jk y0.b, JV j row2] 175 (0, 0)) :: (J9 9 ((ks.take j).map fun x => Jk x.b) row2 ++ ((r8, _) :: (r3, .cells (List.toArray x.cells) 91 (0, 0)) :: (J9 175 (V2 ys) row ++ F)))) _ _ _; refine gv ?_; refine cD (fun g => ?_) fun g => ?_
   ·refine Hu ?_
    obtain ⟨u, hu, hmu⟩ := Vh (show j < ks.length by omega)
    refine HI ?_
    refine LR O (JG (j := j) O hsk O O O mg m3) (LR O (Ky ItL.len oR O hsk hu O O) (LN O fun r12 => Je (k := 0) (n := 3) (ys := u.cells) O O O O O (ItL.len u) O (ItL.one u) O (Dt ?_)))
    refine Kk [(r12, .cells (List.toArray u.cells) 91 (0, 0)), (r10, .cells #[Jk y0.b, JV j row2] 175 (0, 0))] [(0, .pure), (1, .pure), (2, .pure), (4, .turn), (5, .grow (Wg (slV 1) (.cells #[Jk u.b] 9 (0, 0))))] 6 [0, 1, 2, 3, 4, 5] m4 m4 (fun p hp => by rcases F'.1 hp with rfl | hp; exact N'; rw [U'.1 hp]; exact M' (M' N')) ?_
    refine gM ?_; refine Jr (k := 1) O O O O O (fun _ hS => (Jc O (.inl (hS _ (J0 (n := 1) O))) O O)) (ku ?_); refine Xk (k := 3) O O O O O (Ji (xs := u.cells) (n := 3) O (kn 0 O) O O (ItL.len u)) ?_
    refine xh (k := 4) (T0 := [Kf r s zj]) (L0 := (r12, _) :: (r10, .cells #[Jk y0.b, JV j row2] 175 (0, 0)) :: (J9 9 ((ks.take j).map fun x => Jk x.b) row2 ++ ((r8, _) :: (r3, .cells (List.toArray x.cells) 91 (0, 0)) :: (J9 175 (V2 ys) row ++ F)))) (E' := fun _ => Kf r s (Xs u.er 32 zj) :: (r12, _) :: (r10, .cells #[Jk y0.b, JV j row2] 175 (0, 0)) :: (J9 9 ((ks.take j).map fun x => Jk x.b) row2 ++ ((r8, _) :: (r3, .cells (List.toArray x.cells) 91 (0, 0)) :: (J9 175 (V2 ys) row ++ F)))) (Rl := []) (P') (fun _ => O') O O O O O (enters_of Tryz.func350 m4 O) (Jef u 32) oN (fun _ p hp => by rcases F'.1 hp with rfl | hp; exact M' N'; rw [U'.1 hp]; exact M' (M' N')) fun _ => ?_; refine VV (k := 5) (n := 1) (sz := 1) (vs := [_]) (zs := [_]) (r := [Jk u.b]) O O O O O O O O O O O me O fun rb => ?_; refine KJ ?_; refine Kw (L0 := (rb, _) :: Kf r s (Xs u.er 32 zj) :: (r12, _) :: (r10, .cells #[Jk y0.b, JV j row2] 175 (0, 0)) :: (r8, _) :: (r3, .cells (List.toArray x.cells) 91 (0, 0)) :: (J9 175 (V2 ys) row ++ F)) (xs := (ks.take j).map fun x => Jk x.b) (row := row2) (n := j) (sz := 1) (b := 16) (news := [Jk u.b]) (Ye [_, _, _, _] _ _) O O O O (kn 0 O) O O O O O m7 O O O m7 hK.ok m3 m3 fun ra cap sp hra => ?_
    refine MP ?_; refine Jm (k := 4) (cs' := #[Jk y0.b, JV (j + 1) (some (ra, cap, sp))]) O O O O O O O O O O (kB ?_); refine J4 mm (Nd ?_); rw [wX hu] at hra ⊢; refine Wy (A := [_, _, _, _, _]) (A' := [_, _, _]) [2, 4, 0] m7 O ?_; exact JL (j + 1, some (ra, cap, sp), Xs u.er 32 zj) ⟨by simp only; omega, hra, by rw [hK.eq, jL hu]; rfl⟩ mj (lK rfl) (T') (fun _ _ h => h)
   ·refine Hu ?_
    obtain rfl : j = ks.length := by omega
    have hrow2 := hK.ok
    have hKeq := hK.eq
    rw [List.take_length] at hrow2; rw [List.drop_length] at hKeq; simp only [List.take_length]
    have hv : JV ks.length row2 = Km (ks.map ItL.b).length (Ke row2) := by rw [D']; exact KK hrow2
    simp only [hv]
    have est : (ks.map fun x => Jk x.b) = Qu (ks.map ItL.b) := by unfold Qu; rw [List.map_map]; rfl
    refine NG ?_; refine LR O (Ji (xs := (AxL.cells ⟨y0.b, Ke row2, ks.map ItL.b⟩)) (n := 2) O (kn 1 O) O O O) (JO (n := 1) (sz := 2) (vs := [_]) (zs := [_, _]) (r := AxL.cells ⟨y0.b, Ke row2, ks.map ItL.b⟩) O O O O O O O O O n5 O fun rc => Kw (L0 := (rc, _) :: Kf r s zj :: (r10, _) :: (J9 9 (ks.map fun x => Jk x.b) row2 ++ ((r8, _) :: (r3, .cells (List.toArray x.cells) 91 (0, 0)) :: F))) (xs := V2 ys) (row := row) (n := i) (sz := 2) (b := 40) (news := AxL.cells ⟨y0.b, Ke row2, ks.map ItL.b⟩) (Jvd _ _ _ _ _ _ _ _) O O O O (kn 0 O) O O O O O m7 O O O m7 hI.ok m3 m3 fun ra cap sp hra => Dr ?_)
    obtain ⟨hf1, hf2⟩ := Jvc hker hKeq
    have hyer : y.er.xs = [y0.er, y1.er] := by rw [ItL.er_xs, hyx]; rfl
    have hstep := Jq1 (r := (xs.drop (i + 1)).map ItL.er) (acc := ys.map AxL.er) hz0 hyer hz2 hz3
    rw [hf1, hf2] at hstep
    have hcat : V2 ys ++ AxL.cells ⟨y0.b, Ke row2, ks.map ItL.b⟩ = V2 (ys ++ [⟨y0.b, Ke row2, ks.map ItL.b⟩]) := by rw [Jd0]; simp [V2]
    refine Wy (A := [_, _, _, _]) (A' := [_, _]) [2, 0] m7 O (X6 (((Ye _ [_, _] _).cons _).cons _) (Wy (A := [_, _, _, _]) (A' := [_, _, _]) [0, 3, 1] m7 O ?_)); rw [hcat] at hra ⊢
    have hy0I : y0.In R := (hin y hmy).sub y0 (by rw [hyx]; simp)
    have hA : (AxL.mk y0.b (Ke row2) (ks.map ItL.b)).In (J9 9 (ks.map fun x => Jk x.b) row2) := ⟨by have := hy0I.hb; show y0.b.length ≤ _; omega, by show (ks.map ItL.b).length ≤ _; rw [D']; omega, by rw [est] at hrow2 ⊢; exact Ks (e := 9) (by rw [D']; exact hrow2) m7, fun t ht => by obtain ⟨u, hu, rfl⟩ := List.mem_map.1 ht; have := (hkin u hu).hb; omega⟩
    exact JL (i + 1, some (ra, cap, sp), ys ++ [⟨y0.b, Ke row2, ks.map ItL.b⟩], J9 9 (ks.map fun x => Jk x.b) row2 ++ F, zj) ⟨by simp only; omega, hra, by simp only [C', hI.len]; rfl, (fun a ha => (G'.1 ha).elim (fun h => (hI.inn a h).mono fun q hq => Y' hq) fun h => by rw [U'.1 h]; exact hA.mono fun q hq => W' hq), by simp only; rw [hI.eq, jL hy, hstep, List.map_append, ItL.er_b]; rfl⟩ mj (lK rfl) (T') (fun _ _ h => h)
 ·refine KF 12 O (N3 fun w1 hs1 => ?_)
  (have hC : YY x.er z = (ys.map AxL.er, zi) := by rw [hcc, hI.eq, show i = xs.length by omega, List.drop_length]; rfl
   rw [hC]
   exact ⟨⟨ys, row, (J9 175 (V2 ys) row ++ F), (by rw [hI.len]; exact hI.ok), fun q hq => W' hq, fun b hb => (hI.inn b hb).mono fun q hq => Y' hq, rfl⟩, congrArg (fun n => Ending.returned (JV n row)) hI.len.symm, hs1.weakL (.cons_cons _ (.cons _ (T')))⟩)
end Go.Proofs.YtckoepmdmhdepaaGreatDoor
namespace Go.SL
set_option linter.all false
open Go Go.RowKit Go.Shelf
open Go.Proofs (Enters enters_of)
variable {a : Act} {ops : Array Oper} {code : Code} {τ : Type} {E : Code → τ → Prop} {c : Cx} {Q : Exit → Act → World → Prop} {L L' : J3} {T : J3 → Array Bool → Act → Prop} {d : List Deferred} {x : Operand} {α σ : Type} {t : TypeId} {w : World} {X : XP} {tb : YV} {I : σ → Prop}
section
variable {c : Cx} {l : KY} {L E : J3} {X : XP} {Q : Exit → Act → World → Prop} {d : List Deferred}
variable {tb : YV} {S : J3} {T : J3 → Act → Prop}
def HF (c : Cx) (d : List Deferred) (l : KY) (E : J3) (X : XP) (S : J3) (ops : Array Oper) (tb : YV) (t : OT) (T : J3 → Act → Prop) : Prop :=
 ∀ a, Fr c.n d l a → yG c X S ops tb T t E a
variable {ops : Array Oper}
theorem Xt {t : OT} (h : HF c d l E X S ops tb t T) : HB c d l E X S ops tb [] (yG c X S ops tb T t) := fun a hf => h a hf
theorem jl (h : HB c d l E X S ops tb [] T) : HF c d l E X S ops tb .nil T := fun a hf => h a hf
theorem Xu {k : Nat} {t : OT} (h : HB c d l E X S ops tb [k] (yG c X S ops tb T t)) : HF c d l E X S ops tb (.one k t) T := fun a hf => h a hf
theorem ym {k1 k2 : Nat} {t1 t2 : OT} (h1 : HB c d l E X S ops tb [k1] (yG c X S ops tb T t1)) (h2 : HB c d l E X S ops tb [k2] (yG c X S ops tb T t2)) : HF c d l E X S ops tb (.two k1 t1 k2 t2) T := fun a hf => ⟨h1 a hf, h2 a hf⟩
theorem QR (I : α → Prop) (lJ : α → KY) (LJ : α → J3) (hK : ∀ x, I x → HQ c d (lJ x) (LJ x) X (Q .normal))
  (h : (∀ l' L' x, I x → LookAll l' (lJ x) → (LJ x).Sublist L' → HQ c d l' L' X (Q .normal)) → HC c d l L X code Q) : HC c d l L X code Q :=
 h fun _ _ x hI hl hL a w hf hs => hK x hI a w (hf.weak hl.get) (hs.weakL hL)
end
end Go.SL
namespace Go.Proofs.YtckoepmdmhdepaaGreatDoor
set_option linter.all false
open Go.SL Go.RowKit Go.Shelf
open Go.Proofs (Enters enters_of)
variable {s : BS} {v : Bool} {z z1 z2 z3 z7 : CZ} {g : FuncId} {e hi lo : Int} {it : It} {x y : ItL} {R Rl : J3} {acc : List AxE} {ys : List ItL} {cs vs : List Value} {α : Type} {post pre : List α} {a q r r2 sz : Nat} {t : TxL} {w : World}
theorem Wz  {a : List α} {k : Nat} {v : α} (h : a[k]? = some v) : (pre ++ (a ++ post))[pre.length + k]? = some v := by
 rw [List.getElem?_append_right m3, Nat.add_sub_cancel_left, List.getElem?_append_left (La'.1 h).1]; exact h
theorem Wb  {a : List α} {k : Nat} {v : α} (h : k < a.length) : ((pre ++ (a ++ post)).toArray.setIfInBounds (pre.length + k) v) = (pre ++ (a.set k v ++ post)).toArray := by
 apply Array.toList_inj.1
 rw [Array.toList_setIfInBounds]; simp only []; rw [List.set_append_right _ _ m3, Nat.add_sub_cancel_left, List.set_append_left _ _ h]
theorem Vy  {a : List α} {k : Nat} (h : k < a.length) : ((pre ++ (a ++ post)).toArray[pre.length + k]?).isSome = true := by
 rw [List.getElem?_toArray, Wz (List.getElem?_eq_getElem h)]; rfl
theorem jT  {a v : List α} {k n : Nat} (h : k + n ≤ a.length) : ((pre ++ (a ++ post)).toArray.toList.take (pre.length + k) ++ v ++ (pre ++ (a ++ post)).toArray.toList.drop (pre.length + k + n)).toArray = (pre ++ ((a.take k ++ v ++ a.drop (k + n)) ++ post)).toArray := by
 apply Array.toList_inj.1
 simp only []; rw [List.take_length_add_append, Nat.add_assoc, List.drop_length_add_append, List.take_append_of_le_length m3, List.drop_append_of_le_length m3]
 simp
theorem yn  {a : List α} {k n : Nat} (h : k + n ≤ a.length) : pre.length + k + n ≤ (pre ++ (a ++ post)).toArray.size := by
 rw [List.size_toArray, C', C']; omega
theorem Jve (s : BS) (z : CZ) : ∃ k : Nat, (Vg s z).1 = (k : Int) ∧ k ≤ 2 := by
 unfold Vg
 simp only []
 split
 ·exact ⟨0, rfl, by omega⟩
 ·split
  ·exact ⟨0, rfl, by omega⟩
  ·split
   ·exact ⟨0, rfl, by omega⟩
   ·exact ⟨_, rfl, by omega⟩
theorem Jeg (h : z.1 ≤ s.length) : (Vg s z).2.1 ≤ s.length := by
 have h1 := Vx (n := 1) h
 have h2 := Vx (n := 1) h1
 unfold Vg
 simp only []
 split
 ·exact h1
 ·split
  ·show _ - 1 ≤ _; omega
  ·split
   ·rw [Qt]; exact h1
   ·show (if _ then _ else _ : CZ).1 - 1 ≤ _
    split
    ·rw [Qt]; omega
    ·omega
theorem Jq3 (h : z.1 ≤ s.length) : (Wk s z).2.1 ≤ s.length := by
 unfold Wk
 split
 ·exact h
 ·split
  ·exact h
  ·simp only []; rw [Qt]; exact Vx h
theorem XV (it : It) (lo hi : Int) (z : CZ) : (V4 it lo hi z).1 = z.1 := by unfold V4; split <;> rfl
def Xv (s : BS) (z : CZ) (t : TxE) : TxE × CZ :=
 let k := (Vg s z).1
 let z1 := (Vg s z).2
 let it := (Wk s z1).1
 let z3 := V4 it (3 + k) (3 + k) (Wk s z1).2
 if z3.2 ≠ 0 then ({ t with kind := k }, z3) else
 let o := if k = 2 then 1 else 0
 let z4 := JE z3 (Jn (it.xs.getD 0 KE)).2
 let z5 := if k = 2 then JE z4 (Jn (it.xs.getD 1 KE)).2 else z4
 let z6 := JE z5 (Jn (it.xs.getD (1 + o) KE)).2
 let z7 := JE z6 (Js (it.xs.getD (2 + o) KE) 0 (4096 : Nat)).2
 let t1 : TxE := { t with kind := k, value := (Jn (it.xs.getD 0 KE)).1, tip := if k = 2 then (Jn (it.xs.getD 1 KE)).1 else t.tip, price := (Jn (it.xs.getD (1 + o) KE)).1, data := (Js (it.xs.getD (2 + o) KE) 0 (4096 : Nat)).1 }
 if k = 0 then (t1, z7) else ({ t1 with access := (YY (it.xs.getD (3 + o) KE) z7).1 }, (YY (it.xs.getD (3 + o) KE) z7).2)
theorem qA {k : Nat} (t : TxE) (hkk : (Vg s z).1 = (k : Int)) (hz1 : (Vg s z).2 = z1) (hz2 : Wk s z1 = (it, z2)) (hz3 : V4 it (3 + (k : Int)) (3 + (k : Int)) z2 = z3) (h : z3.2 ≠ 0) : Xv s z t = ({ t with kind := (k : Int) }, z3) := by
 unfold Xv; simp only [hkk, hz1, hz2, hz3]; exact if_pos h
theorem Jvf  {i0 i1 i2 i3 i4 : It} (t : TxE) (hkk : (Vg s z).1 = ((2 : Nat) : Int)) (hz1 : (Vg s z).2 = z1) (hz2 : Wk s z1 = (it, z2)) (hz3 : V4 it (3 + ((2 : Nat) : Int)) (3 + ((2 : Nat) : Int)) z2 = z3) (h : z3.2 = 0) (hx : it.xs = [i0, i1, i2, i3, i4]) (hz7 : JE (JE (JE (JE z3 (Jn i0).2) (Jn i1).2) (Jn i2).2) (Js i3 0 (4096 : Nat)).2 = z7) :
  Xv s z t = ({ t with kind := ((2 : Nat) : Int), value := (Jn i0).1, tip := (Jn i1).1, price := (Jn i2).1, data := (Js i3 0 (4096 : Nat)).1, access := (YY i4 z7).1 }, (YY i4 z7).2) := by
 exact HT
theorem Jvg  {i0 i1 i2 : It} (t : TxE) (hkk : (Vg s z).1 = ((0 : Nat) : Int)) (hz1 : (Vg s z).2 = z1) (hz2 : Wk s z1 = (it, z2)) (hz3 : V4 it (3 + ((0 : Nat) : Int)) (3 + ((0 : Nat) : Int)) z2 = z3) (h : z3.2 = 0) (hx : it.xs = [i0, i1, i2]) (hz7 : JE (JE (JE z3 (Jn i0).2) (Jn i1).2) (Js i2 0 (4096 : Nat)).2 = z7) :
  Xv s z t = ({ t with kind := ((0 : Nat) : Int), value := (Jn i0).1, price := (Jn i1).1, data := (Js i2 0 (4096 : Nat)).1 }, z7) := by
 exact HT
theorem Jvh  {i0 i1 i2 i3 : It} (t : TxE) (hkk : (Vg s z).1 = ((1 : Nat) : Int)) (hz1 : (Vg s z).2 = z1) (hz2 : Wk s z1 = (it, z2)) (hz3 : V4 it (3 + ((1 : Nat) : Int)) (3 + ((1 : Nat) : Int)) z2 = z3) (h : z3.2 = 0) (hx : it.xs = [i0, i1, i2, i3]) (hz7 : JE (JE (JE z3 (Jn i0).2) (Jn i1).2) (Js i2 0 (4096 : Nat)).2 = z7) :
  Xv s z t = ({ t with kind := ((1 : Nat) : Int), value := (Jn i0).1, price := (Jn i1).1, data := (Js i2 0 (4096 : Nat)).1, access := (YY i3 z7).1 }, (YY i3 z7).2) := by
 exact HT
theorem xj : ∀ (xs : List It) (acc : List AxE) (z : CZ), (XJ xs acc z).1.length ≤ acc.length + xs.length
 | [], acc, z => Lc'
 | x :: r, acc, z => by
  rw [XJ]; simp only []
  split
  ·show acc.length ≤ _; omega
  ·refine Lb' (xj r _ _) ?_
   simp only [C', List.length_cons, List.length_nil]; omega
theorem Jeh (it : It) (z : CZ) : (YY it z).1.length ≤ it.xs.length := by
 unfold YY
 split
 ·exact Lb' (xj _ _ _) mf
 ·exact Gw
def Jy8 : List (Nat × It) → List Value → CZ → List Value × CZ
 | [], a, z => (a, z)
 | (k, it) :: r, a, z => Jy8 r (a.take k ++ wC (Jn it).1 ++ a.drop (k + 4)) (JE z (Jn it).2)
def yC (r4 n : Nat) (p : Pl) : Nat × Obj := (r4, .cells #[Km n p] 89 (0, 0))
theorem XK {r : List ItL} {p : Pl} (hs : Seg R (y :: r).length (Kq (y :: r)) p) (hl : (y :: r).length ≤ 1000000) :
  PureT (α := Unit) prog 343 [Kj q].toArray (fun _ => y.val) [yC q (y :: r).length p] (fun _ => [yC q r.length (JU 3 1 p)]) R := by
 refine Jq Tryz.func343 O O fun w => Kl ?_
 unfold yC
 refine NG ?_; refine LN O fun r2 => kV ?_; refine MY ?_
 refine gG fun r3 => ?_; refine kV ?_; refine kI ?_; refine G6 ?_; exact Dv
structure WI (R : J3) (ws : List Nat) (ls : List ItL) (a0 : List Value) (z0 : CZ) (j : Nat) (a : List Value) (p : Pl) (z : CZ) : Prop where
  le : j ≤ ws.length
  len : a.length = 36
  seg : Seg R (ls.drop j).length (Kq (ls.drop j)) p
  eq : Jy8 (ws.zip (ls.map ItL.er)) a0 z0 = Jy8 ((ws.drop j).zip ((ls.drop j).map ItL.er)) a z
set_option maxHeartbeats 1000000 in
theorem Jy9 {pre post : List Value} (ha : z.1 ≤ s.length) (hs : s.length ≤ 1000000) (ht : t.In []) :
    PureT (α := TxR (Xv s z t.er).1) prog 332 [Kj r, .pointer (some ⟨q, pre.length, none⟩)].toArray (fun _ => .tuple #[]) [Kf r s z, (q, .cells (pre ++ (t.cells ++ post)).toArray 33 (0, 0))] (fun y => Kf r s (Xv s z t.er).2 :: (q, .cells (pre ++ (y.x.cells ++ post)).toArray 33 (0, 0)) :: y.L) [] := by
  obtain ⟨k, hkk, hk2⟩ := Jve s z
  have hK := Jvb (r := r) ha hs
  have ha1 := Jeg ha
  rw [hkk] at hK
  obtain ⟨z1, hz1⟩ : ∃ z1, (Vg s z).2 = z1 := ⟨_, rfl⟩
  rw [hz1] at hK ha1
  have hI := Jva (r := r) ha1 hs
  obtain ⟨⟨it, z2⟩, hz2⟩ : ∃ q, Wk s z1 = q := ⟨_, rfl⟩
  rw [hz2] at hI; simp only at hI; refine Jq Tryz.func332 O O fun w => Kl (gw ?_); refine Jx (T := [Kf r s z]) (L0 := [(q, .cells (pre ++ (t.cells ++ post)).toArray 33 (0, 0))]) (Rl := []) (O') O O O (enters_of Tryz.func340 m4 O) hK oN fun _ => ?_; change HL _ _ _ ([Kf r s z1, (q, .cells (pre ++ (t.cells ++ post)).toArray 33 (0, 0))]) _ _ _ _; refine KC O (LR O (Ja (off' := pre.length + 0) O O O) ?_); refine Jm (k := 1) (cs' := (pre ++ ((TxL.cells { t with kind := ((k : Nat) : Int) }) ++ post)).toArray) rfl rfl rfl rfl rfl rfl (Vy (a := t.cells) (k := 0) mn) rfl (Wb (a := t.cells) (k := 0) mn) rfl (NQ ?_)
  obtain ⟨z3, hz3⟩ : ∃ z3, V4 it (3 + ((k : Nat) : Int)) (3 + ((k : Nat) : Int)) z2 = z3 := ⟨_, rfl⟩
  refine wp [(q, .cells (pre ++ ((TxL.cells { t with kind := ((k : Nat) : Int) }) ++ post)).toArray 33 (0, 0))] [(0, .pure), (1, .pure), (2, .turn), (3, .pure), (4, .pure), (5, .pure), (6, .pure), (7, .pure), (8, .pure), (9, .pure), (10, .pure), (11, .pure), (12, .pure), (13, .turn), (14, .grow (Wg yF (.cells #[.slice none 0 0] 89 (0, 0))))] 15 3 [0, 1, 3, 4, 5, 6, 7, 8, 9, 10, 11, 12] (.two 2 (.two 13 (.one 14 (.nil)) 14 (.one 13 (.nil))) 14 (.one 2 (.one 13 (.nil)))) m4 m4 (fun p hp => by rw [U'.1 hp]; exact M' N') (gN ?_); refine D4 ?_; refine Jr (k := 4) O O O O O (fun _ hS => (JH O O O)) (Jr (k := 5) O O O O O (fun _ _ => Ja (off' := pre.length + 0) O O O) (Jr (k := 6) O O O O O (fun _ hS => Jc (v := .int .i64 ((k : Nat) : Int)) O (.inl (hS _ (J0 (n := 0) O))) O mQ) (Jr (k := 7) O O O O O (fun _ _ => JH O O O) (Ze m3 m3 (Ey ?_))))); refine Jr (k := 9) O O O O O (fun _ hS => (JH O O O)) (Jr (k := 10) O O O O O (fun _ _ => Ja (off' := pre.length + 0) O O O) (Jr (k := 11) O O O O O (fun _ hS => Jc (v := .int .i64 ((k : Nat) : Int)) O (.inl (hS _ (J0 (n := 0) O))) O mQ) (Jr (k := 12) O O O O O (fun _ _ => JH O O O) (Ze m3 m3 (Xt (ym ?k1_a ?k1_b))))))
  case' k1_a =>
    refine KH (k := 2) (T0 := [Kf r s z1]) (L0 := [(q, .cells (pre ++ ((TxL.cells { t with kind := ((k : Nat) : Int) }) ++ post)).toArray 33 (0, 0))]) (E' := fun y => Kf r s z2 :: (q, .cells (pre ++ ((TxL.cells { t with kind := ((k : Nat) : Int) }) ++ post)).toArray 33 (0, 0)) :: y.L) (Rl := []) mZ (fun y => (B' (l₁ := y.L)).cons _) rfl rfl rfl rfl rfl (enters_of Tryz.func342 m4 rfl) hI oN (fun y p hp => nH) fun y => ?_
    obtain ⟨yx, yL, yin, yer⟩ := y
    simp only
    refine Xt (ym ?k1a_a ?k1a_b)
    case' k1a_a =>
      have hRow := q6 (r := r) (s := s) (z := z2) yin (3 + ((k : Nat) : Int)) (3 + ((k : Nat) : Int))
      have hls0 := Yw yin (3 + ((k : Nat) : Int)) (3 + ((k : Nat) : Int)) z2
      obtain ⟨hlin, hls6⟩ := jR yin (3 + ((k : Nat) : Int)) (3 + ((k : Nat) : Int)) z2
      have hler := jS yx (3 + ((k : Nat) : Int)) (3 + ((k : Nat) : Int)) z2
      obtain ⟨⟨ls, p⟩, hlv⟩ : ∃ g, Vf yx (3 + ((k : Nat) : Int)) (3 + ((k : Nat) : Int)) z2 = g := ⟨_, rfl⟩
      rw [yer, hz3, hlv] at hRow; rw [hlv] at hls0 hlin hls6 hler; rw [yer, hz3] at hler; simp only at hRow hls0 hlin hls6 hler
      refine KH (k := 13) (T0 := [Kf r s z2]) (L0 := (q, .cells (pre ++ ((TxL.cells { t with kind := ((k : Nat) : Int) }) ++ post)).toArray 33 (0, 0)) :: yL) (E' := fun _ => Kf r s z3 :: (q, .cells (pre ++ ((TxL.cells { t with kind := ((k : Nat) : Int) }) ++ post)).toArray 33 (0, 0)) :: yL) (Rl := yL) mZ (fun _ => O') rfl rfl rfl rfl rfl zM hRow (fun q hq => Or.inl n4) (fun _ p hp => nH) fun _ => ?_
      refine Xt (Xu ?_); refine Vv (k := 14) (cs := #[_]) O O O O O O fun r4 => Xt (jl ?_)
    case' k1a_b =>
      refine Vv (k := 14) (cs := #[_]) O O O O O O fun r4 => Xt (Xu ?_)
      have hRow := q6 (r := r) (s := s) (z := z2) yin (3 + ((k : Nat) : Int)) (3 + ((k : Nat) : Int))
      have hls0 := Yw yin (3 + ((k : Nat) : Int)) (3 + ((k : Nat) : Int)) z2
      obtain ⟨hlin, hls6⟩ := jR yin (3 + ((k : Nat) : Int)) (3 + ((k : Nat) : Int)) z2
      have hler := jS yx (3 + ((k : Nat) : Int)) (3 + ((k : Nat) : Int)) z2
      obtain ⟨⟨ls, p⟩, hlv⟩ : ∃ g, Vf yx (3 + ((k : Nat) : Int)) (3 + ((k : Nat) : Int)) z2 = g := ⟨_, rfl⟩
      rw [yer, hz3, hlv] at hRow; rw [hlv] at hls0 hlin hls6 hler; rw [yer, hz3] at hler; simp only at hRow hls0 hlin hls6 hler
      refine KH (k := 13) (T0 := [Kf r s z2]) (L0 := (r4, _) :: (q, .cells (pre ++ ((TxL.cells { t with kind := ((k : Nat) : Int) }) ++ post)).toArray 33 (0, 0)) :: yL) (E' := fun _ => Kf r s z3 :: (r4, _) :: (q, .cells (pre ++ ((TxL.cells { t with kind := ((k : Nat) : Int) }) ++ post)).toArray 33 (0, 0)) :: yL) (Rl := yL) mZ (fun _ => O') rfl rfl rfl rfl rfl zM hRow (fun q hq => Or.inl n4) (fun _ p hp => nH) fun _ => ?_
      refine Xt (jl ?_)
  case' k1_b =>
    refine Vv (k := 14) (cs := #[_]) O O O O O O fun r4 => Xt (Xu ?_)
    refine KH (k := 2) (T0 := [Kf r s z1]) (L0 := (r4, _) :: [(q, .cells (pre ++ ((TxL.cells { t with kind := ((k : Nat) : Int) }) ++ post)).toArray 33 (0, 0))]) (E' := fun y => Kf r s z2 :: (r4, _) :: (q, .cells (pre ++ ((TxL.cells { t with kind := ((k : Nat) : Int) }) ++ post)).toArray 33 (0, 0)) :: y.L) (Rl := []) mZ (fun y => (B' (l₁ := y.L)).cons _) rfl rfl rfl rfl rfl (enters_of Tryz.func342 m4 rfl) hI oN (fun y p hp => nH) fun y => ?_
    obtain ⟨yx, yL, yin, yer⟩ := y
    simp only
    refine Xt (Xu ?_)
    have hRow := q6 (r := r) (s := s) (z := z2) yin (3 + ((k : Nat) : Int)) (3 + ((k : Nat) : Int))
    have hls0 := Yw yin (3 + ((k : Nat) : Int)) (3 + ((k : Nat) : Int)) z2
    obtain ⟨hlin, hls6⟩ := jR yin (3 + ((k : Nat) : Int)) (3 + ((k : Nat) : Int)) z2
    have hler := jS yx (3 + ((k : Nat) : Int)) (3 + ((k : Nat) : Int)) z2
    obtain ⟨⟨ls, p⟩, hlv⟩ : ∃ g, Vf yx (3 + ((k : Nat) : Int)) (3 + ((k : Nat) : Int)) z2 = g := ⟨_, rfl⟩
    rw [yer, hz3, hlv] at hRow; rw [hlv] at hls0 hlin hls6 hler; rw [yer, hz3] at hler; simp only at hRow hls0 hlin hls6 hler
    refine KH (k := 13) (T0 := [Kf r s z2]) (L0 := (r4, _) :: (q, .cells (pre ++ ((TxL.cells { t with kind := ((k : Nat) : Int) }) ++ post)).toArray 33 (0, 0)) :: yL) (E' := fun _ => Kf r s z3 :: (r4, _) :: (q, .cells (pre ++ ((TxL.cells { t with kind := ((k : Nat) : Int) }) ++ post)).toArray 33 (0, 0)) :: yL) (Rl := yL) mZ (fun _ => O') rfl rfl rfl rfl rfl zM hRow (fun q hq => Or.inl n4) (fun _ p hp => nH) fun _ => ?_
    refine Xt (jl ?_)
  all_goals refine KJ ?_
  all_goals first | refine Jm (k := 1) (cs' := #[Km ls.length p]) O O O O O O O O O O ?_ | (refine JY (P') ?_; refine Jm (k := 1) (cs' := #[Km ls.length p]) O O O O O O O O O O ?_)
  all_goals change HL _ _ _ (Kf r s z3 :: yC r4 ls.length p :: (q, .cells (pre ++ ((TxL.cells { t with kind := ((k : Nat) : Int) }) ++ post)).toArray 33 (0, 0)) :: yL) _ _ _ _
  all_goals refine JD 1 O ?_
  all_goals (
   obtain rfl | rfl | rfl : k = 0 ∨ k = 1 ∨ k = 2 := by omega
   · refine wh 6 O ?_
     refine Gt ?_; refine Jl O (fun h5 => ?_) (fun h5 => ?_)
     try simp only [ZZ] at h5
     refine KF 2 O (Jh O O .nil (fun w1 hs1 => ?_))
     (have hC := qA t.er hkk hz1 hz2 hz3 m3
      rw [hC]
      exact ⟨⟨({ t with kind := ((0 : Nat) : Int) } : TxL), [], ⟨⟨ht.ok.chain, ht.ok.nonce, ht.ok.tip, ht.ok.price, ht.ok.gas, ht.ok.value, ht.ok.auths, ht.ok.y, ht.ok.r, ht.ok.s, ht.ok.mint⟩, ht.dest, ht.data, ht.source, ht.from_, ht.accL, ht.accS, ht.acc, ht.auL, ht.auS, ht.au⟩, rfl⟩, rfl, hs1.weakL (.cons_cons _ (.cons _ (.cons_cons _ (S'))))⟩)
     · try simp only [ZZ] at h5
       refine D5 ?_
       have hz30 : z3.2 = 0 := by omega
       have hlen : ls.length = 3 := by
         have h1 := QC (vM (it := it) (lo := 3 + ((0 : Nat) : Int)) (hi := 3 + ((0 : Nat) : Int)) (z := z2) MM).2
         exact GW
       rw [if_pos hz30] at hler
       obtain ⟨i0, i1, i2, rfl⟩ : ∃ i0 i1 i2, ls = [i0, i1, i2] := by
         match ls, hlen with
         | [i0, i1, i2], _ => exact ⟨i0, i1, i2, rfl⟩
       have hitx : it.xs = [i0.er, i1.er, i2.er] := hler.symm
       refine Do fun rw => ?_; refine LR O (Jc (v := .int .i64 ((0 : Nat) : Int)) O (kn 3 O) O mQ) (NQ ?_); refine Jl O (fun h10 => ?_) (fun h10 => ?_)
       exact absurd h10 (m7)
       · try simp only [ZZ] at h10
         refine Hq ?_; refine EQ ?_; refine JQ (σ := Nat × List Value × Pl × CZ) (fun g => WI yL [13, 7] [i0, i1, i2] (TxL.cells { t with kind := ((0 : Nat) : Int) }) z3 g.1 g.2.1 g.2.2.1 g.2.2.2) (fun g => [(0, Kj r), (1, .pointer (some ⟨q, pre.length, none⟩)), (5, .func (.func 343) #[] #[Kj r4]), (60, .slice (some ⟨rw, 0, none⟩) 2 2), (61, .int .i64 ((2 : Nat) : Int)), (62, .int .i64 (g.1 : Int))]) (fun g => (rw, .cells #[.pointer (some ⟨q, pre.length + 13, none⟩), .pointer (some ⟨q, pre.length + 7, none⟩)] 450 (0, 0)) :: Kf r s g.2.2.2 :: yC r4 ([i0, i1, i2].drop g.1).length g.2.2.1 :: (q, .cells (pre ++ (g.2.1 ++ post)).toArray 33 (0, 0)) :: yL) (fun _ _ _ => True) (fun g => 2 - g.1) (0, (TxL.cells { t with kind := ((0 : Nat) : Int) }), p, z3) ⟨Z', TxL.len _, hls0, rfl⟩ (lK rfl) (T') (fun _ _ h => h) ?_; rintro ⟨j, a, pj, zj⟩ hW; simp only at hW
         have hj1 : j ≤ 2 := hW.le
         change HC _ _ _ ((rw, .cells #[.pointer (some ⟨q, pre.length + 13, none⟩), .pointer (some ⟨q, pre.length + 7, none⟩)] 450 (0, 0)) :: Kf r s zj :: yC r4 ([i0, i1, i2].drop j).length pj :: (q, .cells (pre ++ (a ++ post)).toArray 33 (0, 0)) :: yL) _ _ _; refine gv ?_; refine Jl O (fun h15 => ?_) (fun h15 => ?_)
         · try simp only [ZZ] at h15
           refine Hu ?_
           obtain ⟨y, rj, hd⟩ : ∃ y rj, [i0, i1, i2].drop j = y :: rj := by
             obtain rfl | rfl := (by omega : j = 0 ∨ j = 1)
             exact DY
             exact DY
           obtain ⟨kj, wr, hw, hk36⟩ : ∃ kj wr, ([13, 7] : List Nat).drop j = kj :: wr ∧ kj + 4 ≤ 36 := by
             obtain rfl | rfl := (by omega : j = 0 ∨ j = 1)
             exact Hv
             exact Hv
           have hd1 : [i0, i1, i2].drop (j + 1) = rj := by rw [← List.tail_drop, hd]; rfl
           have hw1 : ([13, 7] : List Nat).drop (j + 1) = wr := by rw [← List.tail_drop, hw]; rfl
           have hsg := hW.seg
           have hyl : (y :: rj).length ≤ 1000000 := by rw [← hd, List.length_drop]; omega
           rw [hd] at hsg; rw [hd]
           have hwj : X3 (#[.pointer (some ⟨q, pre.length + 13, none⟩), .pointer (some ⟨q, pre.length + 7, none⟩)] : Array Value).toList (0 + j * 1) = some (.pointer (some ⟨q, pre.length + kj, none⟩)) := by
             obtain rfl | rfl := (by omega : j = 0 ∨ j = 1)
             exact GD
             exact GD
           refine gJ ?_; refine Jx (T := [yC r4 (y :: rj).length pj]) (L0 := _) (Rl := yL) (List.perm_middle (l₁ := [_, _])) O O O qQ (XK hsg hyl) (fun q hq => Or.inl (M' (M' (M' hq)))) fun _ => Gd fun r9 => ?_; refine Jx (T := [Kf r s zj]) (L0 := _) (Rl := []) (List.perm_middle (l₁ := [_, _, _])) O O O Xo (Vs r s zj (Jn y.er).2) oN fun _ => kV ?_; exact NF
         try simp only [ZZ] at h15
         refine gv ?_
         have hE := hW.eq
         have hjm : j = 2 := by omega
         subst hjm
         have hE1 : a = ({ t with kind := ((0 : Nat) : Int), value := (Jn i0.er).1, price := (Jn i1.er).1 } : TxL).cells := (congrArg Prod.fst hE).symm.trans rfl
         have hE2 : zj = JE (JE z3 (Jn i0.er).2) (Jn i1.er).2 := (congrArg Prod.snd hE).symm.trans rfl
         subst hE1
         have hsg : Seg yL [i2].length (Kq [i2]) pj := hW.seg
         refine NG ?_; refine Jx (T := [yC r4 (i2 :: []).length pj]) (L0 := _) (Rl := yL) (List.perm_middle (l₁ := [_, _])) O O O qQ (XK hsg mf) (fun q hq => Or.inl (M' (M' (M' hq)))) fun _ => Ju O O O Jft (WB (R := []) i2 0 (4096 : Nat)) oN (DN ?_); refine Jx (T := [Kf r s zj]) (L0 := _) (Rl := []) (List.perm_middle (l₁ := [_, _])) O O O Xo (Vs r s zj (Js i2.er 0 (4096 : Nat)).2) oN fun _ => DR ?_; refine Jm (k := 3) (cs' := (pre ++ (({ t with kind := ((0 : Nat) : Int), value := (Jn i0.er).1, price := (Jn i1.er).1, data := (Js i2.er 0 (4096 : Nat)).1 } : TxL).cells ++ post)).toArray) rfl rfl rfl rfl rfl rfl (Vy (a := ({ t with kind := ((0 : Nat) : Int), value := (Jn i0.er).1, price := (Jn i1.er).1 } : TxL).cells) (k := 17) mn) rfl (Wb (a := ({ t with kind := ((0 : Nat) : Int), value := (Jn i0.er).1, price := (Jn i1.er).1 } : TxL).cells) (k := 17) mn) rfl (gp ?_); refine gZ ?_; refine LR O (Jc (v := .int .i64 ((0 : Nat) : Int)) O (kn 3 O) O mQ) (NQ ?_); refine Jl O (fun h24 => ?_) (fun h24 => ?_)
         exact absurd h24 (m7)
         try simp only [ZZ] at h24
         refine KF 1 O (Gy fun w1 hs1 => ?_)
         (have hC := Jvg t.er hkk hz1 hz2 hz3 hz30 hitx (z7 := JE zj (Js i2.er 0 (4096 : Nat)).2) (by rw [hE2])
          rw [hC]
          exact ⟨⟨({ t with kind := ((0 : Nat) : Int), value := (Jn i0.er).1, price := (Jn i1.er).1, data := (Js i2.er 0 (4096 : Nat)).1 } : TxL), [], ⟨⟨ht.ok.chain, ht.ok.nonce, ht.ok.tip, Qz _, ht.ok.gas, Qz _, ht.ok.auths, ht.ok.y, ht.ok.r, ht.ok.s, ht.ok.mint⟩, ht.dest, Lb' (VG i2.er) m7, ht.source, ht.from_, ht.accL, ht.accS, ht.acc, ht.auL, ht.auS.mono oN, ht.au⟩, rfl⟩, rfl, hs1.weakL (.cons_cons _ (.cons _ (.cons _ (.cons_cons _ (S')))))⟩)
   · refine wh 6 O ?_
     refine Gt ?_; refine Jl O (fun h5 => ?_) (fun h5 => ?_)
     try simp only [ZZ] at h5
     refine KF 2 O (Jh O O .nil (fun w1 hs1 => ?_))
     (have hC := qA t.er hkk hz1 hz2 hz3 m3
      rw [hC]
      exact ⟨⟨({ t with kind := ((1 : Nat) : Int) } : TxL), [], ⟨⟨ht.ok.chain, ht.ok.nonce, ht.ok.tip, ht.ok.price, ht.ok.gas, ht.ok.value, ht.ok.auths, ht.ok.y, ht.ok.r, ht.ok.s, ht.ok.mint⟩, ht.dest, ht.data, ht.source, ht.from_, ht.accL, ht.accS, ht.acc, ht.auL, ht.auS, ht.au⟩, rfl⟩, rfl, hs1.weakL (.cons_cons _ (.cons _ (.cons_cons _ (S'))))⟩)
     · try simp only [ZZ] at h5
       refine D5 ?_
       have hz30 : z3.2 = 0 := by omega
       have hlen : ls.length = 4 := by
         have h1 := QC (vM (it := it) (lo := 3 + ((1 : Nat) : Int)) (hi := 3 + ((1 : Nat) : Int)) (z := z2) MM).2
         exact GW
       rw [if_pos hz30] at hler
       obtain ⟨i0, i1, i2, i3, rfl⟩ : ∃ i0 i1 i2 i3, ls = [i0, i1, i2, i3] := by
         match ls, hlen with
         | [i0, i1, i2, i3], _ => exact ⟨i0, i1, i2, i3, rfl⟩
       have hitx : it.xs = [i0.er, i1.er, i2.er, i3.er] := hler.symm
       have hiacc : i3.In yL := hlin _ mf
       refine Do fun rw => ?_; refine LR O (Jc (v := .int .i64 ((1 : Nat) : Int)) O (kn 3 O) O mQ) (NQ ?_); refine Jl O (fun h10 => ?_) (fun h10 => ?_)
       exact absurd h10 (m7)
       · try simp only [ZZ] at h10
         refine Hq ?_; refine EQ ?_; refine JQ (σ := Nat × List Value × Pl × CZ) (fun g => WI yL [13, 7] [i0, i1, i2, i3] (TxL.cells { t with kind := ((1 : Nat) : Int) }) z3 g.1 g.2.1 g.2.2.1 g.2.2.2) (fun g => [(0, Kj r), (1, .pointer (some ⟨q, pre.length, none⟩)), (5, .func (.func 343) #[] #[Kj r4]), (60, .slice (some ⟨rw, 0, none⟩) 2 2), (61, .int .i64 ((2 : Nat) : Int)), (62, .int .i64 (g.1 : Int))]) (fun g => (rw, .cells #[.pointer (some ⟨q, pre.length + 13, none⟩), .pointer (some ⟨q, pre.length + 7, none⟩)] 450 (0, 0)) :: Kf r s g.2.2.2 :: yC r4 ([i0, i1, i2, i3].drop g.1).length g.2.2.1 :: (q, .cells (pre ++ (g.2.1 ++ post)).toArray 33 (0, 0)) :: yL) (fun _ _ _ => True) (fun g => 2 - g.1) (0, (TxL.cells { t with kind := ((1 : Nat) : Int) }), p, z3) ⟨Z', TxL.len _, hls0, rfl⟩ (lK rfl) (T') (fun _ _ h => h) ?_; rintro ⟨j, a, pj, zj⟩ hW; simp only at hW
         have hj1 : j ≤ 2 := hW.le
         change HC _ _ _ ((rw, .cells #[.pointer (some ⟨q, pre.length + 13, none⟩), .pointer (some ⟨q, pre.length + 7, none⟩)] 450 (0, 0)) :: Kf r s zj :: yC r4 ([i0, i1, i2, i3].drop j).length pj :: (q, .cells (pre ++ (a ++ post)).toArray 33 (0, 0)) :: yL) _ _ _; refine gv ?_; refine Jl O (fun h15 => ?_) (fun h15 => ?_)
         · try simp only [ZZ] at h15
           refine Hu ?_
           obtain ⟨y, rj, hd⟩ : ∃ y rj, [i0, i1, i2, i3].drop j = y :: rj := by
             obtain rfl | rfl := (by omega : j = 0 ∨ j = 1)
             exact DY
             exact DY
           obtain ⟨kj, wr, hw, hk36⟩ : ∃ kj wr, ([13, 7] : List Nat).drop j = kj :: wr ∧ kj + 4 ≤ 36 := by
             obtain rfl | rfl := (by omega : j = 0 ∨ j = 1)
             exact Hv
             exact Hv
           have hd1 : [i0, i1, i2, i3].drop (j + 1) = rj := by rw [← List.tail_drop, hd]; rfl
           have hw1 : ([13, 7] : List Nat).drop (j + 1) = wr := by rw [← List.tail_drop, hw]; rfl
           have hsg := hW.seg
           have hyl : (y :: rj).length ≤ 1000000 := by rw [← hd, List.length_drop]; omega
           rw [hd] at hsg; rw [hd]
           have hwj : X3 (#[.pointer (some ⟨q, pre.length + 13, none⟩), .pointer (some ⟨q, pre.length + 7, none⟩)] : Array Value).toList (0 + j * 1) = some (.pointer (some ⟨q, pre.length + kj, none⟩)) := by
             obtain rfl | rfl := (by omega : j = 0 ∨ j = 1)
             exact GD
             exact GD
           refine gJ ?_; refine Jx (T := [yC r4 (y :: rj).length pj]) (L0 := _) (Rl := yL) (List.perm_middle (l₁ := [_, _])) O O O qQ (XK hsg hyl) (fun q hq => Or.inl (M' (M' (M' hq)))) fun _ => Gd fun r9 => ?_; refine Jx (T := [Kf r s zj]) (L0 := _) (Rl := []) (List.perm_middle (l₁ := [_, _, _])) O O O Xo (Vs r s zj (Jn y.er).2) oN fun _ => kV ?_; exact NF
         · try simp only [ZZ] at h15
           refine gv ?_
           have hE := hW.eq
           have hjm : j = 2 := by omega
           subst hjm
           have hE1 : a = ({ t with kind := ((1 : Nat) : Int), value := (Jn i0.er).1, price := (Jn i1.er).1 } : TxL).cells := (congrArg Prod.fst hE).symm.trans rfl
           have hE2 : zj = JE (JE z3 (Jn i0.er).2) (Jn i1.er).2 := (congrArg Prod.snd hE).symm.trans rfl
           subst hE1
           have hsg : Seg yL [i2, i3].length (Kq [i2, i3]) pj := hW.seg
           refine NG ?_; refine Jx (T := [yC r4 (i2 :: [i3]).length pj]) (L0 := _) (Rl := yL) (List.perm_middle (l₁ := [_, _])) O O O qQ (XK hsg mf) (fun q hq => Or.inl (M' (M' (M' hq)))) fun _ => Ju O O O Jft (WB (R := []) i2 0 (4096 : Nat)) oN (DN ?_); refine Jx (T := [Kf r s zj]) (L0 := _) (Rl := []) (List.perm_middle (l₁ := [_, _])) O O O Xo (Vs r s zj (Js i2.er 0 (4096 : Nat)).2) oN fun _ => DR ?_; refine Jm (k := 3) (cs' := (pre ++ (({ t with kind := ((1 : Nat) : Int), value := (Jn i0.er).1, price := (Jn i1.er).1, data := (Js i2.er 0 (4096 : Nat)).1 } : TxL).cells ++ post)).toArray) rfl rfl rfl rfl rfl rfl (Vy (a := ({ t with kind := ((1 : Nat) : Int), value := (Jn i0.er).1, price := (Jn i1.er).1 } : TxL).cells) (k := 17) mn) rfl (Wb (a := ({ t with kind := ((1 : Nat) : Int), value := (Jn i0.er).1, price := (Jn i1.er).1 } : TxL).cells) (k := 17) mn) rfl (gp ?_); refine gZ ?_; refine LR O (Jc (v := .int .i64 ((1 : Nat) : Int)) O (kn 3 O) O mQ) (NQ ?_); refine Jl O (fun h24 => ?_) (fun h24 => ?_)
           · try simp only [ZZ] at h24
             refine gw ?_
             obtain ⟨z7, hz7⟩ : ∃ z7, JE zj (Js i2.er 0 (4096 : Nat)).2 = z7 := ⟨_, rfl⟩
             rw [hz7]; refine Jx (T := [yC r4 (i3 :: []).length (JU 3 1 pj)]) (L0 := _) (Rl := yL) (P') O O O qQ (XK (Jd hsg) mf) (fun q hq => Or.inl (M' (M' (M' hq)))) fun _ => Jx (T := [Kf r s z7]) (L0 := yC r4 _ _ :: (rw, .cells #[.pointer (some ⟨q, pre.length + 13, none⟩), .pointer (some ⟨q, pre.length + 7, none⟩)] 450 (0, 0)) :: (q, .cells (pre ++ (({ t with kind := ((1 : Nat) : Int), value := (Jn i0.er).1, price := (Jn i1.er).1, data := (Js i2.er 0 (4096 : Nat)).1 } : TxL).cells ++ post)).toArray 33 (0, 0)) :: yL) (Rl := yL) (P') rfl rfl rfl (enters_of Tryz.func344 m4 rfl) (xi (r := r) (s := s) (z := z7) hiacc) (fun q hq => Or.inl (M' (M' (M' hq)))) fun y => J4 (show _ = Km y.ys.length (Ke y.row) from KK y.ok) (JY ((B' (l₁ := y.L)).cons _) ?_); change HL _ _ _ (Kf r s (YY i3.er z7).2 :: yC r4 _ _ :: (rw, .cells #[.pointer (some ⟨q, pre.length + 13, none⟩), .pointer (some ⟨q, pre.length + 7, none⟩)] 450 (0, 0)) :: (q, .cells (pre ++ (({ t with kind := ((1 : Nat) : Int), value := (Jn i0.er).1, price := (Jn i1.er).1, data := (Js i2.er 0 (4096 : Nat)).1 } : TxL).cells ++ post)).toArray 33 (0, 0)) :: (yL ++ y.L)) _ _ _ _; refine KC O (LR O (Ja (off' := pre.length + 18) O O O) ?_); refine Jm (k := 3) (cs' := (pre ++ (({ t with kind := ((1 : Nat) : Int), value := (Jn i0.er).1, price := (Jn i1.er).1, data := (Js i2.er 0 (4096 : Nat)).1, accP := Ke y.row, acc := y.ys } : TxL).cells ++ post)).toArray) rfl rfl rfl rfl rfl rfl (Vy (a := ({ t with kind := ((1 : Nat) : Int), value := (Jn i0.er).1, price := (Jn i1.er).1, data := (Js i2.er 0 (4096 : Nat)).1 } : TxL).cells) (k := 18) mn) rfl (Wb (a := ({ t with kind := ((1 : Nat) : Int), value := (Jn i0.er).1, price := (Jn i1.er).1, data := (Js i2.er 0 (4096 : Nat)).1 } : TxL).cells) (k := 18) mn) rfl (JD 1 rfl (Gy fun w1 hs1 => ?_))
             (have hC := Jvh t.er hkk hz1 hz2 hz3 hz30 hitx (z7 := z7) (by rw [← hz7, hE2])
              rw [hC]
              exact ⟨⟨({ t with kind := ((1 : Nat) : Int), value := (Jn i0.er).1, price := (Jn i1.er).1, data := (Js i2.er 0 (4096 : Nat)).1, accP := Ke y.row, acc := y.ys } : TxL), y.L, ⟨⟨ht.ok.chain, ht.ok.nonce, ht.ok.tip, Qz _, ht.ok.gas, Qz _, ht.ok.auths, ht.ok.y, ht.ok.r, ht.ok.s, ht.ok.mint⟩, ht.dest, Lb' (VG i2.er) m7, ht.source, ht.from_, (by show y.ys.length ≤ _; have h := congrArg List.length y.er; rw [D'] at h; have h2 := Jeh i3.er z7; rw [ItL.er_xs, D'] at h2; have h3 := hiacc.hl; omega), (Ks (e := 175) y.ok m7).mono y.hr, y.hx, ht.auL, ht.auS.mono oN, ht.au⟩, congrArg (fun l => ({ t.er with kind := ((1 : Nat) : Int), value := (Jn i0.er).1, price := (Jn i1.er).1, data := (Js i2.er 0 (4096 : Nat)).1, access := l } : TxE)) y.er⟩, rfl, hs1.weakL (.cons_cons _ (.cons _ (.cons _ (.cons_cons _ (List.sublist_append_right _ _)))))⟩)
           exact absurd h24 (m7)
   · refine wh 6 O ?_
     refine Gt ?_; refine Jl O (fun h5 => ?_) (fun h5 => ?_)
     try simp only [ZZ] at h5
     refine KF 2 O (Jh O O .nil (fun w1 hs1 => ?_))
     (have hC := qA t.er hkk hz1 hz2 hz3 m3
      rw [hC]
      exact ⟨⟨({ t with kind := ((2 : Nat) : Int) } : TxL), [], ⟨⟨ht.ok.chain, ht.ok.nonce, ht.ok.tip, ht.ok.price, ht.ok.gas, ht.ok.value, ht.ok.auths, ht.ok.y, ht.ok.r, ht.ok.s, ht.ok.mint⟩, ht.dest, ht.data, ht.source, ht.from_, ht.accL, ht.accS, ht.acc, ht.auL, ht.auS, ht.au⟩, rfl⟩, rfl, hs1.weakL (.cons_cons _ (.cons _ (.cons_cons _ (S'))))⟩)
     · try simp only [ZZ] at h5
       refine D5 ?_
       have hz30 : z3.2 = 0 := by omega
       have hlen : ls.length = 5 := by
         have h1 := QC (vM (it := it) (lo := 3 + ((2 : Nat) : Int)) (hi := 3 + ((2 : Nat) : Int)) (z := z2) MM).2
         exact GW
       rw [if_pos hz30] at hler
       obtain ⟨i0, i1, i2, i3, i4, rfl⟩ : ∃ i0 i1 i2 i3 i4, ls = [i0, i1, i2, i3, i4] := by
         match ls, hlen with
         | [i0, i1, i2, i3, i4], _ => exact ⟨i0, i1, i2, i3, i4, rfl⟩
       have hitx : it.xs = [i0.er, i1.er, i2.er, i3.er, i4.er] := hler.symm
       have hiacc : i4.In yL := hlin _ mf
       refine HI ?_; refine NR ?_; refine Fb ?_; refine JO (n := 2) (sz := 1) (vs := [_, _]) (zs := [_, _]) (r := [_, _]) O O O O O O O O O me O fun rv => J5 8 O (gZ ?_); refine LR O (Jc (v := .int .i64 ((2 : Nat) : Int)) O (kn 3 O) O mQ) (NQ ?_); refine Jl O (fun h10 => ?_) (fun h10 => ?_)
       · try simp only [ZZ] at h10
         refine KB 9 m4 m4 (N0 ?_); refine Jt O O O (Ja (off' := pre.length + 13) O O O) (N0 ?_); refine Jt O O O (Ja (off' := pre.length + 3) O O O) (N0 ?_); refine Jt O O O (Ja (off' := pre.length + 7) O O O) (KR (JO (n := 3) (sz := 1) (vs := [_, _, _]) (zs := [_, _, _]) (r := [_, _, _]) O O O O O O O O O me O fun rw => g8 ?_)); refine EQ ?_; refine JQ (σ := Nat × List Value × Pl × CZ) (fun g => WI yL [13, 3, 7] [i0, i1, i2, i3, i4] (TxL.cells { t with kind := ((2 : Nat) : Int) }) z3 g.1 g.2.1 g.2.2.1 g.2.2.2) (fun g => [(0, Kj r), (1, .pointer (some ⟨q, pre.length, none⟩)), (5, .func (.func 343) #[] #[Kj r4]), (60, .slice (some ⟨rw, 0, none⟩) 3 3), (61, .int .i64 ((3 : Nat) : Int)), (62, .int .i64 (g.1 : Int))]) (fun g => (rw, .cells #[.pointer (some ⟨q, pre.length + 13, none⟩), .pointer (some ⟨q, pre.length + 3, none⟩), .pointer (some ⟨q, pre.length + 7, none⟩)] 450 (0, 0)) :: (rv, .cells #[.pointer (some ⟨q, pre.length + 13, none⟩), .pointer (some ⟨q, pre.length + 7, none⟩)] 450 (0, 0)) :: Kf r s g.2.2.2 :: yC r4 ([i0, i1, i2, i3, i4].drop g.1).length g.2.2.1 :: (q, .cells (pre ++ (g.2.1 ++ post)).toArray 33 (0, 0)) :: yL) (fun _ _ _ => True) (fun g => 3 - g.1) (0, (TxL.cells { t with kind := ((2 : Nat) : Int) }), p, z3) ⟨Z', TxL.len _, hls0, rfl⟩ (lK rfl) (T') (fun _ _ h => h) ?_; rintro ⟨j, a, pj, zj⟩ hW; simp only at hW
         have hj1 : j ≤ 3 := hW.le
         change HC _ _ _ ((rw, .cells #[.pointer (some ⟨q, pre.length + 13, none⟩), .pointer (some ⟨q, pre.length + 3, none⟩), .pointer (some ⟨q, pre.length + 7, none⟩)] 450 (0, 0)) :: (rv, .cells #[.pointer (some ⟨q, pre.length + 13, none⟩), .pointer (some ⟨q, pre.length + 7, none⟩)] 450 (0, 0)) :: Kf r s zj :: yC r4 ([i0, i1, i2, i3, i4].drop j).length pj :: (q, .cells (pre ++ (a ++ post)).toArray 33 (0, 0)) :: yL) _ _ _; refine gv ?_; refine Jl O (fun h15 => ?_) (fun h15 => ?_)
         · try simp only [ZZ] at h15
           refine Hu ?_
           obtain ⟨y, rj, hd⟩ : ∃ y rj, [i0, i1, i2, i3, i4].drop j = y :: rj := by
             obtain rfl | rfl | rfl := (by omega : j = 0 ∨ j = 1 ∨ j = 2)
             exact DY
             exact DY
             exact DY
           obtain ⟨kj, wr, hw, hk36⟩ : ∃ kj wr, ([13, 3, 7] : List Nat).drop j = kj :: wr ∧ kj + 4 ≤ 36 := by
             obtain rfl | rfl | rfl := (by omega : j = 0 ∨ j = 1 ∨ j = 2)
             exact Hv
             exact Hv
             exact Hv
           have hd1 : [i0, i1, i2, i3, i4].drop (j + 1) = rj := by rw [← List.tail_drop, hd]; rfl
           have hw1 : ([13, 3, 7] : List Nat).drop (j + 1) = wr := by rw [← List.tail_drop, hw]; rfl
           have hsg := hW.seg
           have hyl : (y :: rj).length ≤ 1000000 := by rw [← hd, List.length_drop]; omega
           rw [hd] at hsg; rw [hd]
           have hwj : X3 (#[.pointer (some ⟨q, pre.length + 13, none⟩), .pointer (some ⟨q, pre.length + 3, none⟩), .pointer (some ⟨q, pre.length + 7, none⟩)] : Array Value).toList (0 + j * 1) = some (.pointer (some ⟨q, pre.length + kj, none⟩)) := by
             obtain rfl | rfl | rfl := (by omega : j = 0 ∨ j = 1 ∨ j = 2)
             exact GD
             exact GD
             exact GD
           refine gJ ?_; refine Jx (T := [yC r4 (y :: rj).length pj]) (L0 := _) (Rl := yL) (List.perm_middle (l₁ := [_, _, _])) O O O qQ (XK hsg hyl) (fun q hq => Or.inl (M' (M' (M' (M' hq))))) fun _ => Gd fun r9 => ?_; refine Jx (T := [Kf r s zj]) (L0 := _) (Rl := []) (List.perm_middle (l₁ := [_, _, _, _])) O O O Xo (Vs r s zj (Jn y.er).2) oN fun _ => kV ?_; refine LR O (Ji (xs := wC (Jn y.er).1) (n := 4) O (kn 1 O) O O O) (GV ?_); refine J2 (k := 5) (n := 4) (cs' := (pre ++ ((a.take kj ++ wC (Jn y.er).1 ++ a.drop (kj + 4)) ++ post)).toArray) (vs := (wC (Jn y.er).1).toArray) O O O O O O O (yn nV) (jT nV) O (kB ?_); refine J4 mm (Nd ?_); refine Wy (A := [_, _, _, _, _, _]) (A' := [_, _, _, _, _]) [3, 4, 0, 2, 5] m7 O ?_; exact JL (j + 1, a.take kj ++ wC (Jn y.er).1 ++ a.drop (kj + 4), JU 3 1 pj, JE zj (Jn y.er).2) ⟨by show j + 1 ≤ 3; omega, by simp only [C', List.length_take, List.length_drop, hW.len]; show min kj 36 + 4 + _ = 36; omega, by rw [hd1]; exact Jd hsg, by rw [hW.eq, hd, hw, hd1, hw1]; rfl⟩ mj (lK rfl) Mb (fun _ _ h => h)
         · try simp only [ZZ] at h15
           refine gv ?_
           have hE := hW.eq
           have hjm : j = 3 := by omega
           subst hjm
           have hE1 : a = ({ t with kind := ((2 : Nat) : Int), value := (Jn i0.er).1, tip := (Jn i1.er).1, price := (Jn i2.er).1 } : TxL).cells := (congrArg Prod.fst hE).symm.trans rfl
           have hE2 : zj = JE (JE (JE z3 (Jn i0.er).2) (Jn i1.er).2) (Jn i2.er).2 := (congrArg Prod.snd hE).symm.trans rfl
           subst hE1
           have hsg : Seg yL [i3, i4].length (Kq [i3, i4]) pj := hW.seg
           refine NG ?_; refine Jx (T := [yC r4 (i3 :: [i4]).length pj]) (L0 := _) (Rl := yL) (List.perm_middle (l₁ := [_, _, _])) O O O qQ (XK hsg mf) (fun q hq => Or.inl (M' (M' (M' (M' hq))))) fun _ => Ju O O O Jft (WB (R := []) i3 0 (4096 : Nat)) oN (DN ?_); refine Jx (T := [Kf r s zj]) (L0 := _) (Rl := []) (List.perm_middle (l₁ := [_, _, _])) O O O Xo (Vs r s zj (Js i3.er 0 (4096 : Nat)).2) oN fun _ => DR ?_; refine Jm (k := 4) (cs' := (pre ++ (({ t with kind := ((2 : Nat) : Int), value := (Jn i0.er).1, tip := (Jn i1.er).1, price := (Jn i2.er).1, data := (Js i3.er 0 (4096 : Nat)).1 } : TxL).cells ++ post)).toArray) rfl rfl rfl rfl rfl rfl (Vy (a := ({ t with kind := ((2 : Nat) : Int), value := (Jn i0.er).1, tip := (Jn i1.er).1, price := (Jn i2.er).1 } : TxL).cells) (k := 17) mn) rfl (Wb (a := ({ t with kind := ((2 : Nat) : Int), value := (Jn i0.er).1, tip := (Jn i1.er).1, price := (Jn i2.er).1 } : TxL).cells) (k := 17) mn) rfl (gp ?_); refine gZ ?_; refine LR O (Jc (v := .int .i64 ((2 : Nat) : Int)) O (kn 4 O) O mQ) (NQ ?_); refine Jl O (fun h24 => ?_) (fun h24 => ?_)
           · try simp only [ZZ] at h24
             refine gw ?_
             obtain ⟨z7, hz7⟩ : ∃ z7, JE zj (Js i3.er 0 (4096 : Nat)).2 = z7 := ⟨_, rfl⟩
             rw [hz7]; refine Jx (T := [yC r4 (i4 :: []).length (JU 3 1 pj)]) (L0 := _) (Rl := yL) (P') O O O qQ (XK (Jd hsg) mf) (fun q hq => Or.inl (M' (M' (M' (M' hq))))) fun _ => Jx (T := [Kf r s z7]) (L0 := yC r4 _ _ :: (rw, .cells #[.pointer (some ⟨q, pre.length + 13, none⟩), .pointer (some ⟨q, pre.length + 3, none⟩), .pointer (some ⟨q, pre.length + 7, none⟩)] 450 (0, 0)) :: (rv, .cells #[.pointer (some ⟨q, pre.length + 13, none⟩), .pointer (some ⟨q, pre.length + 7, none⟩)] 450 (0, 0)) :: (q, .cells (pre ++ (({ t with kind := ((2 : Nat) : Int), value := (Jn i0.er).1, tip := (Jn i1.er).1, price := (Jn i2.er).1, data := (Js i3.er 0 (4096 : Nat)).1 } : TxL).cells ++ post)).toArray 33 (0, 0)) :: yL) (Rl := yL) (P') rfl rfl rfl (enters_of Tryz.func344 m4 rfl) (xi (r := r) (s := s) (z := z7) hiacc) (fun q hq => Or.inl (M' (M' (M' (M' hq))))) fun y => J4 (show _ = Km y.ys.length (Ke y.row) from KK y.ok) (JY ((B' (l₁ := y.L)).cons _) ?_); change HL _ _ _ (Kf r s (YY i4.er z7).2 :: yC r4 _ _ :: (rw, .cells #[.pointer (some ⟨q, pre.length + 13, none⟩), .pointer (some ⟨q, pre.length + 3, none⟩), .pointer (some ⟨q, pre.length + 7, none⟩)] 450 (0, 0)) :: (rv, .cells #[.pointer (some ⟨q, pre.length + 13, none⟩), .pointer (some ⟨q, pre.length + 7, none⟩)] 450 (0, 0)) :: (q, .cells (pre ++ (({ t with kind := ((2 : Nat) : Int), value := (Jn i0.er).1, tip := (Jn i1.er).1, price := (Jn i2.er).1, data := (Js i3.er 0 (4096 : Nat)).1 } : TxL).cells ++ post)).toArray 33 (0, 0)) :: (yL ++ y.L)) _ _ _ _; refine KC O (LR O (Ja (off' := pre.length + 18) O O O) ?_); refine Jm (k := 4) (cs' := (pre ++ (({ t with kind := ((2 : Nat) : Int), value := (Jn i0.er).1, tip := (Jn i1.er).1, price := (Jn i2.er).1, data := (Js i3.er 0 (4096 : Nat)).1, accP := Ke y.row, acc := y.ys } : TxL).cells ++ post)).toArray) rfl rfl rfl rfl rfl rfl (Vy (a := ({ t with kind := ((2 : Nat) : Int), value := (Jn i0.er).1, tip := (Jn i1.er).1, price := (Jn i2.er).1, data := (Js i3.er 0 (4096 : Nat)).1 } : TxL).cells) (k := 18) mn) rfl (Wb (a := ({ t with kind := ((2 : Nat) : Int), value := (Jn i0.er).1, tip := (Jn i1.er).1, price := (Jn i2.er).1, data := (Js i3.er 0 (4096 : Nat)).1 } : TxL).cells) (k := 18) mn) rfl (JD 1 rfl (Gy fun w1 hs1 => ?_))
             (have hC := Jvf t.er hkk hz1 hz2 hz3 hz30 hitx (z7 := z7) (by rw [← hz7, hE2])
              rw [hC]
              exact ⟨⟨({ t with kind := ((2 : Nat) : Int), value := (Jn i0.er).1, tip := (Jn i1.er).1, price := (Jn i2.er).1, data := (Js i3.er 0 (4096 : Nat)).1, accP := Ke y.row, acc := y.ys } : TxL), y.L, ⟨⟨ht.ok.chain, ht.ok.nonce, Qz _, Qz _, ht.ok.gas, Qz _, ht.ok.auths, ht.ok.y, ht.ok.r, ht.ok.s, ht.ok.mint⟩, ht.dest, Lb' (VG i3.er) m7, ht.source, ht.from_, (by show y.ys.length ≤ _; have h := congrArg List.length y.er; rw [D'] at h; have h2 := Jeh i4.er z7; rw [ItL.er_xs, D'] at h2; have h3 := hiacc.hl; omega), (Ks (e := 175) y.ok m7).mono y.hr, y.hx, ht.auL, ht.auS.mono oN, ht.au⟩, congrArg (fun l => ({ t.er with kind := ((2 : Nat) : Int), value := (Jn i0.er).1, tip := (Jn i1.er).1, price := (Jn i2.er).1, data := (Js i3.er 0 (4096 : Nat)).1, access := l } : TxE)) y.er⟩, rfl, hs1.weakL (.cons_cons _ (.cons _ (.cons _ (.cons _ (.cons_cons _ (List.sublist_append_right _ _))))))⟩)
           exact absurd h24 (m7)
       exact absurd h10 (m7)
   skip)
end Go.Proofs.YtckoepmdmhdepaaGreatDoor
namespace Go.SL
set_option linter.all false
open Go Go.RowKit Go.Shelf
open Go.Proofs (Enters enters_of)
variable {a : Act} {af : Array Edge} {ops : Array Oper} {c : Cx} {Q : Exit → Act → World → Prop} {z : Int} {L L' : J3} {d : List Deferred} {rest : List Oper} {zs : List Value} {i j r sz : Nat} {x y : Operand} {gd : Option (Nat × Bool)} {P : Program} {ps : String} {α : Type} {e t ty : TypeId} {w : World} {X : XP} {V : α → Value} {X' : α → XP}
theorem jU {zs : List Value} {sz : Nat} (h : zs.length = sz) : ∀ (n j : Nat), j < n * sz → (List.replicate n zs).flatten[j]? = zs[j % sz]?
 | 0, j, hj => by omega
 | n + 1, j, hj => by
  rw [List.replicate_succ, List.flatten_cons]
  by_cases hlt : j < sz
  ·rw [List.getElem?_append_left m3, Nat.mod_eq_of_lt hlt]
  ·rw [List.getElem?_append_right m3, h, jU h n (j - sz) (by rw [Nat.succ_mul] at hj; omega), ← Nat.mod_eq_sub_mod m3]
theorem Jbd (h : zs.length = sz) (n : Nat) : (List.replicate n zs).flatten.length = n * sz := by
 rw [List.length_flatten, List.map_replicate, h, List.sum_replicate_nat]
theorem Jll {z : Array Value} (h1 : z.toList = zs) (h2 : z.size = sz) (n : Nat) : madeCells z (n * sz) = (List.replicate n zs).flatten.toArray := by
 have hl : zs.length = sz := by rw [← h1, ← h2]; simp
 apply Array.toList_inj.1
 apply List.ext_getElem?
 intro j; simp only [madeCells, Array.toList_map, Array.toList_range, List.getElem?_map]
 by_cases h : j < n * sz
 ·have hs : 0 < sz := by
   rcases Nat.eq_zero_or_pos sz with h0 | h0
   ·rw [h0, Nat.mul_zero] at h; omega
   ·exact h0
  have hm := Nat.mod_lt j hs
  rw [List.getElem?_range h, jU hl n j h, h2, List.getElem?_eq_getElem m3]; subst h1
  simp [h2, hm]
 ·rw [List.getElem?_eq_none mL, List.getElem?_eq_none (by rw [Jbd hl]; omega)]; rfl
section
variable {c : Cx} {l : KY} {L : J3} {X : XP} {Q : Exit → Act → World → Prop} {d : List Deferred}
variable {ops : Array Oper} {rest : List Oper} {i : Nat} {t : TypeId} {ps : String} {af : Array Edge} {gd : Option (Nat × Bool)} {ty : TypeId}
theorem Jq4  {e b n : Nat} {z : Value} {kx ky : IntKind} (hg : KW l ops ⟨some i, .makeSlice t x y, ty, ps, af, gd⟩ = some true) (hi : Nat.ble (i + 1) c.n = true)
  (hx : KU l x = some (.int kx (n : Int))) (hy : KU l y = some (.int ky (n : Int))) (ht : Q5 c.P t = some e) (hz : Vo c.P e = some z) (hs : Q9 c.P e = some sz) (hb : Je6 c.P e = some b) (hzs : z.cells.toList = zs) (hsz : z.cells.size = sz)
  (h48 : b * n ≤ 281474976710656) (h63 : n ≤ 9223372036854775807)
  (h : ∀ r, HL c d ((i, .slice (some ⟨r, 0, none⟩) n n) :: l) ((r, .cells (List.replicate n zs).flatten.toArray e (0, 0)) :: L) X ops rest Q) : HL c d l L X ops (⟨some i, .makeSlice t x y, ty, ps, af, gd⟩ :: rest) Q := by
 obtain ⟨inf, hinf, hz', hs', hb'⟩ := vu hz hs hb
 refine WE (V := fun r => .slice (some ⟨r, 0, none⟩) n n) (L' := fun r => (r, .cells (List.replicate n zs).flatten.toArray e (0, 0)) :: L) (X' := fun _ => X) hg O O hi (fun a w hf hst => ?_) h; refine ⟨w.heap.size, w.alloc (.cells (List.replicate n zs).flatten.toArray e), ?_, hst.alloc _⟩
 have hr := run_make (P := c.P) w t e inf z (Qg ht) hinf hz' kx ky n n m3 m3 Mf m3
 simp only [Int.toNat_natCast] at hr; rw [hs', Jll hzs hsz] at hr; refine HZ ?_; rw [hf.eval hx, hf.eval hy, hr]
 rfl
end
end Go.SL
namespace Go.Proofs.YtckoepmdmhdepaaGreatDoor
open Go.SL Go.RowKit Go.Shelf
open Go.Proofs (Enters enters_of)
variable {at_ : Array TypeId} {s : BS} {z : CZ} {g : FuncId} {it : It} {x y : ItL} {acc : List AxE} {ts : List Nat} {a ch r : Nat} {t : TxL} {c : UInt8}
theorem yo {s : BS} : ∀ (n : Nat) (acc : List Nat) (a : Nat), (W5 s n acc a).2.2 = 0 → (W5 s n acc a).1.length = acc.length + n
 | 0, acc, a, _ => rfl
 | n + 1, acc, a, h => by
  rw [W5] at h ⊢
  by_cases h0 : (KO s a).2.2 ≠ 0
  ·rw [if_pos h0] at h; exact absurd h h0
  ·rw [if_neg h0] at h ⊢
   rw [yo n _ _ h, C', List.length_singleton]; omega
theorem Jbe {s : BS} : ∀ (n : Nat) (acc : List Nat) (a : Nat), (∀ x ∈ acc, VL x) → ∀ x ∈ (W5 s n acc a).1, VL x
 | 0, acc, a, h => h
 | n + 1, acc, a, h => by
  rw [W5]
  split
  ·intro x hx; cases hx
  ·exact Jbe n _ _ fun x hx => (G'.1 hx).elim (h x) fun h2 => by rw [U'.1 h2]; exact Jai s a
theorem Jbf {s : BS} : ∀ (n : Nat) (acc : List Nat) (a : Nat), a ≤ s.length → (W5 s n acc a).2.1 ≤ s.length
 | 0, acc, a, h => h
 | n + 1, acc, a, h => by
  rw [W5]
  split
  ·exact Z'
  ·rename_i h0; exact Jbf n _ _ (jc m3).2.2.2.1
theorem ZA (s : BS) (n : Nat) (z : CZ) : (VX s n z).1.length = n := by
 unfold VX
 split
 ·exact EV
 ·rename_i h
  simp only []
  split
  ·exact EV
  ·rename_i h2
   show (W5 s n [] z.1).1.length = n
   rw [yo n [] z.1 (by unfold JE at h2; rw [if_pos m3] at h2; omega)]; exact Nat.zero_add n
theorem Jjh (s : BS) (n : Nat) (z : CZ) : ∀ x ∈ (VX s n z).1, VL x := by
 have h0 : ∀ x ∈ List.replicate n 0, VL x := fun x hx => by rw [List.eq_of_mem_replicate hx]; exact QS
 unfold VX
 split
 ·exact h0
 ·simp only []
  split
  ·exact h0
  ·exact Jbe n [] z.1 fun x hx => by cases hx
theorem Jei {n : Nat} (h : z.1 ≤ s.length) : (VX s n z).2.1 ≤ s.length := by
 unfold VX
 split
 ·exact h
 ·simp only []
  split
  ·rw [Qt]; exact h
  ·exact Jbf n [] z.1 h
theorem Yx {n : Nat} (hz : z.1 ≤ s.length) : (VO s n z).1.length = n := by
 unfold VO
 simp only []
 split
 ·exact EV
 ·rename_i h1
  split
  ·exact EV
  ·rename_i h2
   have h3 := (q7 (n := Ve n) hz (by simpa using h1)).2.1
   have h4 : (Vi (KN s (Ve n) z).1.1 n).2 = 0 := by
    unfold JE at h2
    rw [h3, if_pos rfl] at h2
    simpa using h2
   show (Vi (KN s (Ve n) z).1.1 n).1.length = n
   unfold Vi at h4 ⊢
   split at h4
   ·cases h4
   ·rename_i a1
    rw [if_neg a1]
    split at h4
    ·cases h4
    ·rename_i a2
     rw [if_neg a2]
     split at h4
     ·cases h4
     ·rename_i a3
      rw [if_neg a3]; exact jQ _ _
theorem jV {n : Nat} (hz : z.1 ≤ s.length) : (VO s n z).2.1 ≤ s.length := by
 have h := Vx (n := Ve n) hz
 unfold VO
 simp only []
 split
 ·exact h
 ·split
  ·rw [Qt]; exact h
  ·rw [Qt]; exact h
theorem Jji : ∀ (xs : List It) (acc : List AxE) (z : CZ), (XJ xs acc z).2.1 = z.1
 | [], acc, z => rfl
 | x :: r, acc, z => by
  have e1 : ∀ (it : It) (n : Nat) (z : CZ), (Xs it n z).1 = z.1 := fun it n z => by unfold Xs; split; exact Qt _ _; rfl
  have e2 : ∀ (ks : List It) (z : CZ), (qW 32 ks z).1 = z.1 := fun ks => by
   unfold qW
   induction ks with
   | nil => intro z; rfl
   | cons k r ih => intro z; rw [List.foldl_cons, ih, e1]
  rw [XJ]; simp only []
  split
  ·exact XV _ _ _ _
  ·rw [Jji r]
   split
   ·rw [e2, XV, e1, XV]
   ·rw [XV, e1, XV]
theorem Jza (it : It) (z : CZ) : (YY it z).2.1 = z.1 := by
 unfold YY
 split
 ·rw [Jji, XV]
 ·exact XV _ _ _ _
theorem Jq5 (t : TxE) (h : z.1 ≤ s.length) : (Xv s z t).2.1 ≤ s.length := by
 have h1 := Jq3 (Jeg h)
 unfold Xv
 simp only []
 split
 ·rw [XV]; exact h1
 ·have h7 : ∀ (o : Bool) (a b c d : Int), (JE (JE (if o = true then JE (JE (V4 (Wk s (Vg s z).2).1 (3 + (Vg s z).1) (3 + (Vg s z).1) (Wk s (Vg s z).2).2) a) b else JE (V4 (Wk s (Vg s z).2).1 (3 + (Vg s z).1) (3 + (Vg s z).1) (Wk s (Vg s z).2).2) a) c) d).1 ≤ s.length := fun o a b c d => by
   rw [Qt, Qt]
   split
   ·rw [Qt, Qt, XV]; exact h1
   ·rw [Qt, XV]; exact h1
  have h8 := h7 (decide ((Vg s z).1 = 2))
  simp only [decide_eq_true_eq] at h8
  split
  ·exact h8 _ _ _ _
  ·rw [Jza]; exact h8 _ _ _ _
theorem Jej (h : z.1 ≤ s.length) : (XH s z).2.1 ≤ s.length := Vx h
def Jq6 (w1 w2 : W4) (y : Bool) (dest : BS) : TxE := { tx0 with r := w1, s := w2, y := if y = true then 1 else 0, dest := dest }
def Yy (none_ : Bool) (tos : BS) : BS := if none_ = false ∧ 20 ≤ tos.length then tos.take 20 else []
def Jgs (none_ : Bool) (tos : BS) : BS := if none_ = false ∧ 20 ≤ tos.length then tos.drop 20 else tos
def cL1 (s sg : BS) : List (Bool × Bool) → List TxE → CZ → BS → CZ → Nat → List TxE × CZ × Nat
 | [], acc, _, _, z, k => (acc, z, k)
 | (no, y) :: r, acc, zs, tos, z, k =>
  let t := Xv s z (Jq6 (XH sg zs).1 (XH sg (XH sg zs).2).1 y (Yy no tos))
  cL1 s sg r (acc ++ [t.1]) (XH sg (XH sg zs).2).2 (Jgs no tos) t.2 (if t.1.kind = 0 then k + 1 else k)
def yD (ch : Nat) : List TxE → List Nat → List Nat → List Bool → List TxE
 | t :: ts, a :: an, g :: gs, c => { t with nonce := a, gas := g, chain := if t.kind = 0 ∧ c.headD true = false then 0 else ch } :: yD ch ts an gs (if t.kind = 0 then c.tail else c)
 | _, _, _, _ => []
def jm (s : BS) (at_ n ch : Nat) : List TxE × Nat × Int :=
 let b1 := VO s n (at_, 0)
 let b2 := VO s n b1.2
 let sg := KN s (64 * n) b2.2
 let tos := KN s (20 * (n - b1.1.count true)) sg.2
 let l1 := cL1 s sg.1.1 (b1.1.zip b2.1) [] (0, 0) tos.1.1 tos.2 0
 let m1 := VX s n l1.2.1
 let m2 := VX s n m1.2
 let b3 := VO s l1.2.2 m2.2
 let ts := yD ch l1.1 m1.1 m2.1 b3.1
 if b3.2.2 ≠ 0 then ([], 0, b3.2.2) else if YW ch ts ≠ 0 then ([], 0, YW ch ts) else (ts, b3.2.1, 0)
end Go.Proofs.YtckoepmdmhdepaaGreatDoor
