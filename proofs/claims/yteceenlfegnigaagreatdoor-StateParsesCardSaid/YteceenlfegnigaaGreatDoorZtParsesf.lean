import Derived.Test.YteceenlfegnigaaGreatDoorZtParsese
set_option maxRecDepth 100000
namespace Go.Proofs.YteceenlfegnigaaGreatDoor
set_option linter.all false
open Go.SL Go.RowKit Go.Shelf
open Go.Proofs (Enters enters_of)
variable {a : AcL} {cs : Array Value} {Y s : BS} {pr : BS × BS → Bool} {rs : Bool} {g : FuncId} {L L' Lr R Rl : Jj} {slots xs : List (BS × BS)} {accts : List AcL} {caps sp vs : List Value} {us yitems : List Vl} {B M b c cap d e i j m r rb rv sz : Nat} {f : Operand} {pb pi : Pl} {P : Program} {T t x : Ty} {q : Ty × Nat × Nat} {α : Type} {row : Vg} {v y z : Vl} {w : World} {V : α → Value}
set_option maxHeartbeats 4000000 in
theorem Jzc (ht : t.In R) : Va t 0 = 0 → ∀ s : BS, s.length ≤ 100000 → PureT (α := VR (Ku t s).1) Tryz.prog 97 [t.val, Jw s].toArray (fun y => V6 y.x (Ku t s).2) [] (fun y => y.L) R := by
  induction ht with
  | @mk k n p ins hk hn hil hs hi ih =>
  intro hc s hl
  have ht : Ty.In R (.mk k n p ins) := .mk hk hn hil hs hi
  obtain ⟨hk8, ho, _, _⟩ := Qv hc
  have hsub := WN hc
  have hF := Wl ht
  have hZ := XG ht
  have hzz : JA (.mk k n p ins) = true → WR (.mk k n p ins) = JO (.mk k n p ins) := fun h => by unfold WR; rw [if_pos h]
  generalize WR (.mk k n p ins) = z at hZ hzz
  have hpl : ¬ (JA (.mk k n p ins) = true ∧ (s.length : Int) ≠ JO (.mk k n p ins)) → k = 1 ∨ k = 2 ∨ k = 5 → (s.length : Int) = if k = 1 then n else if k = 2 then 1 else (n + 7) / 8 := fun hnf h => by
    have hi0 : ins = [] := by
      unfold JG at ho
      rcases h with rfl | rfl | rfl <;> simp at ho <;> first | exact ho.1 | exact ho.1.1
    have hx : JA (.mk k n p ins) = true := by
      rw [Jgp hc, VP, hi0, Yw]
      rcases h with rfl | rfl | rfl <;> rfl
    have e : (s.length : Int) = JO (.mk k n p ins) := Decidable.byContradiction fun h2 => hnf ⟨hx, h2⟩
    rw [e, JO]
    rcases h with rfl | rfl | rfl <;> simp
  have hn1 : k = 1 → 1 ≤ n ∧ n ≤ 32 := fun e => by subst e; unfold JG at ho; simp at ho; omega
  have hn5 : k = 5 → 1 ≤ n ∧ n ≤ 512 := fun e => by subst e; unfold JG at ho; simp at ho; omega
  have h16 : k = 8 → ins.length ≤ 8 := fun e => by subst e; unfold JG at ho; simp at ho; omega
  have hbl := Jgv (k := k) (p := p) (ins := ins) hl hn
  refine J2 Tryz.func97 rfl rfl fun w => Nd fun r1 r2 => ?_; refine ND ?_; refine Gn ?_; refine Jb rfl rfl rfl zM hF oR (QK rfl ?_)
  refine Jp 8 rfl (fun gb => ?_) (fun gb => ?_) <;> (try simp only [ZZ] at gb) <;> first | (refine QK rfl ?_) | (refine LK rfl ?_)
  all_goals refine NG ?_
  all_goals refine GY ?_
  all_goals first | (refine Jb rfl rfl rfl Jdf hZ oR ?_) | refine LK rfl ?_
  all_goals (
   refine NY ?_; refine JH rfl (fun h9 => ?_) (fun h9 => ?_)
   · try exact Bool.noConfusion h9
     all_goals try simp only [ZZ] at h9
     all_goals (
      refine Gy ?_; refine gJ ?_; refine N7 fun w1 hs1 => ?_
      (have e1 : Ku (.mk k n p ins) s = (v0L, 2) := g_w ⟨‹JA _ = true›, by have := hzz ‹JA _ = true›; omega⟩
       exact ⟨⟨v0L, [], v0_in, by rw [e1]; rfl⟩, congrArg (fun z => Ending.returned (V6 v0L z)) (congrArg Prod.snd e1).symm, hs1.weakL (List.nil_sublist _)⟩)
      skip)
   try simp only [ZZ] at h9
   refine JE 4 rfl ?_
   have hnf : ¬ (JA (.mk k n p ins) = true ∧ (s.length : Int) ≠ JO (.mk k n p ins)) := by
     rintro ⟨hA, hB⟩
     first
     | (have e := hzz hA; omega)
     | (have e : JA (.mk k n p ins) = false := ‹_›; rw [e] at hA; cases hA)
   refine Gcc 12 [1] rfl rfl (cD (fun h14 => ?_) fun h14 => ?_)
   refine GL ?_
   have hln := hpl hnf (.inl ‹k = 1›)
   rw [if_pos ‹k = 1›] at hln
   have hnn := hn1 ‹_›
   obtain ⟨a, b, c, d, hnm⟩ := j4 s
   have hnu := xl (s := s) m0
   rw [hnm] at hnu; refine Nw ?_; refine J6 rfl rfl rfl (enters_of Tryz.func149 m5 rfl) hnu (No ?_); refine Nb ?_
   refine ki ?_; refine N7 fun w1 hs1 => ?_
   (have e1 : Ku (.mk k n p ins) s = (jm (Xd s), 0) := g_1 hnf ‹k = 1›
    exact ⟨⟨.mk a b c d [] none [] none 0, [], yI hnm, by rw [e1, KB, Xp, hnm]; rfl⟩, congrArg (fun z => Ending.returned (V6 (.mk a b c d [] none [] none 0) z)) (congrArg Prod.snd e1).symm, hs1.weakL (List.nil_sublist _)⟩)
   refine Nv ?_; refine cD (fun h17 => ?_) fun h17 => ?_
   refine JE 2 rfl ?_
   have hln := hpl hnf (.inr (.inl ‹k = 2›))
   rw [if_neg ‹k ≠ 1›, if_pos ‹k = 2›] at hln
   obtain ⟨a, b, c, d, hnm⟩ := j4 s
   have hnu := xl (s := s) m0
   rw [hnm] at hnu; refine DH ?_; refine NR ?_; refine cD (fun h20 => ?_) fun h20 => ?_
   refine Gy ?_; refine Jz 6 rfl (N7 fun w1 hs1 => ?_)
   (have e1 : Ku (.mk k n p ins) s = (v0L, 2) := by rw [g_2 hnf ‹k ≠ 1› ‹k = 2›, if_pos m0]
    exact ⟨⟨v0L, [], v0_in, by rw [e1]; rfl⟩, congrArg (fun z => Ending.returned (V6 v0L z)) (congrArg Prod.snd e1).symm, hs1.weakL (List.nil_sublist _)⟩)
   refine kS ?_; refine J6 rfl rfl rfl (enters_of Tryz.func149 m5 rfl) hnu (No ?_); refine Nb ?_
   refine ki ?_; refine N7 fun w1 hs1 => ?_
   (have e1 : Ku (.mk k n p ins) s = (jm (Xd s), 0) := by rw [g_2 hnf ‹k ≠ 1› ‹k = 2›, if_neg m0]
    exact ⟨⟨.mk a b c d [] none [] none 0, [], yI hnm, by rw [e1, KB, Xp, hnm]; rfl⟩, congrArg (fun z => Ending.returned (V6 (.mk a b c d [] none [] none 0) z)) (congrArg Prod.snd e1).symm, hs1.weakL (List.nil_sublist _)⟩)
   refine Nv ?_; refine cD (fun h24 => ?_) fun h24 => ?_
   refine GL ?_
   have hln := hpl hnf (.inr (.inr ‹k = 5›))
   rw [if_neg ‹k ≠ 1›, if_neg ‹k ≠ 2›] at hln
   have hnn := hn5 ‹_›
   have hb5 := Jua (k := k) (p := p) (ins := ins) (s := s) (n := n) m0 hl
   obtain ⟨ge, hge⟩ : ∃ g, (b5T n s).2 = g := ⟨_, rfl⟩
   rw [hge] at hb5; refine QZ 3 [1] rfl rfl (JW rfl rfl rfl (enters_of Tryz.func150 m5 rfl) hb5 oN fun y => kZ ?_)
   obtain ⟨⟨ya, yb, yc, yd, ybits, ypb, yitems, ypi, ypick⟩, yL, yok, yer⟩ := y
   refine Jk me ?_
   refine ki ?_; refine N7 fun w1 hs1 => ?_
   (have e1 := (g_5 hnf (s := s) ‹k ≠ 1› ‹k ≠ 2› ‹k = 5›).trans (rfl : _ = b5T n s)
    exact ⟨⟨Vl.mk ya yb yc yd ybits ypb yitems ypi ypick, yL, yok, by rw [e1]; exact yer⟩, congrArg (fun z => Ending.returned (V6 (Vl.mk ya yb yc yd ybits ypb yitems ypi ypick) z)) (hge.symm.trans (congrArg Prod.snd e1).symm), hs1.weakL (.cons _ (.cons _ (List.Sublist.refl _)))⟩)
   refine Nv ?_; refine cD (fun h27 => ?_) fun h27 => ?_
   refine GL ?_
   obtain ⟨ge, hge⟩ : ∃ g, (vp n s).2 = g := ⟨_, rfl⟩
   rw [hge] at hbl; refine QZ 3 [1] rfl rfl (JW rfl rfl rfl (enters_of Tryz.func151 m5 rfl) hbl oN fun y => kZ ?_)
   obtain ⟨⟨ya, yb, yc, yd, ybits, ypb, yitems, ypi, ypick⟩, yL, yok, yer⟩ := y
   refine Jk me ?_
   refine ki ?_; refine N7 fun w1 hs1 => ?_
   (have e1 := g_6 hnf (s := s) ‹k ≠ 1› ‹k ≠ 2› ‹k ≠ 5› ‹k = 6›
    exact ⟨⟨Vl.mk ya yb yc yd ybits ypb yitems ypi ypick, yL, yok, by rw [e1]; exact yer⟩, congrArg (fun z => Ending.returned (V6 (Vl.mk ya yb yc yd ybits ypb yitems ypi ypick) z)) (hge.symm.trans (congrArg Prod.snd e1).symm), hs1.weakL (.cons _ (.cons _ (List.Sublist.refl _)))⟩)
   refine Nv ?_; refine cD (fun h30 => ?_) fun h30 => ?_
   refine Gx ?_; refine Dx ?_; refine Gj ?_; refine cD (fun h33 => ?_) fun h33 => ?_
   refine Gy ?_; refine Jz 6 rfl (N7 fun w1 hs1 => ?_)
   (have e1 : Ku (.mk k n p ins) s = (v0L, 2) := Jxh hnf ‹k ≠ 1› ‹k ≠ 2› ‹k ≠ 5› ‹k ≠ 6› ‹k = 8› ‹s = []›
    exact ⟨⟨v0L, [], v0_in, by rw [e1]; rfl⟩, congrArg (fun z => Ending.returned (V6 v0L z)) (congrArg Prod.snd e1).symm, hs1.weakL (List.nil_sublist _)⟩)
   refine JE 4 rfl ?_
   have hsne : s ≠ [] := ‹_›
   have hpos : 0 < s.length := List.length_pos_iff.2 hsne
   refine JJ [] [(0, .pure), (1, .pure), (2, .pure), (3, .pure), (5, .pure)] 6 [0, 1, 2, 3, 4, 5] m5 m5 m6 (gl ?_); refine KG (k := 4) rfl rfl rfl rfl rfl (Je rfl (kn 1 rfl) rfl rfl) (Ji (k := 5) rfl rfl rfl rfl rfl (fun _ _ => Jq rfl hs rfl) (Kk (NR ?_))); refine cD (fun h37 => ?_) fun h37 => ?_
   refine Gy ?_; refine Jz 6 rfl (N7 fun w1 hs1 => ?_)
   (have e1 : Ku (.mk k n p ins) s = (v0L, 9) := Jxi hnf ‹k ≠ 1› ‹k ≠ 2› ‹k ≠ 5› ‹k ≠ 6› ‹k = 8› hsne m0
    exact ⟨⟨v0L, [], v0_in, by rw [e1]; rfl⟩, congrArg (fun z => Ending.returned (V6 v0L z)) (congrArg Prod.snd e1).symm, hs1.weakL (List.nil_sublist _)⟩)
   refine Gw ?_
   obtain ⟨x, hx⟩ : ∃ x, ins[(s.getD 0 0).toNat]? = some x := ⟨_, List.getElem?_eq_getElem m0⟩
   have hlt : (s.getD 0 0).toNat < ins.length := (List.getElem?_eq_some_iff.1 hx).1
   have hxm := List.mem_of_getElem? hx
   have ihx := ih x hxm (hsub x hxm) (s.drop 1) nC
   have hbd0 := qn x (s.drop 1)
   obtain ⟨x0⟩ := Jxt (hi x hxm) (hsub x hxm) (s.drop 1) nC
   obtain ⟨ge, hge⟩ : ∃ g, (Ku x (s.drop 1)).2 = g := ⟨_, rfl⟩
   rw [hge] at ihx hbd0; refine JJ [Vs r1 (.mk k n p ins)] [(0, .pure), (1, .pure), (2, .pure), (3, .pure), (4, .pure), (5, .pure), (6, .pure), (7, .pure), (8, .pure), (9, .grow (Qh x0 (fun y => V6 y.x ge) (fun y => y.L))), (10, .grow (V1 vv (.cells #[.int .u64 0, .int .u64 0, .int .u64 0, .int .u64 0, .slice none 0 0, .slice none 0 0, .int .i64 0, .int .i64 0] 119 (0, 0))))] 11 [0, 1, 2, 3, 4, 5, 6, 7, 8, 9, 10] m5 m5 (fun q hq => List.mem_cons_of_mem _ hq) ?_
   refine N6 ?_; refine gW ?_; refine Ji (k := 3) rfl rfl rfl rfl rfl (fun _ _ => KU (j := 0) rfl rfl rfl rfl m0 rfl) (Ji (k := 4) rfl rfl rfl rfl rfl (fun _ _ => (J1 rfl rfl rfl)) (VL mC (Ji (k := 5) rfl rfl rfl rfl rfl (fun _ _ => Jg (j := (s.getD 0 0).toNat) rfl hs rfl rfl rfl rfl hlt) (Ji (k := 6) rfl rfl rfl rfl rfl (fun _ _ => Kj oR rfl hs hx rfl rfl) (Ji (k := 7) rfl rfl rfl rfl rfl (fun _ hS => (Jf rfl)) (Ji (k := 8) rfl rfl rfl rfl rfl (fun _ _ => KV (kl := some (.i64, 1)) (kh := none) (m := 1) (n := s.length) rfl rfl rfl rfl rfl rfl m0 m0 M3) (KI (k := 9) rfl rfl rfl rfl rfl Js5 ihx oR fun y => ?_))))))); obtain ⟨⟨ya, yb, yc, yd, ybits, ypb, yitems, ypi, ypick⟩, yL, yok, yer⟩ := y; refine VL me (Wt (k := 10) (cs := #[_, _, _, _, _, _, _, _]) rfl rfl rfl rfl rfl rfl fun r3 => Kk (JY (List.Perm.cons _ List.perm_append_comm) ?_))
   refine Nm ?_; refine Goc 10 [0] rfl rfl (cD (fun h42 => ?_) fun h42 => ?_)
   refine Nw ?_; refine LR rfl (Jo (vs := [_, _, _, _, _, _, _, _]) rfl (kn 0 rfl) rfl rfl rfl rfl) ?_
   refine Db ?_; refine Jz 6 rfl (gz fun w1 hs1 => ?_)
   (have hg0 : ge ≠ 0 := by assumption
    have e1 := g_8 hnf (s := s) ‹k ≠ 1› ‹k ≠ 2› ‹k ≠ 5› ‹k ≠ 6› ‹k = 8› hsne hx
    rw [hge, if_pos hg0] at e1
    exact ⟨⟨Vl.mk ya yb yc yd ybits ypb yitems ypi ypick, yL, yok, by rw [e1]; exact yer.trans (hbd0 hg0)⟩, congrArg (fun z => Ending.returned (V6 (Vl.mk ya yb yc yd ybits ypb yitems ypi ypick) z)) (congrArg Prod.snd e1).symm, hs1.weakL (.cons _ (.cons _ (.cons _ (List.Sublist.refl _))))⟩)
   refine Gw ?_
   refine JJ [(r3, .cells #[uV ya, uV yb, uV yc, uV yd, Ky ybits.length ypb, Ky yitems.length ypi, .int .i64 ypick, .int .i64 ge] 119 (0, 0))] [(0, .pure), (1, .pure), (2, .pure), (3, .pure), (4, .pure), (5, .grow (V1 (slV 1) (.cells #[uV ya, uV yb, uV yc, uV yd, Ky ybits.length ypb, Ky yitems.length ypi, .int .i64 ypick] 81 (0, 0))))] 6 [0, 1, 2, 3, 4, 5] m5 m5 m6 (gl ?_); refine Ji (k := 4) rfl rfl rfl rfl rfl (fun _ hS => (Jo (vs := [_, _, _, _, _, _, _]) rfl (.inl (hS _ (Kn (n := 0) rfl))) rfl rfl rfl rfl)) (Vb (k := 5) (n := 1) (sz := 7) (vs := [_]) (zs := [_, _, _, _, _, _, _]) (r := [uV ya, uV yb, uV yc, uV yd, Ky ybits.length ypb, Ky yitems.length ypi, .int .i64 ypick]) rfl rfl rfl rfl rfl rfl rfl rfl rfl rfl rfl mn rfl fun rv => Kk (No ?_)); refine Nb ?_
   refine LT 2 rfl rfl (Ga ?_); refine Jd rfl rfl (.cons (Jl (vs := [_, _, _, _, _, _, _, _]) rfl (kn 2 rfl) rfl rfl) .nil) (fun w1 hs1 => ?_)
   (have hg0 : ge = 0 := by omega
    have e1 := g_8 hnf (s := s) ‹k ≠ 1› ‹k ≠ 2› ‹k ≠ 5› ‹k ≠ 6› ‹k = 8› hsne hx
    rw [hge, if_neg m0] at e1
    exact ⟨⟨.mk 0 0 0 0 [] none [Vl.mk ya yb yc yd ybits ypb yitems ypi ypick] (some (⟨rv, 0, none⟩, 1)) ((s.getD 0 0).toNat : Int), [(rv, _)] ++ yL, XM mf ⟨Nat.le_refl _, fun _ => ⟨rfl, _, _, _, List.mem_singleton_self _, rfl⟩⟩ (fun z hz => by rw [List.mem_singleton.1 hz]; exact yok) Md, by rw [e1, KB, Xp, Xp, yer]; rfl⟩, congrArg (fun z => Ending.returned (V6 (.mk 0 0 0 0 [] none [Vl.mk ya yb yc yd ybits ypb yitems ypi ypick] (some (⟨rv, 0, none⟩, 1)) ((s.getD 0 0).toNat : Int)) z)) (congrArg Prod.snd e1).symm, hs1.weakL ((List.cons_sublist_cons).2 (.cons _ (.cons _ (.cons _ (List.Sublist.refl _)))))⟩)
   refine JE 4 rfl ?_
   have hk3 : k = 3 ∨ k = 4 ∨ k = 7 := by have h1 : k ≠ 1 := ‹_›; have h2 : k ≠ 2 := ‹_›; have h5 : k ≠ 5 := ‹_›; have h6 : k ≠ 6 := ‹_›; have h8 : k ≠ 8 := ‹_›; omega
   have hrw := Jxu (s := s) ht hc hk3 hl (fun x hx => ih x hx (hsub x hx))
   obtain ⟨ge, hge⟩ : ∃ g, (j0 k n ins (XK ins) s).2 = g := ⟨_, rfl⟩
   rw [hge] at hrw; refine QZ 3 [1] rfl rfl (JW (Rl := R) rfl rfl rfl (enters_of Tryz.func152 m5 rfl) hrw oR fun y => kZ ?_)
   obtain ⟨⟨ya, yb, yc, yd, ybits, ypb, yitems, ypi, ypick⟩, yL, yok, yer⟩ := y
   refine Jk me ?_
   refine Nm ?_; refine HX ?_; refine N7 fun w1 hs1 => ?_
   (have e1 := g_r hnf (s := s) ‹k ≠ 1› ‹k ≠ 2› ‹k ≠ 5› ‹k ≠ 6› ‹k ≠ 8›
    exact ⟨⟨Vl.mk ya yb yc yd ybits ypb yitems ypi ypick, yL, yok, by rw [e1]; exact yer⟩, congrArg (fun z => Ending.returned (V6 (Vl.mk ya yb yc yd ybits ypb yitems ypi ypick) z)) (hge.symm.trans (congrArg Prod.snd e1).symm), hs1.weakL (.cons _ (.cons _ (List.Sublist.refl _)))⟩)
   skip)
set_option maxHeartbeats 1000000 in
theorem Jxv (ht : t.In R) (s : BS) : PureT (α := VR (getR t s).1) Tryz.prog 63 [t.val, Jw s].toArray (fun y => .tuple #[y.x.val, .int .i64 (getR t s).2]) [] (fun y => y.L) R := by
 have hC := vj ht
 have hO := Jzc ht (s := s)
 have hg0 : Va t 0 ≠ 0 → getR t s = (v0L, Va t 0) := fun h => by unfold getR; rw [if_pos h]
 have hg1 : Va t 0 = 0 → 65536 < s.length → getR t s = (v0L, 5) := fun h h2 => by unfold getR; rw [if_neg MT, if_pos h2]
 have hg2 : Va t 0 = 0 → ¬ 65536 < s.length → getR t s = Ku t s := fun h h2 => by unfold getR; rw [if_neg MT, if_neg h2]
 generalize hcz : Va t 0 = z at hC hO hg0 hg1 hg2
 obtain ⟨k, n, p, ins⟩ := t
 refine J2 Tryz.func63 rfl rfl fun w => Nd fun r1 r2 => ?_; refine ND ?_; refine Gn ?_; refine Jb rfl rfl rfl (enters_of Tryz.func96 m5 rfl) hC oR (JQ 10 rfl (cD (fun h5 => ?_) fun h5 => ?_))
 refine Nw ?_; refine No ?_; refine QK rfl ?_
 refine ki ?_; refine Jd rfl rfl (.cons (Jl (vs := [_, _, _, _, _, _, _]) rfl (kn 0 rfl) rfl rfl) (.cons (Jn rfl) .nil)) (fun w1 hs1 => ?_)
 (have e1 := hg0 m9
  exact ⟨⟨v0L, [], v0_in, by rw [e1]; rfl⟩, congrArg (fun z => Ending.returned (Value.tuple #[v0L.val, .int .i64 z])) (congrArg Prod.snd e1).symm, hs1.weakL (List.nil_sublist _)⟩)
 ·refine gY ?_; refine DK ?_; refine cD (fun h9 => ?_) fun h9 => ?_
  refine Nw ?_; refine No ?_
  refine ki ?_; refine Jd rfl rfl (.cons (Jl (vs := [_, _, _, _, _, _, _]) rfl (kn 0 rfl) rfl rfl) (.cons (Jn rfl) .nil)) (fun w1 hs1 => ?_)
  (have e1 := hg1 m9 m0
   exact ⟨⟨v0L, [], v0_in, by rw [e1]; rfl⟩, congrArg (fun z => Ending.returned (Value.tuple #[v0L.val, .int .i64 z])) (congrArg Prod.snd e1).symm, hs1.weakL (List.nil_sublist _)⟩)
  ·refine Gw ?_
   have hz : z = 0 := by assumption
   have hl : ¬ 65536 < s.length := by omega
   have hO2 := hO hz m0
   obtain ⟨ge, hge⟩ : ∃ g, (Ku (.mk k n p ins) s).2 = g := ⟨_, rfl⟩
   rw [hge] at hO2; refine QZ 3 [1] rfl rfl (JW (Rl := R) rfl rfl rfl Js5 hO2 oR fun y => kZ ?_)
   obtain ⟨⟨ya, yb, yc, yd, ybits, ypb, yitems, ypi, ypick⟩, yL, yok, yer⟩ := y
   refine Jk me (HT fun r3 => ?_); refine NR ?_
   refine JJ [(r3, .cells #[uV ya, uV yb, uV yc, uV yd, Ky ybits.length ypb, Ky yitems.length ypi, .int .i64 ypick, .int .i64 ge] 119 (0, 0))] [(0, .pure), (1, .pure), (2, .pure), (3, .pure), (4, .turn)] 5 [0, 1, 2, 3, 4] m5 m5 m6 ?_
   refine Ji (k := 0) rfl rfl rfl rfl rfl (fun _ hS => (J5 rfl rfl rfl)) (Ji (k := 1) rfl rfl rfl rfl rfl (fun _ hS => (Jo (vs := [_, _, _, _, _, _, _]) rfl (.inl (hS _ (Kn (n := 0) rfl))) rfl rfl rfl rfl)) ?_)
   refine NX ?_; refine Ji (k := 3) rfl rfl rfl rfl rfl (fun _ hS => (Je rfl (.inl (hS _ (Kn (n := 0) rfl))) rfl rfl)) ?_
   refine Zn (k := 4) (q := 1) (n := 7) (ys := [_, _, _, _, _, _, _]) rfl rfl rfl rfl rfl rfl rfl rfl rfl rfl mh m6 (Kk (gJ ?_)); refine Jd rfl rfl (.cons (Jl (vs := [_, _, _, _, _, _, _]) rfl (kn 1 rfl) rfl rfl) (.cons (Jn rfl) .nil)) (fun w1 hs1 => ?_)
   (have e1 := hg2 hz hl
    exact ⟨⟨Vl.mk ya yb yc yd ybits ypb yitems ypi ypick, yL, yok, by rw [e1]; exact yer⟩, congrArg (fun z => Ending.returned (Value.tuple #[Vl.val (Vl.mk ya yb yc yd ybits ypb yitems ypi ypick), .int .i64 z])) (hge.symm.trans (congrArg Prod.snd e1).symm), hs1.weakL (.cons _ (.cons _ (.cons _ (List.Sublist.refl _))))⟩)
theorem Jqc (t : Ty) : (Xw t).k = t.k := by cases t; rw [Xw]; rfl
theorem Jv3 (t : Ty) : (Xw t).n = t.n := by cases t; rw [Xw]; rfl
theorem Jjh (t : Ty) : (Xw t).ins = VT t.ins := by cases t; rw [Xw]; rfl
theorem erT_def : Xw default = default := by show Xw (.mk 0 0 none []) = .mk 0 0 none []; rw [Xw, VT]
mutual
theorem wj : ∀ (t : Ty) (d : Int), Va (Xw t) d = Va t d
 | .mk k n p ins, d => by rw [Xw, Va, Va, Jer ins, ZG]
theorem Jer : ∀ (l : List Ty) (d : Int), Xc (VT l) d = Xc l d
 | [], _ => by rw [VT]
 | x :: xs, d => by rw [VT, Xc, Xc, wj x, Jer xs]
end
mutual
theorem Jes : ∀ (t : Ty), VP (Xw t) = VP t
 | .mk k n p ins => by rw [Xw, VP, VP, Jet ins]
theorem Jet : ∀ (l : List Ty), Yw (VT l) = Yw l
 | [] => by rw [VT]
 | x :: xs => by rw [VT, Yw, Yw, Jes x, Jet xs]
end
mutual
theorem XN : ∀ (t : Ty), JO (Xw t) = JO t
 | .mk k n p ins => by rw [Xw, JO, JO, Jeu ins]
theorem Jeu : ∀ (l : List Ty), V5 (VT l) = V5 l
 | [] => by rw [VT]
 | x :: xs => by rw [VT, V5, V5, XN x, Jeu xs]
end
theorem Xx (t : Ty) : JA (Xw t) = JA t := by unfold JA; rw [wj, Jes]
theorem Jqd (t : Ty) : Wx (Xw t) = Wx t := by unfold Wx; rw [Xx, XN]
theorem yP : ∀ l : List Ty, JV (l.map Xw) = JV l
 | [] => rfl
 | x :: xs => by rw [List.map_cons, JV, JV, Jqd, yP xs]
theorem Jev (ins : List Ty) (i : Nat) : (VT ins).getD i default = Xw (ins.getD i default) := by
 rw [yK, List.getD_eq_getElem?_getD, List.getD_eq_getElem?_getD, List.getElem?_map]
 cases ins[i]? with
 | none => exact erT_def.symm
 | some x => rfl
theorem ZI (k pick : Int) (ins : List Ty) (i : Nat) : J0 k pick (VT ins) i = Xw (J0 k pick ins i) := by unfold J0; exact Jev ins _
mutual
theorem Jji : ∀ (v : Vl) (t : Ty), Kz v (Xw t) = Kz v t
 | .mk a b c d bits pb items pi pick, .mk k n p ins => by rw [Xw, Kz, Kz, ZG, Jew items]
theorem Jew : ∀ (l : List Vl) (k pick : Int) (ins : List Ty) (i : Nat), Qx l k pick (VT ins) i = Qx l k pick ins i
 | [], _, _, _, _ => by rw [Qx, Qx]
 | x :: xs, k, pick, ins, i => by rw [Qx, Qx, ZI, Jji x, Jew xs]
end
theorem Jex (t : Ty) (v : Vl) : V3 (Xw t) v = V3 t v := by unfold V3; rw [wj, Jji]
theorem yQ (h : Nat) : ∀ (l : List (Ty × BS)) (f th : BS), YV h (l.map fun p => (Xw p.1, p.2)) f th = YV h l f th
 | [], f, th => rfl
 | (x, s) :: l, f, th => by rw [List.map_cons, YV, YV, Xx, yQ h l, yQ h l]
mutual
theorem Jbp : ∀ (v : Vl) (t : Ty), Vz v (Xw t) = Vz v t
 | .mk a b c d bits pb items pi pick, t => by
  have h1 : ((Qj items t.k pick t.ins 0).map fun p => (Xw p.1, p.2)).headD (default, []) = (fun p : Ty × BS => (Xw p.1, p.2)) ((Qj items t.k pick t.ins 0).headD (default, [])) := by
   cases Qj items t.k pick t.ins 0 with
   | nil => show (default, []) = (Xw default, []); rw [erT_def]
   | cons x l => rfl
  have h2 : (((Qj items t.k pick t.ins 0).map fun p => (Xw p.1, p.2)).map Prod.fst) = ((Qj items t.k pick t.ins 0).map Prod.fst).map Xw := by rw [List.map_map, List.map_map]; rfl
  rw [Vz, Vz, Jqc, Jv3, Jjh, Jey items, yQ, h1, h2, yP]
theorem Jey : ∀ (l : List Vl) (k pick : Int) (ins : List Ty) (i : Nat), Qj l k pick (VT ins) i = (Qj l k pick ins i).map fun p => (Xw p.1, p.2)
 | [], _, _, _, _ => by rw [Qj, Qj]; rfl
 | x :: xs, k, pick, ins, i => by rw [Qj, Qj, ZI, Jbp x, Jey xs]; rfl
end
theorem Jqe (t : Ty) (v : Vl) : qf (Xw t) v = qf t v := by unfold qf; rw [Jex, Jbp]
theorem Jqf (k : Int) (ins : List Ty) (m : Nat) : Kg k (VT ins) m = (Kg k ins m).map Xw := by
 unfold Kg
 rw [List.map_map]; exact List.map_congr_left fun i _ => ZI k 0 ins i
theorem yR (s : BS) (h : Nat) : ∀ (l : List Ty) (a la : Nat) (op : Bool), Qy s h (l.map Xw) a la op = Qy s h l a la op
 | [], _, _, _ => rfl
 | x :: xs, a, la, op => by rw [List.map_cons, Qy, Qy, Xx, XN, yR s h xs, yR s h xs]
theorem qT (s : BS) : ∀ (l : List Ty) (a : Nat) (os : List Nat), VH s (l.map Xw) a os = VH s l a os
 | [], _, _ => rfl
 | x :: xs, a, os => by rw [List.map_cons, VH, VH, Xx, XN, qT s xs, qT s xs]
theorem Jqg (k n : Int) (ins : List Ty) (s : BS) : JM k n (VT ins) s = JM k n ins s := by
 unfold JM
 rw [ZG, ZI, Xx, XN]
theorem Jqh (k n : Int) (ins : List Ty) (fs : List Gf) (s : BS) : j0 k n (VT ins) fs s = j0 k n ins fs s := by
 unfold j0
 rw [Jqg, Jqf, yP, yR]
 split
 ·rfl
 ·split
  ·rfl
  ·cases Qy s (JV (Kg k ins (JM k n ins s).1)).toNat (Kg k ins (JM k n ins s).1) 0 (JV (Kg k ins (JM k n ins s).1)).toNat false with
   | none => rfl
   | some os => simp only [qT]
theorem Jue (k n : Int) (p : Pl) (ins : List Ty) (fs : List Gf) (s : BS) : j3 k n none (VT ins) fs s = j3 k n p ins fs s := by
 have h1 : JA (.mk k n none (VT ins)) = JA (.mk k n p ins) := by have := Xx (.mk k n p ins); rw [Xw] at this; exact this
 have h2 : JO (.mk k n none (VT ins)) = JO (.mk k n p ins) := by have := XN (.mk k n p ins); rw [Xw] at this; exact this
 unfold j3
 rw [h1, h2, ZG, Jqh]
mutual
theorem Jjj : ∀ (t : Ty), Ku (Xw t) = Ku t
 | .mk k n p ins => by funext s; rw [Xw, Ku, Ku, Jez ins, Jue k n p]
theorem Jez : ∀ (l : List Ty), XK (VT l) = XK l
 | [] => by rw [VT]
 | x :: xs => by rw [VT, XK, XK, Jjj x, Jez xs]
end
theorem Jqi (t : Ty) (s : BS) : getR (Xw t) s = getR t s := by unfold getR; rw [wj, Jjj]
theorem Jqj (items : List Vl) (x : Ty) : Xo items (Xw x) = Xo items x := by unfold Xo; rw [List.map_congr_left fun v _ => Jbp v x]
theorem Jqk (k n : Int) (ins : List Ty) (items : List Vl) (rs : List BS) : Xi k n (VT ins) items rs = Xi k n ins items rs := by
 unfold Xi XJ
 rw [Jev, ZG, Jqc, Jqj, XN]
mutual
theorem Je0 : ∀ (v : Vl) (t : Ty), KH v (Xw t) = KH v t
 | .mk a b c d bits pb items pi pick, t => by rw [KH, KH, Jqc, Jv3, Jjh, xo items, Jqk]
theorem xo : ∀ (l : List Vl) (k pick : Int) (ins : List Ty) (i : Nat), Km l k pick (VT ins) i = Km l k pick ins i
 | [], _, _, _, _ => by rw [Km, Km]
 | x :: xs, k, pick, ins, i => by rw [Km, Km, ZI, Je0 x, xo xs]
end
theorem Jlj (t : Ty) (v : Vl) : Y7 (Xw t) v = Y7 t v := by unfold Y7; rw [Jex, Je0]
def qp (x : BS × BS) : Vl := KP [yM x.1, yM x.2] 0
def acV (a : AcE) : Vl := KP [yM a.addr, .mk a.nonce 0 0 0 [] none [] none 0, .mk a.bal.a a.bal.b a.bal.c a.bal.d [] none [] none 0, yM a.code, KP (a.slots.map qp) 0] 0
def Yn (l : List AcE) : Vl := KP (l.map acV) 0
theorem Jbq : Va Qo 0 = 0 := by decide +kernel
def Xj (l : List AcE) : BS × Int := if Qi l ≠ 0 then ([], Qi l) else qf Qo (Yn l)
def qq (l : List AcE) : BS × Int := if Qi l ≠ 0 then ([], Qi l) else Y7 Qo (Yn l)
def WO (v : Vl) : BS := v.items.map fun x => UInt8.ofNat (x.num.getD 0 0)
def qr (v : Vl) (i : Nat) : Vl := v.items.getD i v0L
def Wd (v : Vl) : BS × BS := (WO (qr v 0), WO (qr v 1))
def w4B (v : Vl) : W4 := ⟨v.num.getD 0 0, v.num.getD 1 0, v.num.getD 2 0, v.num.getD 3 0⟩
def acB (v : Vl) : AcE := ⟨WO (qr v 0), (qr v 1).num.getD 0 0, w4B (qr v 2), WO (qr v 3), (qr v 4).items.map Wd⟩
def Y8 (v : Vl) : List AcE := v.items.map acB
def VU (s : BS) : List AcE × Int := if (getR Qo s).2 ≠ 0 then ([], (getR Qo s).2) else if Qi (Y8 (getR Qo s).1) ≠ 0 then ([], Qi (Y8 (getR Qo s).1)) else (Y8 (getR Qo s).1, 0)
def byB (x : Vl) : UInt8 := UInt8.ofNat (x.num.getD 0 0)
theorem Jql (v : Vl) : WO v = v.items.map byB := rfl
theorem xq (q : Nat) : Value.int .u8 (IntKind.u8.wrap (q : Int)) = bV (UInt8.ofNat q) := by
 rw [jO]
 congr 1
 apply UInt8.toNat_inj.1
 simp
def ofS (l : List Vl) (i : Nat) : BS := (l.take i).map byB ++ List.replicate (l.length - i) 0
theorem Jbr (l : List Vl) (h : i ≤ l.length) : (ofS l i).length = l.length := by unfold ofS; simp; omega
theorem Jqm {l : List Vl} {x : Vl} (h : l[i]? = some x) : ((ofS l i).map bV).set i (bV (byB x)) = (ofS l (i + 1)).map bV := by
 have hlt := (List.getElem?_eq_some_iff.1 h).1
 unfold ofS
 rw [← List.map_set]
 congr 1
 rw [List.set_append_right _ _ nU, Ke h, List.map_append, List.append_assoc]
 congr 1
 rw [show (List.map byB (List.take i l)).length = i by simp; omega, Nat.sub_self, show l.length - i = (l.length - (i + 1)) + 1 by omega, List.replicate_succ, List.set_cons_zero]
 rfl
theorem Juf (hv : v.In R) (hl : v.items.length ≤ 100000) : PureR Tryz.prog 62 [v.val].toArray (Jw (WO v)) R := by
 obtain ⟨a, b, c, d, bits, pb, items, pi, pick⟩ := v
 have hs : Seg R items.length (KC items) pi := by cases hv; assumption
 change items.length ≤ 100000 at hl; rw [Jql]; refine Ja Tryz.func62 rfl rfl fun w => MX fun r1 => ?_; refine X6 7 [0] rfl rfl (Ni ?_); refine WJ (n := items.length) (b := 1) rfl rfl rfl rfl rfl rfl rfl rfl rfl m0 m0 fun rm => ?_; rw [show List.replicate items.length (Value.int .u8 0) = (ofS items 0).map bV from by unfold ofS; simp [bV]]; refine X6 8 [1] rfl rfl (H0 ?_); refine Jy (σ := Nat) (fun i => i ≤ items.length) (fun i => [(3, .slice (some ⟨rm, 0, none⟩) items.length items.length), (11, Ky items.length pi), (12, .int .i64 (items.length : Int)), (13, .int .i64 (i : Int))]) (fun i => [(rm, .cells ((ofS items i).map bV).toArray 5 (0, 0))]) (fun _ _ _ => True) (fun i => items.length - i) 0 (Nat.zero_le _) (lK rfl) (.cons_cons _ (List.nil_sublist _)) (fun _ _ h => h) ?_; intro i hi1; refine Nv ?_; refine cD (fun g => ?_) fun g => ?_
 ·refine kX ?_
  obtain ⟨⟨ya, yb, yc, yd, ybits, ypb, yitems, ypi, ypick⟩, hx, hxm⟩ := Q0 MJ
  refine Nw ?_
  refine gi ?_; refine LR rfl (Qe oR rfl hs hx rfl rfl) (LN rfl fun r2 => QK rfl ?_)
  refine Nm ?_; refine Gc ?_
  refine Hp ?_; refine LS 2 [0] rfl rfl (Jk (show _ = bV (UInt8.ofNat ya) from xq ya) (LR rfl (Kc (j := i) (m := 1) (off' := i) rfl rfl rfl rfl m0 m0 m0) (KS (k := 1) (off := i) (xs := (ofS items i).map bV) (ys := (ofS items (i + 1)).map bV) rfl rfl rfl rfl rfl rfl (by rw [List.length_map, Jbr _ m0]; omega) (Jqm hx) rfl (ND ?_)))); exact Gd
 ·refine Nv ?_
  obtain rfl : i = items.length := by omega
  refine Nw ?_; refine LR rfl (Qq (b := ofS items items.length) (row := some (rm, items.length, [])) (e := 5) (show _ = some (J3 (ofS items items.length).length _) from by rw [Jbr _ (Nat.le_refl _)]; rfl) ⟨by rw [List.length_map]; omega, by rw [Jbr _ (Nat.le_refl _)]; simp⟩ (fun p hp => .inl mE) rfl rfl rfl) (DG fun w1 hs1 => ?_); rw [show ofS items items.length = items.map byB from by unfold ofS; simp]; rfl
theorem Jug {l : List Vl} {x : Vl} (h : l[i]? = some x) : ((l.take i).map byB).map bV ++ [bV (byB x)] = ((l.take (i + 1)).map byB).map bV := by
 rw [Ke h, List.map_append, List.map_append]; rfl
theorem wk (hv : v.In R) (hl : v.items.length ≤ 100000) : PureR Tryz.prog 64 [v.val].toArray (Jw (WO v)) R := by
 obtain ⟨a, b, c, d, bits, pb, items, pi, pick⟩ := v
 have hs : Seg R items.length (KC items) pi := by cases hv; assumption
 change items.length ≤ 100000 at hl; rw [Jql]; refine Ja Tryz.func64 rfl rfl fun w => MX fun r1 => ?_; refine JQ 15 rfl (Jy (σ := Nat × Vg) (fun q => q.1 ≤ items.length ∧ rowOk 1 q.1 (((items.take q.1).map byB).map bV) q.2) (fun q => [(1, QR r1), (3, J3 q.1 q.2), (4, .int .i64 (q.1 : Int))]) (fun q => WE r1 (.mk a b c d bits pb items pi pick) :: JL 5 (((items.take q.1).map byB).map bV) q.2) (fun _ _ _ => True) (fun q => items.length - q.1) (0, none) ⟨Nat.zero_le _, rfl, rfl⟩ (lK rfl) (List.Sublist.refl _) (fun _ _ h => h) ?_); rintro ⟨i, row⟩ ⟨hi1, hrow⟩; simp only at hi1 hrow; change HC _ _ [(1, QR r1), (3, J3 i row), (4, .int .i64 (i : Int))] ((r1, _) :: JL 5 (((items.take i).map byB).map bV) row) _ _ _; refine Hi ?_; refine Ni ?_; refine NR ?_; refine cD (fun g => ?_) fun g => ?_
 ·refine JE 4 rfl ?_
  obtain ⟨⟨ya, yb, yc, yd, ybits, ypb, yitems, ypi, ypick⟩, hx, hxm⟩ := Q0 MJ
  refine QZ 5 [0] rfl rfl ?_
  refine gi ?_; refine LR rfl (JR (off' := XO pi + i * 7) rfl rfl (by show XO pi + i * 7 + 0 = _; omega)) (LR rfl (JN (off' := XO pi + (i * 7 + 0)) (m := 1) (j := 0) rfl rfl rfl rfl rfl m7 m0) (LR rfl (Wa Vl.len (k := 0) (v := uV ya) oR rfl hs hx rfl rfl) (V7 rfl (Jk (show _ = bV (UInt8.ofNat ya) from xq ya) ?_)))); refine kN fun r2 => ?_; refine JF (L0 := [_, _]) (xs := ((items.take i).map byB).map bV) (row := row) (n := i) (sz := 1) (b := 1) (news := [bV (UInt8.ofNat ya)]) (List.perm_append_comm (l₁ := [_, _])) rfl rfl rfl rfl (kn 0 rfl) rfl rfl rfl rfl rfl m7 rfl rfl rfl m7 hrow m0 m0 fun ra cap sp hra => Gi ?_; refine Nf ?_; rw [show [bV (UInt8.ofNat ya)] = [bV (byB (.mk ya yb yc yd ybits ypb yitems ypi ypick))] from rfl, Jug hx] at hra ⊢; refine QG [2, 0] (L' := [_, _]) m7 rfl ?_; exact H8
 ·refine Nv ?_
  obtain rfl : i = items.length := by omega
  rw [List.take_length] at hrow ⊢; refine Nw ?_; refine LR rfl (Qq (b := items.map byB) (row := row) (e := 5) (show _ = some (J3 (items.map byB).length row) from by rw [List.length_map]; rfl) (by rw [List.length_map]; exact hrow) (fun p hp => .inl (List.mem_cons_of_mem _ hp)) rfl rfl rfl) ?_; exact Nz
theorem Jzd (hl : s.length ≤ 100000) (h : (r, Obj.cells (KC (s.map qm)).toArray 0 (0, 0)) ∈ Lr) : Vl.In Lr (.mk 0 0 0 0 [] none (s.map qm) (some (⟨r, 0, none⟩, s.length)) 0) :=
 .mk u0 u0 u0 u0 m7 rfl (by rw [List.length_map]; omega) ⟨by rw [List.length_map]; exact Nat.le_refl _, fun _ => ⟨rfl, _, 0, (0, 0), h, by rw [List.drop_zero, List.toList_toArray, List.take_length]⟩⟩ i0 fun x hx => by
  obtain ⟨b, _, rfl⟩ := List.mem_map.1 hx
  exact (Jvu b).mono fun q hq => absurd hq List.not_mem_nil
def Jqn {s : BS} (hl : s.length ≤ 100000) : VR (yM s) := ⟨_, [(0, .cells (KC (s.map qm)).toArray 0 (0, 0))], Jzd hl (List.mem_singleton_self _), Jvv s _⟩
theorem Jqo {its : List Vl} {n : Nat} (h : (r, Obj.cells (KC its).toArray e (0, 0)) ∈ Lr) (hn : its.length = n) (hl : n ≤ 1000) (hi : ∀ x ∈ its, x.In Lr) : Vl.In Lr (.mk 0 0 0 0 [] none its (some (⟨r, 0, none⟩, n)) 0) :=
 .mk u0 u0 u0 u0 m7 rfl m0 ⟨Nat.le_of_eq hn, fun _ => ⟨rfl, _, e, (0, 0), h, by rw [List.drop_zero, List.toList_toArray, List.take_length]⟩⟩ i0 hi
theorem Jxw {F yL zL : Jj} (hin : ∀ x ∈ us, x.In F) (hy : y.In yL) (hz : z.In zL) {q : Vl} (hq : q ∈ us ++ [Vl.mk 0 0 0 0 [] none [y, z] (some (⟨rb, 0, none⟩, 2)) 0]) : q.In ((rb, Obj.cells (KC [y, z]).toArray e (0, 0)) :: (zL ++ (yL ++ F))) := by
 rcases List.mem_append.1 hq with hq | hq
 ·exact (hin q hq).mono fun p hp => by simp [hp]
 ·rw [List.mem_singleton.1 hq]
  refine Jqo List.mem_cons_self rfl m7 fun x hx => ?_; simp only [List.mem_cons, List.not_mem_nil, or_false] at hx
  rcases hx with rfl | rfl
  ·exact hy.mono fun p hp => by simp [hp]
  ·exact hz.mono fun p hp => by simp [hp]
theorem Jxx {k v : BS} {p : Pl} (her : us.map W0 = (slots.take j).map qp) (hx : slots[j]? = some (k, v)) (hy : W0 y = yM k) (hz : W0 z = yM v) : (us ++ [Vl.mk 0 0 0 0 [] none [y, z] p 0]).map W0 = (slots.take (j + 1)).map qp := by
 rw [List.map_append, her, Ke hx, List.map_append]
 congr 1
 show [W0 _] = [qp (k, v)]
 rw [KB, VK, List.map_cons, List.map_cons, List.map_nil, hy, hz]; rfl
theorem Jxy {vs : List Vl} {E F U yL zL : Jj} {nonce ba bb bc bd n : Nat} {p : Pl} (hin : ∀ x ∈ vs, x.In E) (hs : Seg U n (KC us) p) (hn : us.length = n) (hn2 : n ≤ 100000) (hin2 : ∀ x ∈ us, x.In F) (hnu : YK nonce) (hba : W4.ok ⟨ba, bb, bc, bd⟩) (hy : y.In yL) (hz : z.In zL) {q : Vl}
  (hq : q ∈ vs ++ [Vl.mk 0 0 0 0 [] none [y, .mk nonce 0 0 0 [] none [] none 0, .mk ba bb bc bd [] none [] none 0, z, .mk 0 0 0 0 [] none us p 0] (some (⟨rb, 0, none⟩, 5)) 0]) : q.In ((rb, Obj.cells (KC [y, .mk nonce 0 0 0 [] none [] none 0, .mk ba bb bc bd [] none [] none 0, z, .mk 0 0 0 0 [] none us p 0]).toArray e (0, 0)) :: (zL ++ (yL ++ (U ++ (F ++ E))))) := by
 rcases List.mem_append.1 hq with hq | hq
 ·exact (hin q hq).mono fun p hp => by simp [hp]
 ·rw [List.mem_singleton.1 hq]
  refine Jqo List.mem_cons_self rfl m7 fun x hx => ?_; simp only [List.mem_cons, List.not_mem_nil, or_false] at hx
  rcases hx with rfl | rfl | rfl | rfl | rfl
  ·exact hy.mono fun p hp => by simp [hp]
  ·exact .mk hnu u0 u0 u0 m7 rfl m7 rfl i0 (fun x hx => nomatch hx)
  ·exact .mk hba.a hba.b hba.c hba.d m7 rfl m7 rfl i0 (fun x hx => nomatch hx)
  ·exact hz.mono fun p hp => by simp [hp]
  ·refine .mk u0 u0 u0 u0 m7 rfl m0 (by rw [hn]; exact hs.mono fun p hp => by simp [hp]) i0 fun x hx => (hin2 x hx).mono fun p hp => by simp [hp]
theorem Jxz  {vs : List Vl} {addr code : BS} {nonce ba bb bc bd : Nat} {ap p p2 : Pl} (her : vs.map W0 = (accts.take i).map fun a => acV a.er) (hx : accts[i]? = some ⟨addr, nonce, ⟨ba, bb, bc, bd⟩, code, slots, ap⟩) (hy : W0 y = yM addr) (hz : W0 z = yM code) (hu : us.map W0 = (slots.take slots.length).map qp) :
  (vs ++ [Vl.mk 0 0 0 0 [] none [y, .mk nonce 0 0 0 [] none [] none 0, .mk ba bb bc bd [] none [] none 0, z, .mk 0 0 0 0 [] none us p 0] p2 0]).map W0 = (accts.take (i + 1)).map fun a => acV a.er := by
 rw [List.map_append, her, Ke hx, List.map_append]
 congr 1
 show [W0 _] = [acV (AcL.er ⟨addr, nonce, ⟨ba, bb, bc, bd⟩, code, slots, ap⟩)]
 rw [List.take_length] at hu; simp only [KB, VK, List.map_cons, List.map_nil, hy, hz, hu]
 rfl
theorem Jx0 (accts : List AcL) : Vl.mk 0 0 0 0 [] none (accts.map fun a => acV a.er) none 0 = Yn (accts.map AcL.er) := by
 unfold Yn KP
 rw [List.map_map]; rfl
open Classical in
theorem Juh (a b : α) (Z Y M U W : List α) : (a :: b :: (Z ++ (Y ++ (M ++ (U ++ W))))).Perm (U ++ (a :: b :: (M ++ (Z ++ (Y ++ W))))) := by
 exact Nr
open Classical in
theorem Jui (a b : α) (Z Y M U F V E : List α) : (a :: b :: (Z ++ (Y ++ (M ++ (U ++ (F ++ (V ++ E))))))).Perm (V ++ (a :: b :: (M ++ (Z ++ (Y ++ (U ++ (F ++ E))))))) := by
 exact Nr
open Classical in
theorem Juj (r a b : α) (M Z Y F W : List α) : (r :: a :: b :: (M ++ (Z ++ (Y ++ (F ++ W))))).Perm (a :: (M ++ (r :: ((b :: (Z ++ (Y ++ F))) ++ W)))) := by
 exact Nr
open Classical in
theorem Juk (r a b : α) (M W : List α) : (r :: a :: b :: (M ++ W)).Perm (a :: (M ++ (r :: (b :: W)))) := by
 exact Nr
def Ac1 (a : AcL) : Prop := a.addr.length ≤ 100000 ∧ a.code.length ≤ 100000 ∧ a.slots.length ≤ 100000 ∧ ∀ x ∈ a.slots, x.1.length ≤ 100000 ∧ x.2.length ≤ 100000
set_option maxHeartbeats 2000000 in
theorem Jjl {p : Pl} (hs : StL.In R ⟨accts, p⟩) (hn : accts.length ≤ 100000) (hb : ∀ a ∈ accts, Ac1 a) : PureT (α := VR (Yn (accts.map AcL.er))) Tryz.prog 54 [Ky accts.length p].toArray (fun y => y.x.val) [] (fun y => y.L) R := by
 have hseg : Seg R accts.length (Xn accts) p := hs.seg
 refine J2 Tryz.func54 rfl rfl fun w => MX fun r1 => ?_; refine GV ?_; refine LN rfl fun r2 => Gc ?_; refine Da ?_; refine kR ?_; refine Jy (σ := Nat × List Vl × Vg × Jj) (fun q => q.1 ≤ accts.length ∧ rowOk 7 q.1 (KC q.2.1) q.2.2.1 ∧ (∀ x ∈ q.2.1, Vl.In q.2.2.2 x) ∧ q.2.1.map W0 = (accts.take q.1).map fun a => acV a.er) (fun q => [(2, QR r1), (3, QR r2), (9, Ky accts.length p), (10, .int .i64 (accts.length : Int)), (11, .int .i64 (q.1 : Int))]) (fun q => (r2, .cells #[.int .u64 0, .int .u64 0, .int .u64 0, .int .u64 0, .slice none 0 0, J3 q.1 q.2.2.1, .int .i64 0] 81 (0, 0)) :: (r1, .cells #[.int .u64 0, .int .u64 0, .int .u64 0, .int .u64 0, .slice none 0 0, .slice none 0 0, .int .i64 0] 81 (0, 0)) :: (JL 81 (KC q.2.1) q.2.2.1 ++ q.2.2.2)) (fun _ _ _ => True) (fun q => accts.length - q.1) (0, [], none, []) ⟨Nat.zero_le _, ⟨rfl, rfl⟩, fun x hx => (nomatch hx), rfl⟩ (lK rfl) n8 (fun _ _ h => h) ?_; rintro ⟨i, vs, row, E⟩ ⟨hi1, hrow, hin, her⟩; simp only at hi1 hrow hin her; refine Nv ?_; refine cD (fun g => ?_) fun g => ?_
 ·refine kX ?_
  obtain ⟨a, ha, hma⟩ := Q0 (show i < accts.length by omega)
  have ha2 := hs.accts a hma
  obtain ⟨hb1, hb2, hb3, hb4⟩ := hb a hma
  obtain ⟨addr, nonce, ⟨ba, bb, bc, bd⟩, code, slots, ap⟩ := a
  have hnu : YK nonce := ha2.nonce
  have hba : W4.ok ⟨ba, bb, bc, bd⟩ := ha2.bal
  have hsg : Seg R slots.length (jq slots) ap := ha2.seg
  simp only at hb1 hb2 hb3 hb4; refine H4 ?_
  refine G3 ?_; refine HT fun r3 => ?_; refine GV ?_; refine LN rfl fun r4 => X6 7 [1] rfl rfl (LR rfl (Jq rfl hsg rfl) (kR ?_)); refine Jy (σ := Nat × List Vl × Vg × Jj) (fun q => q.1 ≤ slots.length ∧ rowOk 7 q.1 (KC q.2.1) q.2.2.1 ∧ (∀ x ∈ q.2.1, Vl.In q.2.2.2 x) ∧ q.2.1.map W0 = (slots.take q.1).map qp) (fun q => [(2, QR r1), (3, QR r2), (5, QR r3), (6, QR r4), (9, Ky accts.length p), (10, .int .i64 (accts.length : Int)), (11, .int .i64 (i : Int)), (16, Ky slots.length ap), (17, .int .i64 (slots.length : Int)), (18, .int .i64 (q.1 : Int))]) (fun q => (r4, .cells #[.int .u64 0, .int .u64 0, .int .u64 0, .int .u64 0, .slice none 0 0, J3 q.1 q.2.2.1, .int .i64 0] 81 (0, 0)) :: (r3, .cells #[Jw addr, uV nonce, uV ba, uV bb, uV bc, uV bd, Jw code, Ky slots.length ap] 34 (0, 0)) :: (r2, .cells #[.int .u64 0, .int .u64 0, .int .u64 0, .int .u64 0, .slice none 0 0, J3 i row, .int .i64 0] 81 (0, 0)) :: (r1, .cells #[.int .u64 0, .int .u64 0, .int .u64 0, .int .u64 0, .slice none 0 0, .slice none 0 0, .int .i64 0] 81 (0, 0)) :: (JL 81 (KC q.2.1) q.2.2.1 ++ (q.2.2.2 ++ (JL 81 (KC vs) row ++ E)))) (fun _ _ _ => True) (fun q => slots.length - q.1) (0, [], none, []) ⟨Nat.zero_le _, ⟨rfl, rfl⟩, fun x hx => (nomatch hx), rfl⟩ (lK rfl) n8 (fun _ _ h => h) ?_; rintro ⟨j, us, rw2, F⟩ ⟨hj1, hrow2, hin2, her2⟩; simp only at hj1 hrow2 hin2 her2; refine Nv ?_; refine cD (fun g => ?_) fun g => ?_
  ·refine kX ?_
   obtain ⟨⟨k, v⟩, hx, hmx⟩ := Q0 (show j < slots.length by omega)
   obtain ⟨hk1, hv1⟩ := hb4 _ hmx
   simp only at hk1 hv1; refine H4 ?_
   refine LR rfl (Jg (j := j) rfl hsg rfl rfl rfl mg m0) (LR rfl (KE Kl oR rfl hsg hx rfl rfl) (LN rfl fun r5 => ?_))
   refine Nm ?_; refine Gj ?_
   refine JJ [(r4, .cells #[.int .u64 0, .int .u64 0, .int .u64 0, .int .u64 0, .slice none 0 0, J3 j rw2, .int .i64 0] 81 (0, 0)), (r5, .cells #[Jw k, Jw v] 59 (0, 0))] [(0, .pure), (1, .pure), (2, .pure), (3, .pure), (4, .grow (Qh (Jqn hk1) (fun y => y.x.val) (fun y => y.L))), (5, .pure), (6, .pure), (7, .grow (Qh (Jqn hv1) (fun y => y.x.val) (fun y => y.L))), (8, .dep [26, 29] (zx 2 81)), (9, .pure), (10, .dep [31] (zx 1 81))] 11 [0, 1, 2, 3, 5, 6, 4, 7, 8, 9, 10] m5 m5 m6 ?_
   refine gt ?_
   refine kw ?_; refine KI (k := 4) rfl rfl rfl rfl rfl Js2 (Jbl hk1) oN fun y => ?_
   obtain ⟨⟨ya, yb, yc, yd, ybits, ypb, yitems, ypi, ypick⟩, yL, yok, yer⟩ := y
   refine KI (k := 7) rfl rfl rfl rfl rfl Js2 (Jbl hv1) oN fun y => ?_
   obtain ⟨⟨za, zb, zc, zd, zbits, zpb, zitems, zpi, zpick⟩, zL, zok, zer⟩ := y
   refine Vh (k := 8) (dv := [_, _]) (n := 2) (sz := 7) (vs := [_, _]) (zs := [_, _, _, _, _, _, _, _, _, _, _, _, _, _]) (r := [uV ya, uV yb, uV yc, uV yd, Ky ybits.length ypb, Ky yitems.length ypi, .int .i64 ypick, uV za, uV zb, uV zc, uV zd, Ky zbits.length zpb, Ky zitems.length zpi, .int .i64 zpick]) rfl rfl rfl rfl rfl rfl rfl rfl rfl rfl rfl rfl rfl mn rfl fun rb => Ji (k := 9) rfl rfl rfl rfl rfl (fun _ hS => (Js (r := [_, _, _, _, _, _, _]) rfl rfl)) (Vh (k := 10) (dv := [_]) (n := 1) (sz := 7) (vs := [_]) (zs := [_, _, _, _, _, _, _]) (r := [.int .u64 0, .int .u64 0, .int .u64 0, .int .u64 0, .slice none 0 0, .slice (some ⟨rb, 0, none⟩) 2 2, .int .i64 0]) rfl rfl rfl rfl rfl rfl rfl rfl rfl rfl rfl rfl rfl mn rfl fun rc => Kk (JY (Juh (M := [_, _, _, _, _]) ..) (JF (L0 := _) (xs := KC us) (row := rw2) (n := j) (sz := 7) (b := 88) (news := [_, _, _, _, _, _, _]) (List.Perm.refl _) rfl rfl rfl rfl (kn 0 rfl) rfl rfl rfl rfl rfl m7 rfl rfl rfl m7 hrow2 m0 m0 fun ra cap sp hra => ?_)))
   refine LS 1 [] rfl rfl (Kt (k := 4) (cs' := #[.int .u64 0, .int .u64 0, .int .u64 0, .int .u64 0, .slice none 0 0, J3 (j + 1) (some (ra, cap, sp)), .int .i64 0]) rfl rfl rfl rfl rfl rfl rfl rfl rfl rfl (ND ?_)); refine Jk mJ (Dy ?_)
   have hvc : KC us ++ Vl.cells (.mk 0 0 0 0 [] none [(.mk ya yb yc yd ybits ypb yitems ypi ypick), (.mk za zb zc zd zbits zpb zitems zpi zpick)] (some (⟨rb, 0, none⟩, 2)) 0) = KC (us ++ [.mk 0 0 0 0 [] none [(.mk ya yb yc yd ybits ypb yitems ypi ypick), (.mk za zb zc zd zbits zpb zitems zpi zpick)] (some (⟨rb, 0, none⟩, 2)) 0]) := by unfold KC; rw [List.flatMap_append]; simp
   refine VI (Juj (M := [_, _, _, _, _]) ..) ?_; exact Jr (j + 1, us ++ [.mk 0 0 0 0 [] none [(.mk ya yb yc yd ybits ypb yitems ypi ypick), (.mk za zb zc zd zbits zpb zitems zpi zpick)] (some (⟨rb, 0, none⟩, 2)) 0], some (ra, cap, sp), _ :: (zL ++ (yL ++ F))) ⟨by simp only; omega, by simp only; rw [← hvc]; exact hra, fun z hz => Jxw hin2 yok zok hz, Jxx her2 hx yer zer⟩ ml (lK rfl) mK (fun _ _ h => h)
  ·refine kX ?_
   obtain rfl : j = slots.length := by omega
   have hul : us.length = slots.length := by have := congrArg List.length her2; simpa using this
   have hvr2 : J3 slots.length rw2 = Ky us.length (QD rw2) := by rw [hul]; exact (VE _ _ (fun h => by rw [h] at hrow2; exact hrow2.1)).symm
   rw [hvr2]
   refine JJ [(r2, .cells #[.int .u64 0, .int .u64 0, .int .u64 0, .int .u64 0, .slice none 0 0, J3 i row, .int .i64 0] 81 (0, 0)), (r3, .cells #[Jw addr, uV nonce, uV ba, uV bb, uV bc, uV bd, Jw code, Ky slots.length ap] 34 (0, 0)), (r4, .cells #[.int .u64 0, .int .u64 0, .int .u64 0, .int .u64 0, .slice none 0 0, Ky us.length (QD rw2), .int .i64 0] 81 (0, 0))] [(0, .pure), (1, .pure), (2, .pure), (3, .pure), (4, .grow (Qh (Jqn hb1) (fun y => y.x.val) (fun y => y.L))), (5, .pure), (6, .pure), (7, .pure), (8, .pure), (9, .pure), (10, .pure), (11, .pure), (12, .pure), (13, .pure), (14, .grow (Qh (Jqn hb2) (fun y => y.x.val) (fun y => y.L))), (15, .pure), (16, .dep [40, 44, 47, 50, 51] (zx 5 81)), (17, .pure), (18, .dep [53] (zx 1 81))] 19 [0, 1, 2, 3, 5, 6, 9, 10, 11, 12, 13, 15, 4, 7, 8, 14, 16, 17, 18] m5 m5 m6 ?_
   refine gt ?_
   refine kw ?_
   refine Ji (k := 9) rfl rfl rfl rfl rfl (fun _ hS => (J5 rfl rfl rfl)) (Ji (k := 10) rfl rfl rfl rfl rfl (fun _ hS => (Jo (vs := [_, _, _, _]) rfl (.inl (hS _ (Kn (n := 1) rfl))) rfl rfl rfl rfl)) (Ji (k := 11) rfl rfl rfl rfl rfl (fun _ hS => (Js (r := [_, _, _, _, _, _, _]) rfl rfl)) ?_))
   refine Ji (k := 12) rfl rfl rfl rfl rfl (fun _ hS => (J5 rfl rfl rfl)) (Ji (k := 13) rfl rfl rfl rfl rfl (fun _ hS => (Je rfl (.inl (hS _ (Kn (n := 1) rfl))) rfl rfl)) (Ji (k := 15) rfl rfl rfl rfl rfl (fun _ hS => (Jo (vs := [_, _, _, _, _, _, _]) rfl (.inl (hS _ (Kn (n := 2) rfl))) rfl rfl rfl rfl)) (KI (k := 4) rfl rfl rfl rfl rfl Js2 (Jbl hb1) oN fun y => ?_)))
   obtain ⟨⟨ya, yb, yc, yd, ybits, ypb, yitems, ypi, ypick⟩, yL, yok, yer⟩ := y
   refine Ws (k := 7) rfl rfl rfl rfl rfl Joc (Y0 _) (Ji (k := 8) rfl rfl rfl rfl rfl (fun _ hS => (Js (r := [_, _, _, _, _, _, _]) rfl rfl)) (KI (k := 14) rfl rfl rfl rfl rfl Js2 (Jbl hb2) oN fun y => ?_))
   obtain ⟨⟨za, zb, zc, zd, zbits, zpb, zitems, zpi, zpick⟩, zL, zok, zer⟩ := y
   refine Vh (k := 16) (dv := [_, _, _, _, _]) (n := 5) (sz := 7) (vs := [_, _, _, _, _]) (zs := [_, _, _, _, _, _, _, _, _, _, _, _, _, _, _, _, _, _, _, _, _, _, _, _, _, _, _, _, _, _, _, _, _, _, _]) (r := [uV ya, uV yb, uV yc, uV yd, Ky ybits.length ypb, Ky yitems.length ypi, .int .i64 ypick, uV nonce, uV 0, uV 0, uV 0, .slice none 0 0, .slice none 0 0, .int .i64 0, uV ba, uV bb, uV bc, uV bd, .slice none 0 0, .slice none 0 0, .int .i64 0, uV za, uV zb, uV zc, uV zd, Ky zbits.length zpb, Ky zitems.length zpi, .int .i64 zpick, uV 0, uV 0, uV 0, uV 0, .slice none 0 0, Ky us.length (QD rw2), .int .i64 0]) rfl rfl rfl rfl rfl rfl rfl rfl rfl rfl rfl rfl rfl mn rfl fun rb => Ji (k := 17) rfl rfl rfl rfl rfl (fun _ hS => (Js (r := [_, _, _, _, _, _, _]) rfl rfl)) (Vh (k := 18) (dv := [_]) (n := 1) (sz := 7) (vs := [_]) (zs := [_, _, _, _, _, _, _]) (r := [.int .u64 0, .int .u64 0, .int .u64 0, .int .u64 0, .slice none 0 0, .slice (some ⟨rb, 0, none⟩) 5 5, .int .i64 0]) rfl rfl rfl rfl rfl rfl rfl rfl rfl rfl rfl rfl rfl mn rfl fun rc => Kk (JY (Jui (M := [_, _, _, _]) ..) (JF (L0 := _) (xs := KC vs) (row := row) (n := i) (sz := 7) (b := 88) (news := [_, _, _, _, _, _, _]) (List.Perm.refl _) rfl rfl rfl rfl (kn 0 rfl) rfl rfl rfl rfl rfl m7 rfl rfl rfl m7 hrow m0 m0 fun ra cap sp hra => ?_)))
   refine LS 1 [] rfl rfl (Kt (k := 5) (cs' := #[.int .u64 0, .int .u64 0, .int .u64 0, .int .u64 0, .slice none 0 0, J3 (i + 1) (some (ra, cap, sp)), .int .i64 0]) rfl rfl rfl rfl rfl rfl rfl rfl rfl rfl (ND ?_)); refine Nf ?_
   have hvc : KC vs ++ Vl.cells (.mk 0 0 0 0 [] none [(.mk ya yb yc yd ybits ypb yitems ypi ypick), (.mk nonce 0 0 0 [] none [] none 0), (.mk ba bb bc bd [] none [] none 0), (.mk za zb zc zd zbits zpb zitems zpi zpick), .mk 0 0 0 0 [] none us (QD rw2) 0] (some (⟨rb, 0, none⟩, 5)) 0) = KC (vs ++ [.mk 0 0 0 0 [] none [(.mk ya yb yc yd ybits ypb yitems ypi ypick), (.mk nonce 0 0 0 [] none [] none 0), (.mk ba bb bc bd [] none [] none 0), (.mk za zb zc zd zbits zpb zitems zpi zpick), .mk 0 0 0 0 [] none us (QD rw2) 0] (some (⟨rb, 0, none⟩, 5)) 0]) := by unfold KC; rw [List.flatMap_append]; simp
   refine VI (Juk (M := [_, _, _, _]) ..) ?_; exact Jr (i + 1, vs ++ [.mk 0 0 0 0 [] none [(.mk ya yb yc yd ybits ypb yitems ypi ypick), (.mk nonce 0 0 0 [] none [] none 0), (.mk ba bb bc bd [] none [] none 0), (.mk za zb zc zd zbits zpb zitems zpi zpick), .mk 0 0 0 0 [] none us (QD rw2) 0] (some (⟨rb, 0, none⟩, 5)) 0], some (ra, cap, sp), _ :: (zL ++ (yL ++ (_ ++ (F ++ E))))) ⟨by simp only; omega, by simp only; rw [← hvc]; exact hra, fun z hz => Jxy hin (KY hrow2 m7) hul hb3 hin2 hnu hba yok zok hz, Jxz her ha yer zer her2⟩ ml (lK rfl) mX (fun _ _ h => h)
 ·refine Nv ?_
  have honeV : ([.int .u64 0, .int .u64 0, .int .u64 0, .int .u64 0, .slice none 0 0, J3 i row, .int .i64 0] : List Value).all QW = true := by cases row <;> rfl
  refine Na fun w1 hs1 => ?_
  have hiM : i = accts.length := by omega
  have hvl : vs.length = i := by have := congrArg List.length her; simp at this; omega
  rw [hiM, List.take_length] at her; rw [← hvl] at hrow
  have hvr : J3 i row = Ky vs.length (QD row) := by rw [← hvl]; exact (VE _ _ (fun h => by rw [h] at hrow; exact hrow.1)).symm
  exact ⟨⟨.mk 0 0 0 0 [] none vs (QD row) 0, JL 81 (KC vs) row ++ E, XM m0 (KY hrow m7) hin i0, by rw [KB, VK, her]; exact Jx0 ..⟩, congrArg (fun z => Ending.returned (Value.agg #[.int .u64 0, .int .u64 0, .int .u64 0, .int .u64 0, .slice none 0 0, z, .int .i64 0])) hvr, hs1.weakL (.cons _ (.cons _ (List.Sublist.refl _)))⟩
def vA (x : AcL) : Value := .agg (AcL.cells x).toArray
theorem Jbs (x : AcL) : Pure Tryz.prog 39 [vA x].toArray (Jw (AcL.addr x)) := by
 refine J8 Tryz.func39 rfl rfl fun w => ?_; exact Hb
theorem Jqp {xs : List AcL} {p : Pl} (hl : xs.length ≤ 9223372036854775807) (hs : Seg R xs.length (xs.flatMap AcL.cells) p) {pr : AcL → Bool} (eg : Enters Tryz.prog g) (hg : ∀ x ∈ xs, PureR Tryz.prog g (vA x :: caps).toArray (.bool (pr x)) R) :
  PureR Tryz.prog 34 [Ky xs.length p, .func (.func g) #[] caps.toArray].toArray (.int .i64 (YN pr xs)) R := by
 refine Ja Tryz.func34 rfl rfl fun w => NQ ?_; rintro i ⟨hi1, hinv⟩; refine Nv ?_; refine cD (fun h6 => ?_) fun h6 => ?_
 refine JE 11 rfl ?_
 obtain ⟨x, hx, hmx⟩ := Q0 ng
 refine Gx ?_
 refine gi ?_; refine LR rfl (KE AcL.len oR rfl hs hx rfl rfl) (Jb rfl rfl rfl eg (hg x hmx) oR (Gj ?_)); refine cD (fun h10 => ?_) fun h10 => ?_
 refine GR fun w1 hs1 => ?_; rw [Jcz hx m9 hinv]; rfl
 refine G6 ?_
 exact Jr (i + 1) ⟨by omega, fun j hj y hy => by
  rcases Nat.lt_succ_iff_lt_or_eq.1 hj with hj | rfl
  exact hinv j hj y hy
  rw [hx] at hy; cases hy; assumption⟩ m0 (lK rfl) (List.nil_sublist _) (fun _ _ h => h)
 ·exact H3
theorem Jqq {xs : List AcL} {p : Pl} (hl : xs.length ≤ 9223372036854775807) (hs : Seg R xs.length (xs.flatMap AcL.cells) p) :
  PureR Tryz.prog 38 [Ky xs.length p, fV 39].toArray (.bool (QS AcL.addr xs)) R := by
 refine Ja Tryz.func38 rfl rfl fun w => Hw ?_; refine Jy (σ := Nat) (fun i => (i = 0 ∨ i < xs.length) ∧ ∀ j x y, j < i → xs[j]? = some x → xs[j + 1]? = some y → Op.bytesLess (AcL.addr x) (AcL.addr y) = true) (fun i => [(0, Ky xs.length p), (1, fV 39), (5, .int .i64 ((i + 1 : Nat) : Int))]) (fun _ => []) (fun _ _ _ => True) (fun i => xs.length - i) 0 ⟨.inl rfl, fun j _ _ hj => absurd hj m0⟩ (lK rfl) (List.nil_sublist _) (fun _ _ h => h) ?_; rintro i ⟨hi1, hinv⟩; refine kS ?_; refine Ni ?_; refine NR ?_; refine cD (fun g => ?_) fun g => ?_
 refine kX ?_
 obtain ⟨x, hx, hmx⟩ := Q0 ng
 obtain ⟨y, hy, hmy⟩ := Q0 (show i + 1 < xs.length by omega)
 refine JX 14 m5 m5 (NK ?_); refine kU ?_; refine V9 m0 m0 ?_
 refine H1 ?_; refine Jc rfl rfl rfl (KE AcL.len oR rfl hs hx rfl rfl) (Qt rfl rfl rfl Jsy (Jbs x) (NK ?_)); refine MY ?_
 refine Jc rfl rfl rfl (Jg (j := (i + 1)) rfl hs rfl rfl rfl mg m0) (Jc rfl rfl rfl (KE AcL.len oR rfl hs hy rfl rfl) (Qt rfl rfl rfl Jsy (Jbs y) (Jc rfl rfl rfl (Jhy rfl rfl) (Kv (Gj ?_))))); refine cD (fun g => ?_) fun g => ?_
 refine kd fun w1 hs1 => ?_; rw [jY hx hy mz]; rfl
 refine gY ?_; refine N0 ?_
 exact Jr (i + 1) ⟨.inr m0, fun j u v hj hu hv => by
  rcases Nat.lt_succ_iff_lt_or_eq.1 hj with hj | rfl
  exact hinv j u v hj hu hv
  rw [hx] at hu; rw [hy] at hv; cases hu; cases hv; simp_all⟩ m0 (lK rfl) (List.nil_sublist _) (fun _ _ h => h)
 ·exact GG
def vS (x : (BS × BS)) : Value := .agg (Vi x).toArray
theorem Jbt (x : (BS × BS)) : Pure Tryz.prog 48 [vS x].toArray (Jw (Prod.fst x)) := by
 refine J8 Tryz.func48 rfl rfl fun w => ?_; exact Hb
theorem yS {p : Pl} (hl : xs.length ≤ 9223372036854775807) (hs : Seg R xs.length (xs.flatMap Vi) p) {pr : (BS × BS) → Bool} (eg : Enters Tryz.prog g) (hg : ∀ x ∈ xs, PureR Tryz.prog g (vS x :: caps).toArray (.bool (pr x)) R) :
  PureR Tryz.prog 40 [Ky xs.length p, .func (.func g) #[] caps.toArray].toArray (.int .i64 (YN pr xs)) R := by
 refine Ja Tryz.func40 rfl rfl fun w => NQ ?_; rintro i ⟨hi1, hinv⟩; refine Nv ?_; refine cD (fun h6 => ?_) fun h6 => ?_
 refine JE 11 rfl ?_
 obtain ⟨x, hx, hmx⟩ := Q0 ng
 refine Gx ?_
 refine gi ?_; refine LR rfl (KE Kl oR rfl hs hx rfl rfl) (Jb rfl rfl rfl eg (hg x hmx) oR (Gj ?_)); refine cD (fun h10 => ?_) fun h10 => ?_
 refine GR fun w1 hs1 => ?_; rw [Jcz hx m9 hinv]; rfl
 refine G6 ?_
 exact Jr (i + 1) ⟨by omega, fun j hj y hy => by
  rcases Nat.lt_succ_iff_lt_or_eq.1 hj with hj | rfl
  exact hinv j hj y hy
  rw [hx] at hy; cases hy; assumption⟩ m0 (lK rfl) (List.nil_sublist _) (fun _ _ h => h)
 ·exact H3
theorem Jqr {p : Pl} (hl : xs.length ≤ 9223372036854775807) (hs : Seg R xs.length (xs.flatMap Vi) p) :
  PureR Tryz.prog 68 [Ky xs.length p, fV 48].toArray (.bool (QS Prod.fst xs)) R := by
 refine Ja Tryz.func68 rfl rfl fun w => Hw ?_; refine Jy (σ := Nat) (fun i => (i = 0 ∨ i < xs.length) ∧ ∀ j x y, j < i → xs[j]? = some x → xs[j + 1]? = some y → Op.bytesLess (Prod.fst x) (Prod.fst y) = true) (fun i => [(0, Ky xs.length p), (1, fV 48), (5, .int .i64 ((i + 1 : Nat) : Int))]) (fun _ => []) (fun _ _ _ => True) (fun i => xs.length - i) 0 ⟨.inl rfl, fun j _ _ hj => absurd hj m0⟩ (lK rfl) (List.nil_sublist _) (fun _ _ h => h) ?_; rintro i ⟨hi1, hinv⟩; refine kS ?_; refine Ni ?_; refine NR ?_; refine cD (fun g => ?_) fun g => ?_
 refine kX ?_
 obtain ⟨x, hx, hmx⟩ := Q0 ng
 obtain ⟨y, hy, hmy⟩ := Q0 (show i + 1 < xs.length by omega)
 refine JX 14 m5 m5 (NK ?_); refine kU ?_; refine V9 m0 m0 ?_
 refine H1 ?_; refine Jc rfl rfl rfl (KE Kl oR rfl hs hx rfl rfl) (Qt rfl rfl rfl Jsz (Jbt x) (NK ?_)); refine MY ?_
 refine Jc rfl rfl rfl (Jg (j := (i + 1)) rfl hs rfl rfl rfl mg m0) (Jc rfl rfl rfl (KE Kl oR rfl hs hy rfl rfl) (Qt rfl rfl rfl Jsz (Jbt y) (Jc rfl rfl rfl (Jhy rfl rfl) (Kv (Gj ?_))))); refine cD (fun g => ?_) fun g => ?_
 refine kd fun w1 hs1 => ?_; rw [jY hx hy mz]; rfl
 refine gY ?_; refine N0 ?_
 exact Jr (i + 1) ⟨.inr m0, fun j u v hj hu hv => by
  rcases Nat.lt_succ_iff_lt_or_eq.1 hj with hj | rfl
  exact hinv j u v hj hu hv
  rw [hx] at hu; rw [hy] at hv; cases hu; cases hv; simp_all⟩ m0 (lK rfl) (List.nil_sublist _) (fun _ _ h => h)
 ·exact GG
theorem Jul (a : BS) : (!decide (a = a)) = false := by simp
theorem Jjm (a : BS) : Pure Tryz.prog 158 [Jw a].toArray (.bool false) := by
 refine J8 Tryz.func158 rfl rfl fun w => gc ?_; refine LR rfl (ZL rfl rfl) (Jk (congrArg Value.bool (Jul a)) ?_); exact Nz
theorem xr (a b : BS) : Pure Tryz.prog 106 [Jw a, Jw b].toArray (.int .i64 (vy a b)) := by
 refine J8 Tryz.func106 rfl rfl fun w => GS ?_; refine J6 rfl rfl rfl (enters_of Tryz.func158 m5 rfl) (Jjm a) (Gc ?_); refine J6 rfl rfl rfl (enters_of Tryz.func158 m5 rfl) (Jjm b) (HW ?_); refine JH rfl (fun g => ?_) (fun g => ?_)
 try exact Bool.noConfusion g
 ·try simp only [ZZ] at g
  refine JE 8 rfl (JH rfl (fun g => ?_) (fun g => ?_))
  try exact Bool.noConfusion g
  ·try simp only [ZZ] at g
   refine Jt 7 rfl (LR rfl (Jr2 rfl rfl) (Gj ?_)); refine cD (fun g => ?_) fun g => ?_
   refine g8 fun w1 hs1 => ?_
   unfold vy
   simp_all [JC]
   ·refine Jt 7 rfl (LR rfl (Jaj rfl rfl) (Gj ?_)); refine cD (fun g => ?_) fun g => ?_
    refine g8 fun w1 hs1 => ?_
    unfold vy
    simp_all [JC]
    ·refine D9 fun w1 hs1 => ?_
     unfold vy
     simp_all [JC]
theorem Jqs : Lib.repeatL [0] 32 = V2 := by decide +kernel
theorem Jgx : Pure Tryz.prog 42 [].toArray (Jw V2) := by
 rw [← Jqs]; refine J8 Tryz.func42 rfl rfl fun w => DI ?_; refine J6 rfl rfl rfl Jwy (qH (n := 32) m7) ?_; exact Nz
theorem Jze (hb : (rb, Obj.cells #[fV 39] e (0, 0)) ∈ R) (x : AcL) (k : BS) : PureR Tryz.prog 105 [vA x, Jw k, .pointer (some ⟨rb, 0, none⟩)].toArray (.int .i64 (vy (AcL.addr x) k)) R := by
 refine Ja Tryz.func105 rfl rfl fun w => MX fun r1 => ?_; refine ND ?_; refine LR rfl (Je rfl (Or.inr hb) rfl rfl) (LR rfl (Jo (vs := [_, _, _, _, _, _, _, _]) rfl (kn 0 rfl) rfl rfl rfl rfl) (J6 rfl rfl rfl Jsy (Jbs x) (QK rfl (J6 rfl rfl rfl (enters_of Tryz.func106 m5 rfl) (xr (AcL.addr x) k) (Jz 4 rfl ?_))))); exact Nc
theorem Jlk {xs : List AcL} {p : Pl} (hl : xs.length ≤ 1000) (hs : Seg R xs.length (xs.flatMap AcL.cells) p) (hso : KN AcL.addr xs) {k : BS} (eg : Enters Tryz.prog g) (hg : ∀ x ∈ xs, PureR Tryz.prog g (vA x :: Jw k :: caps).toArray (.int .i64 (vy (AcL.addr x) k)) R) :
  PureR Tryz.prog 104 [Ky xs.length p, Jw k, .func (.func g) #[] caps.toArray].toArray (.tuple #[.int .i64 (j9 AcL.addr k xs : Nat), .bool (Wh AcL.addr k xs)]) R := by
 refine Ja Tryz.func104 rfl rfl fun w => gc ?_; refine Ni ?_; refine JQ 12 rfl (Jy (σ := Nat × Nat) (fun s => (s.1 ≤ s.2 ∧ s.2 ≤ xs.length) ∧ (∀ q y, q < s.1 → xs[q]? = some y → Op.bytesLess (AcL.addr y) k = true) ∧ ∀ q y, s.2 ≤ q → xs[q]? = some y → Op.bytesLess (AcL.addr y) k = false) (fun s => [(0, Ky xs.length p), (1, Jw k), (2, .func (.func g) #[] caps.toArray), (8, .int .i64 (xs.length : Int)), (9, .int .i64 (s.1 : Int)), (10, .int .i64 (s.2 : Int))]) (fun _ => []) (fun _ _ _ => True) (fun s => s.2 - s.1) (0, xs.length) ⟨⟨Nat.zero_le _, Nat.le_refl _⟩, fun q _ hq => absurd hq (Nat.not_lt_zero q), fun q y hq hy => absurd (List.getElem?_eq_some_iff.1 hy).1 m0⟩ (lK rfl) (List.nil_sublist _) (fun _ _ h => h) ?_); rintro ⟨i, j⟩ ⟨⟨hi0, hj0⟩, hi1, hi2⟩; simp only at hi0 hj0 hi1 hi2; refine D5 ?_; refine cD (fun h7 => ?_) fun h7 => ?_
 refine Gm ?_
 obtain ⟨x, hx, hmx⟩ := Q0 (show (i + j) / 2 < xs.length by omega)
 refine Gx ?_
 refine LR rfl (Jg (j := ((i + j) / 2)) rfl hs rfl rfl rfl mg m0) (LR rfl (KE AcL.len oR rfl hs hx rfl rfl) (QK rfl (Jb rfl rfl rfl eg (hg x hmx) oR ?_))); refine V7 rfl (Jk (congrArg Value.bool (Jh1 (AcL.addr x) k)) (JQ 2 rfl ?_)); refine cD (fun h10 => ?_) fun h10 => ?_
 exact gs
 exact gQ
 ·refine Nv ?_
  have hij : i = j := by omega
  have hlo : i = j9 AcL.addr k xs := Jnl m0 hi1 (fun y hy => hi2 i y m0 hy)
  refine gY ?_
  refine Jp 39 rfl (fun gb => ?_) (fun gb => ?_) <;> (try simp only [ZZ] at gb) <;> first | (refine QK rfl ?_) | (refine LK rfl ?_)
  all_goals refine Gv ?_
  all_goals first | (obtain ⟨x, hx, hmx⟩ := Q0 ng; refine LR rfl (Jg (j := i) rfl hs rfl rfl rfl mg m0) ?_) | refine LK rfl ?_
  all_goals first | refine LR rfl (KE AcL.len oR rfl hs hx rfl rfl) ?_ | refine LK rfl ?_
  all_goals refine LW 1 [] rfl rfl ?_
  all_goals first | refine Jb rfl rfl rfl eg (hg x hmx) oR ?_ | refine LK rfl ?_
  all_goals first | (refine V7 rfl ?_; refine Jk (congrArg Value.bool (Jc0 (AcL.addr x) k)) ?_) | refine LK rfl ?_
  all_goals (
   refine LW 1 [] rfl rfl (Jz 3 rfl (Yh 2 rfl ?_)); refine Nl fun w1 hs1 => ?_
   first | (rw [← Jc3 (kf := AcL.addr) (hlo ▸ hx), ← hlo]; rfl) | (rw [qF (kf := AcL.addr) m0, ← hlo]; rfl)
   skip)
theorem Jqt {xs : List AcL} {p : Pl} (hl : xs.length ≤ 1000) (hs : Seg R xs.length (xs.flatMap AcL.cells) p) (hso : KN AcL.addr xs) {k : BS} :
  PureR Tryz.prog 70 [Ky xs.length p, Jw k, fV 39].toArray (.tuple #[.int .i64 (j9 AcL.addr k xs : Nat), .bool (Wh AcL.addr k xs)]) R := by
 refine Ja Tryz.func70 rfl rfl fun w => MX fun r1 => ?_; refine JK 8 rfl (gZ ?_); refine Jb (Rl := (r1, Obj.cells #[fV 39] _ (0, 0)) :: R) rfl rfl rfl (enters_of Tryz.func104 m5 rfl) (Jlk (caps := [.pointer (some ⟨r1, 0, none⟩)]) hl (hs.mono fun q hq => List.mem_cons_of_mem _ hq) hso (enters_of Tryz.func105 m5 rfl) (fun x hx => Jze List.mem_cons_self x k)) (fun q hq => (List.mem_cons.1 hq).elim (fun h => Or.inl (by rw [h]; exact List.mem_cons_self)) Or.inr) (Jz 7 rfl (MZ fun w1 hs1 => ?_)); exact N4
theorem Jzf (hb : (rb, Obj.cells #[fV 48] e (0, 0)) ∈ R) (x : (BS × BS)) (k : BS) : PureR Tryz.prog 110 [vS x, Jw k, .pointer (some ⟨rb, 0, none⟩)].toArray (.int .i64 (vy (Prod.fst x) k)) R := by
 refine Ja Tryz.func110 rfl rfl fun w => MX fun r1 => ?_; refine ND ?_; refine LR rfl (Je rfl (Or.inr hb) rfl rfl) (LR rfl (Jo (vs := [_, _]) rfl (kn 0 rfl) rfl rfl rfl rfl) (J6 rfl rfl rfl Jsz (Jbt x) (QK rfl (J6 rfl rfl rfl (enters_of Tryz.func106 m5 rfl) (xr (Prod.fst x) k) (Jz 4 rfl ?_))))); exact Nc
theorem Jll {p : Pl} (hl : xs.length ≤ 1000) (hs : Seg R xs.length (xs.flatMap Vi) p) (hso : KN Prod.fst xs) {k : BS} (eg : Enters Tryz.prog g) (hg : ∀ x ∈ xs, PureR Tryz.prog g (vS x :: Jw k :: caps).toArray (.int .i64 (vy (Prod.fst x) k)) R) :
  PureR Tryz.prog 109 [Ky xs.length p, Jw k, .func (.func g) #[] caps.toArray].toArray (.tuple #[.int .i64 (j9 Prod.fst k xs : Nat), .bool (Wh Prod.fst k xs)]) R := by
 refine Ja Tryz.func109 rfl rfl fun w => gc ?_; refine Ni ?_; refine JQ 12 rfl (Jy (σ := Nat × Nat) (fun s => (s.1 ≤ s.2 ∧ s.2 ≤ xs.length) ∧ (∀ q y, q < s.1 → xs[q]? = some y → Op.bytesLess (Prod.fst y) k = true) ∧ ∀ q y, s.2 ≤ q → xs[q]? = some y → Op.bytesLess (Prod.fst y) k = false) (fun s => [(0, Ky xs.length p), (1, Jw k), (2, .func (.func g) #[] caps.toArray), (8, .int .i64 (xs.length : Int)), (9, .int .i64 (s.1 : Int)), (10, .int .i64 (s.2 : Int))]) (fun _ => []) (fun _ _ _ => True) (fun s => s.2 - s.1) (0, xs.length) ⟨⟨Nat.zero_le _, Nat.le_refl _⟩, fun q _ hq => absurd hq (Nat.not_lt_zero q), fun q y hq hy => absurd (List.getElem?_eq_some_iff.1 hy).1 m0⟩ (lK rfl) (List.nil_sublist _) (fun _ _ h => h) ?_); rintro ⟨i, j⟩ ⟨⟨hi0, hj0⟩, hi1, hi2⟩; simp only at hi0 hj0 hi1 hi2; refine D5 ?_; refine cD (fun h7 => ?_) fun h7 => ?_
 refine Gm ?_
 obtain ⟨x, hx, hmx⟩ := Q0 (show (i + j) / 2 < xs.length by omega)
 refine Gx ?_
 refine LR rfl (Jg (j := ((i + j) / 2)) rfl hs rfl rfl rfl mg m0) (LR rfl (KE Kl oR rfl hs hx rfl rfl) (QK rfl (Jb rfl rfl rfl eg (hg x hmx) oR ?_))); refine V7 rfl (Jk (congrArg Value.bool (Jh1 (Prod.fst x) k)) (JQ 2 rfl ?_)); refine cD (fun h10 => ?_) fun h10 => ?_
 exact gs
 exact gQ
 ·refine Nv ?_
  have hij : i = j := by omega
  have hlo : i = j9 Prod.fst k xs := Jnl m0 hi1 (fun y hy => hi2 i y m0 hy)
  refine gY ?_
  refine Jp 39 rfl (fun gb => ?_) (fun gb => ?_) <;> (try simp only [ZZ] at gb) <;> first | (refine QK rfl ?_) | (refine LK rfl ?_)
  all_goals refine Gv ?_
  all_goals first | (obtain ⟨x, hx, hmx⟩ := Q0 ng; refine LR rfl (Jg (j := i) rfl hs rfl rfl rfl mg m0) ?_) | refine LK rfl ?_
  all_goals first | refine LR rfl (KE Kl oR rfl hs hx rfl rfl) ?_ | refine LK rfl ?_
  all_goals refine LW 1 [] rfl rfl ?_
  all_goals first | refine Jb rfl rfl rfl eg (hg x hmx) oR ?_ | refine LK rfl ?_
  all_goals first | (refine V7 rfl ?_; refine Jk (congrArg Value.bool (Jc0 (Prod.fst x) k)) ?_) | refine LK rfl ?_
  all_goals (
   refine LW 1 [] rfl rfl (Jz 3 rfl (Yh 2 rfl ?_)); refine Nl fun w1 hs1 => ?_
   first | (rw [← Jc3 (kf := Prod.fst) (hlo ▸ hx), ← hlo]; rfl) | (rw [qF (kf := Prod.fst) m0, ← hlo]; rfl)
   skip)
theorem Jqu {p : Pl} (hl : xs.length ≤ 1000) (hs : Seg R xs.length (xs.flatMap Vi) p) (hso : KN Prod.fst xs) {k : BS} :
  PureR Tryz.prog 73 [Ky xs.length p, Jw k, fV 48].toArray (.tuple #[.int .i64 (j9 Prod.fst k xs : Nat), .bool (Wh Prod.fst k xs)]) R := by
 refine Ja Tryz.func73 rfl rfl fun w => MX fun r1 => ?_; refine JK 8 rfl (gZ ?_); refine Jb (Rl := (r1, Obj.cells #[fV 48] _ (0, 0)) :: R) rfl rfl rfl (enters_of Tryz.func109 m5 rfl) (Jll (caps := [.pointer (some ⟨r1, 0, none⟩)]) hl (hs.mono fun q hq => List.mem_cons_of_mem _ hq) hso (enters_of Tryz.func110 m5 rfl) (fun x hx => Jzf List.mem_cons_self x k)) (fun q hq => (List.mem_cons.1 hq).elim (fun h => Or.inl (by rw [h]; exact List.mem_cons_self)) Or.inr) (Jz 7 rfl (MZ fun w1 hs1 => ?_)); exact N4
theorem Jqv {xs : List AcL} {p : Pl} (hl : xs.length ≤ 1000) (hs : Seg R xs.length (xs.flatMap AcL.cells) p) :
  PureT (α := { row : Vg // rowOk 8 xs.length (xs.flatMap AcL.cells) row }) Tryz.prog 71 [Ky xs.length p].toArray (fun x => J3 xs.length x.1) [] (fun x => JL 34 (xs.flatMap AcL.cells) x.1) R := by
 cases p with
 | none =>
  have h0 : xs = [] := List.length_eq_zero_iff.1 hs
  subst h0; refine J2 Tryz.func71 rfl rfl fun w => Hw ?_; refine cD (fun g => ?_) fun g => ?_
  exact GQ
  try exact Bool.noConfusion g
 | some q =>
  refine J2 Tryz.func71 rfl rfl fun w => Hw ?_; refine JH rfl (fun g => ?_) (fun g => ?_)
  try exact Bool.noConfusion g
  ·refine Gx ?_; refine XB rfl rfl rfl rfl fun r1 => QK rfl (wQ (k := 0) (b := 96) (sz := 8) rfl rfl rfl rfl rfl rfl hs oR rfl rfl rfl rfl rfl m7 (Qd AcL.len xs) (YO AcL.one xs) m0 m0 fun row hrow => (Jz 4 rfl ?_)); exact gN
theorem Jlm {xs : List AcL} (hl : xs.length ≤ 1000) (hrow : rowOk 8 xs.length (xs.flatMap AcL.cells) row) (hi : i ≤ xs.length) {y : AcL} (hv : (rv, Obj.cells (AcL.cells y).toArray 34 (0, 0)) ∈ R) :
  PureT (α := { row' : Vg // rowOk 8 (xs.length + 1) ((xs.take i ++ y :: xs.drop i).flatMap AcL.cells) row' }) Tryz.prog 72 [J3 xs.length row, .int .i64 (i : Int), .slice (some ⟨rv, 0, none⟩) 1 1].toArray (fun x => J3 (xs.length + 1) x.1) (JL 34 (xs.flatMap AcL.cells) row) (fun x => JL 34 ((xs.take i ++ y :: xs.drop i).flatMap AcL.cells) x.1) R := by
 obtain ⟨A, hA⟩ : ∃ A, A = (xs.take i).flatMap AcL.cells := ⟨_, rfl⟩
 obtain ⟨B, hB⟩ : ∃ B, B = (xs.drop i).flatMap AcL.cells := ⟨_, rfl⟩
 obtain ⟨n, hn⟩ : ∃ n, n = xs.length := ⟨_, rfl⟩
 have e1 : xs.flatMap AcL.cells = A ++ B := by rw [hA, hB, ← List.flatMap_append, List.take_append_drop]
 have e2 : (xs.take i ++ y :: xs.drop i).flatMap AcL.cells = A ++ (AcL.cells y ++ B) := by rw [List.flatMap_append, List.flatMap_cons, hA, hB]
 have lA : A.length = i * 8 := by rw [hA, Qd AcL.len, List.length_take, Nat.min_eq_left hi]
 have lB : B.length = (n - i) * 8 := by rw [hB, Qd AcL.len, List.length_drop, hn]
 have lF : (AcL.cells y).length = 8 := AcL.len y
 have oF : (AcL.cells y).all QW = true := AcL.one y
 have oA : A.all QW = true := by rw [hA]; exact YO AcL.one _
 have oB : B.all QW = true := by rw [hB]; exact YO AcL.one _
 rw [e1] at hrow; rw [e1, e2]; rw [← hn] at hl hi hrow ⊢; clear hA hB e1 e2 hn
 cases row with
 | none =>
  obtain ⟨rfl, hAB⟩ := hrow
  obtain rfl : i = 0 := by omega
  obtain ⟨rfl, rfl⟩ := List.append_eq_nil_iff.1 hAB
  refine J2 Tryz.func72 rfl rfl fun w => JS (Jt 15 rfl (LR rfl (KO rfl rfl) (JQ 10 rfl (cD (fun g => ?_) fun g => ?_))))
  first | exact Bool.noConfusion g | omega
  refine Jt 5 rfl (LR rfl (KO rfl rfl) (JQ 11 rfl (JH rfl (fun g => ?_) (fun g => ?_))))
  try simp only [ZZ] at g
  refine Jt 4 rfl (W7 (n := 0) (m := 1) (b := 96) (sz := 8) (news := AcL.cells y) (xs := []) (L0 := []) rfl rfl rfl rfl (Or.inr hv) rfl rfl rfl rfl rfl m7 rfl rfl oF m7 SlOwn.nil m7 m7 fun r1 cap1 sp1 hsp1 => Jz 5 rfl (pT rfl rfl rfl fun w1 hs1 => ?_)); exact ⟨⟨some (r1, cap1, sp1), by simp [lF], hsp1⟩, rfl, by simpa [JL] using hs1⟩
  try exact Bool.noConfusion g
 | some q =>
  obtain ⟨r, cap, sp⟩ := q
  obtain ⟨hr1, hr2⟩ := hrow
  have hcap : n ≤ cap := by omega
  refine J2 Tryz.func72 rfl rfl fun w => JS ?_; change HC _ _ _ [(r, .cells ((A ++ B) ++ sp).toArray 34 (0, 0))] _ _ _; refine Jt 9 rfl (LR rfl (JT (m := i) (kl := some i) (kh := none) (km := none) (q := n) (z := cap) rfl rfl rfl ⟨_, rfl⟩ trivial trivial rfl rfl rfl m0 m0 m0 (fun _ => rfl) rfl) (JK 5 rfl (LR rfl (KO rfl rfl) (JQ 10 rfl (JH rfl (fun g => ?_) (fun g => ?_))))))
  try exact Bool.noConfusion g
  ·refine Jt 5 rfl (LR rfl (KO rfl rfl) (JQ 11 rfl (JH rfl (fun g => ?_) (fun g => ?_))))
   try simp only [ZZ] at g
   refine Jt 4 rfl ?_
   obtain rfl : B = [] := List.length_eq_zero_iff.1 m0
   refine W7 (n := n) (m := 1) (b := 96) (sz := 8) (news := AcL.cells y) (xs := A ++ []) (L0 := []) rfl rfl rfl rfl (Or.inr hv) rfl rfl rfl rfl rfl m7 rfl lF oF m7 (SlOwn.own (k := 0) rfl Mn hr1 Mo rfl) m0 m0 fun r1 cap1 sp1 hsp1 => Jz 5 rfl (pT rfl rfl rfl fun w1 hs1 => ?_); exact ⟨⟨some (r1, cap1, sp1), by simp only [List.length_append, List.length_nil, lF]; omega, hsp1⟩, rfl, by simpa [JL] using hs1⟩
   ·try simp only [ZZ] at g
    refine Jt 8 rfl (Jh m0 m0 (QK rfl (LR rfl (Jhz rfl rfl) (JQ 3 rfl ?_)))); refine cD (fun g => ?_) fun g => ?_
    ·refine Jt 4 rfl ?_
     refine LR rfl (JT (sz := 8) (q := i) (kl := none) (kh := some (i)) (km := none) (m := 0) (z := cap) (off' := 0) rfl rfl rfl trivial ⟨_, rfl⟩ trivial rfl rfl rfl m0 m0 m0 (fun h => by cases h) nV) (LS 3 [] rfl rfl (Jh m0 m0 (JK 2 rfl (Jk nj (wJ (r := r) (off := 0) (n := i) (cap := cap) (m := n + 1 - i) (sz := 8) (b := 96) (xs := A) rfl rfl rfl rfl (kn 0 rfl) rfl rfl rfl rfl rfl rfl m7 nD lA m0 m0 m0 m0 m0 fun r2 cap2 Z sp2 hZ hsp2 => ?_))))); rw [show i + (n + 1 - i) = n + 1 by omega] at hsp2 ⊢
     obtain ⟨Z1, Z2, rfl, lZ1⟩ := cut (l := Z) (a := 8) m0
     have lZ2 : Z2.length = (n - i) * 8 := by rw [List.length_append, lZ1] at hZ; omega
     rw [show A ++ (Z1 ++ Z2) ++ sp2 = A ++ (Z1 ++ (Z2 ++ sp2)) by simp only [List.append_assoc]]; refine JK 7 rfl (LR rfl (JT (sz := 8) (m := i) (kl := some (i)) (kh := none) (km := none) (q := n + 1) (z := cap2) (off' := i * 8) rfl rfl rfl ⟨_, rfl⟩ trivial trivial rfl rfl rfl m0 m0 m0 (fun _ => rfl) mu) (QK rfl ?_))
     refine XX (k := 0) (n := 1) (sz := 8) (vs := AcL.cells y) (cs' := A ++ (AcL.cells y ++ (Z2 ++ sp2))) rfl rfl rfl rfl rfl (Or.inr hv) rfl rfl mF rfl lF oF my (XC lA (by rw [lZ1])) rfl (JQ 3 rfl (JX 8 m5 m5 (Jc rfl rfl rfl (Jf rfl) (Jc rfl rfl rfl (Jf rfl) (Jc rfl rfl rfl (Jf rfl) ?_)))))
     refine Jc rfl rfl rfl (J1 rfl rfl rfl) (Qc m8 (Jc rfl rfl rfl (JT (sz := 8) (m := i + 1) (kl := some (i + 1)) (kh := none) (km := none) (q := n + 1) (z := cap2) (off' := (i + 1) * 8) rfl rfl rfl ⟨_, rfl⟩ trivial trivial rfl rfl rfl m0 m0 m0 (fun _ => rfl) mu) (Jc rfl rfl rfl (Jf rfl) (Jc rfl rfl rfl (Jf rfl) (Jc rfl rfl rfl (JT (sz := 8) (m := i) (kl := some (i)) (kh := none) (km := none) (q := n) (z := cap) (off' := i * 8) rfl rfl rfl ⟨_, rfl⟩ trivial trivial rfl rfl rfl m0 m0 m0 (fun _ => rfl) mu) (Kv ?_)))))); rw [show A ++ (AcL.cells y ++ (Z2 ++ sp2)) = (A ++ AcL.cells y) ++ (Z2 ++ sp2) by simp only [List.append_assoc]]
     refine XX (k := 0) (n := n - i) (sz := 8) (vs := B) (cs' := (A ++ AcL.cells y) ++ (B ++ sp2)) rfl rfl rfl rfl rfl (kn 1 rfl) rfl rfl mF nB lB oB my (XC (by rw [List.length_append, lA, lF]; omega) lZ2) rfl (Jz 10 rfl (pT rfl rfl rfl fun w1 hs1 => ?_)); exact ⟨⟨some (r2, cap2, sp2), by simp only [List.length_append]; omega, hsp2⟩, rfl, hs1.weakL (by simp [JL])⟩
    ·refine Jt 8 rfl (Jk np ?_)
     refine LR rfl (JT (sz := 8) (q := n + 1) (kl := none) (kh := some (n + 1)) (km := none) (m := 0) (z := cap) (off' := 0) rfl rfl rfl trivial ⟨_, rfl⟩ trivial rfl rfl rfl m0 m0 m0 (fun h => by cases h) nV) (JK 11 rfl (Jk m8 (LR rfl (JT (sz := 8) (m := i + 1) (kl := some (i + 1)) (kh := none) (km := none) (q := n + 1) (z := cap) (off' := (i + 1) * 8) rfl rfl rfl ⟨_, rfl⟩ trivial trivial rfl rfl rfl m0 m0 m0 (fun _ => rfl) mu) (LR rfl (vg (k := 0) rfl rfl rfl hv rfl rfl rfl my Tryz.func107 rfl rfl rfl rfl) (JQ 3 rfl (JH rfl (fun g => ?_) (fun g => ?_)))))))
     ·try simp only [ZZ] at g
      refine JE 1 rfl (JX 8 m5 m5 (Jc rfl rfl rfl (Jf rfl) (Jc rfl rfl rfl (Jf rfl) (Jc rfl rfl rfl (Jf rfl) ?_))))
      refine Jc rfl rfl rfl (J1 rfl rfl rfl) (Qc m8 (Jc rfl rfl rfl (JT (sz := 8) (m := i + 1) (kl := some (i + 1)) (kh := none) (km := none) (q := n + 1) (z := cap) (off' := (i + 1) * 8) rfl rfl rfl ⟨_, rfl⟩ trivial trivial rfl rfl rfl m0 m0 m0 (fun _ => rfl) mu) (Jc rfl rfl rfl (Jf rfl) (Jc rfl rfl rfl (Jf rfl) (Jc rfl rfl rfl (JT (sz := 8) (m := i) (kl := some (i)) (kh := none) (km := none) (q := n + 1) (z := cap) (off' := i * 8) rfl rfl rfl ⟨_, rfl⟩ trivial trivial rfl rfl rfl m0 m0 m0 (fun _ => rfl) mu) (Kv ?_))))))
      obtain ⟨X1, X2, hX, lX1⟩ := cut (l := B ++ sp) (a := 8) nw
      obtain ⟨X3, X4, rfl, lX3⟩ := cut (l := X2) (a := (n - i) * 8) nQ
      rw [show (A ++ B) ++ sp = (A ++ X1) ++ (X3 ++ X4) by rw [List.append_assoc, hX]; simp only [List.append_assoc]]
      refine XX (k := 0) (n := n - i) (sz := 8) (vs := B) (cs' := (A ++ X1) ++ (B ++ X4)) rfl rfl rfl rfl rfl (kn 0 rfl) rfl rfl mF nq lB oB nt (XC (by rw [List.length_append, lA, lX1]; omega) lX3) rfl (JK 6 rfl (LR rfl (JT (sz := 8) (m := i) (kl := some (i)) (kh := none) (km := none) (q := n + 1) (z := cap) (off' := i * 8) rfl rfl rfl ⟨_, rfl⟩ trivial trivial rfl rfl rfl m0 m0 m0 (fun _ => rfl) mu) (QK rfl ?_))); rw [show (A ++ X1) ++ (B ++ X4) = A ++ (X1 ++ (B ++ X4)) by simp only [List.append_assoc]]
      refine XX (k := 0) (n := 1) (sz := 8) (vs := AcL.cells y) (cs' := A ++ (AcL.cells y ++ (B ++ X4))) rfl rfl rfl rfl rfl (Or.inr hv) rfl rfl mF rfl lF oF my (XC lA (by rw [lX1])) rfl (Jz 10 rfl (pT rfl rfl rfl fun w1 hs1 => ?_)); exact ⟨⟨some (r, cap, X4), by simp only [List.length_append]; omega, by have := congrArg List.length hX; simp only [List.length_append] at this; omega⟩, rfl, by simpa [JL] using hs1⟩
     ·try exact Bool.noConfusion g
theorem Jqw {p : Pl} (hl : xs.length ≤ 1000) (hs : Seg R xs.length (xs.flatMap Vi) p) :
  PureT (α := { row : Vg // rowOk 2 xs.length (xs.flatMap Vi) row }) Tryz.prog 74 [Ky xs.length p].toArray (fun x => J3 xs.length x.1) [] (fun x => JL 59 (xs.flatMap Vi) x.1) R := by
 cases p with
 | none =>
  have h0 : xs = [] := List.length_eq_zero_iff.1 hs
  subst h0; refine J2 Tryz.func74 rfl rfl fun w => Hw ?_; refine cD (fun g => ?_) fun g => ?_
  exact GQ
  try exact Bool.noConfusion g
 | some q =>
  refine J2 Tryz.func74 rfl rfl fun w => Hw ?_; refine JH rfl (fun g => ?_) (fun g => ?_)
  try exact Bool.noConfusion g
  ·refine Gx ?_; refine XB rfl rfl rfl rfl fun r1 => QK rfl (wQ (k := 0) (b := 32) (sz := 2) rfl rfl rfl rfl rfl rfl hs oR rfl rfl rfl rfl rfl m7 (Qd Kl xs) (YO jX xs) m0 m0 fun row hrow => (Jz 4 rfl ?_)); exact gN
theorem Jln (hl : xs.length ≤ 1000) (hrow : rowOk 2 xs.length (xs.flatMap Vi) row) (hi : i ≤ xs.length) {y : (BS × BS)} (hv : (rv, Obj.cells (Vi y).toArray 59 (0, 0)) ∈ R) :
  PureT (α := { row' : Vg // rowOk 2 (xs.length + 1) ((xs.take i ++ y :: xs.drop i).flatMap Vi) row' }) Tryz.prog 75 [J3 xs.length row, .int .i64 (i : Int), .slice (some ⟨rv, 0, none⟩) 1 1].toArray (fun x => J3 (xs.length + 1) x.1) (JL 59 (xs.flatMap Vi) row) (fun x => JL 59 ((xs.take i ++ y :: xs.drop i).flatMap Vi) x.1) R := by
 obtain ⟨A, hA⟩ : ∃ A, A = (xs.take i).flatMap Vi := ⟨_, rfl⟩
 obtain ⟨B, hB⟩ : ∃ B, B = (xs.drop i).flatMap Vi := ⟨_, rfl⟩
 obtain ⟨n, hn⟩ : ∃ n, n = xs.length := ⟨_, rfl⟩
 have e1 : xs.flatMap Vi = A ++ B := by rw [hA, hB, ← List.flatMap_append, List.take_append_drop]
 have e2 : (xs.take i ++ y :: xs.drop i).flatMap Vi = A ++ (Vi y ++ B) := by rw [List.flatMap_append, List.flatMap_cons, hA, hB]
 have lA : A.length = i * 2 := by rw [hA, Qd Kl, List.length_take, Nat.min_eq_left hi]
 have lB : B.length = (n - i) * 2 := by rw [hB, Qd Kl, List.length_drop, hn]
 have lF : (Vi y).length = 2 := Kl y
 have oF : (Vi y).all QW = true := jX y
 have oA : A.all QW = true := by rw [hA]; exact YO jX _
 have oB : B.all QW = true := by rw [hB]; exact YO jX _
 rw [e1] at hrow; rw [e1, e2]; rw [← hn] at hl hi hrow ⊢; clear hA hB e1 e2 hn
 cases row with
 | none =>
  obtain ⟨rfl, hAB⟩ := hrow
  obtain rfl : i = 0 := by omega
  obtain ⟨rfl, rfl⟩ := List.append_eq_nil_iff.1 hAB
  refine J2 Tryz.func75 rfl rfl fun w => JS (Jt 15 rfl (LR rfl (KO rfl rfl) (JQ 10 rfl (cD (fun g => ?_) fun g => ?_))))
  first | exact Bool.noConfusion g | omega
  refine Jt 5 rfl (LR rfl (KO rfl rfl) (JQ 11 rfl (JH rfl (fun g => ?_) (fun g => ?_))))
  try simp only [ZZ] at g
  refine Jt 4 rfl (W7 (n := 0) (m := 1) (b := 32) (sz := 2) (news := Vi y) (xs := []) (L0 := []) rfl rfl rfl rfl (Or.inr hv) rfl rfl rfl rfl rfl m7 rfl rfl oF m7 SlOwn.nil m7 m7 fun r1 cap1 sp1 hsp1 => Jz 5 rfl (pT rfl rfl rfl fun w1 hs1 => ?_)); exact ⟨⟨some (r1, cap1, sp1), by simp [lF], hsp1⟩, rfl, by simpa [JL] using hs1⟩
  try exact Bool.noConfusion g
 | some q =>
  obtain ⟨r, cap, sp⟩ := q
  obtain ⟨hr1, hr2⟩ := hrow
  have hcap : n ≤ cap := by omega
  refine J2 Tryz.func75 rfl rfl fun w => JS ?_; change HC _ _ _ [(r, .cells ((A ++ B) ++ sp).toArray 59 (0, 0))] _ _ _; refine Jt 9 rfl (LR rfl (JT (m := i) (kl := some i) (kh := none) (km := none) (q := n) (z := cap) rfl rfl rfl ⟨_, rfl⟩ trivial trivial rfl rfl rfl m0 m0 m0 (fun _ => rfl) rfl) (JK 5 rfl (LR rfl (KO rfl rfl) (JQ 10 rfl (JH rfl (fun g => ?_) (fun g => ?_))))))
  try exact Bool.noConfusion g
  ·refine Jt 5 rfl (LR rfl (KO rfl rfl) (JQ 11 rfl (JH rfl (fun g => ?_) (fun g => ?_))))
   try simp only [ZZ] at g
   refine Jt 4 rfl ?_
   obtain rfl : B = [] := List.length_eq_zero_iff.1 m0
   refine W7 (n := n) (m := 1) (b := 32) (sz := 2) (news := Vi y) (xs := A ++ []) (L0 := []) rfl rfl rfl rfl (Or.inr hv) rfl rfl rfl rfl rfl m7 rfl lF oF m7 (SlOwn.own (k := 0) rfl Mn hr1 Mo rfl) m0 m0 fun r1 cap1 sp1 hsp1 => Jz 5 rfl (pT rfl rfl rfl fun w1 hs1 => ?_); exact ⟨⟨some (r1, cap1, sp1), by simp only [List.length_append, List.length_nil, lF]; omega, hsp1⟩, rfl, by simpa [JL] using hs1⟩
   ·try simp only [ZZ] at g
    refine Jt 8 rfl (Jh m0 m0 (QK rfl (LR rfl (Jhz rfl rfl) (JQ 3 rfl ?_)))); refine cD (fun g => ?_) fun g => ?_
    ·refine Jt 4 rfl ?_
     refine LR rfl (JT (sz := 2) (q := i) (kl := none) (kh := some (i)) (km := none) (m := 0) (z := cap) (off' := 0) rfl rfl rfl trivial ⟨_, rfl⟩ trivial rfl rfl rfl m0 m0 m0 (fun h => by cases h) nV) (LS 3 [] rfl rfl (Jh m0 m0 (JK 2 rfl (Jk nj (wJ (r := r) (off := 0) (n := i) (cap := cap) (m := n + 1 - i) (sz := 2) (b := 32) (xs := A) rfl rfl rfl rfl (kn 0 rfl) rfl rfl rfl rfl rfl rfl m7 nD lA m0 m0 m0 m0 m0 fun r2 cap2 Z sp2 hZ hsp2 => ?_))))); rw [show i + (n + 1 - i) = n + 1 by omega] at hsp2 ⊢
     obtain ⟨Z1, Z2, rfl, lZ1⟩ := cut (l := Z) (a := 2) m0
     have lZ2 : Z2.length = (n - i) * 2 := by rw [List.length_append, lZ1] at hZ; omega
     rw [show A ++ (Z1 ++ Z2) ++ sp2 = A ++ (Z1 ++ (Z2 ++ sp2)) by simp only [List.append_assoc]]; refine JK 7 rfl (LR rfl (JT (sz := 2) (m := i) (kl := some (i)) (kh := none) (km := none) (q := n + 1) (z := cap2) (off' := i * 2) rfl rfl rfl ⟨_, rfl⟩ trivial trivial rfl rfl rfl m0 m0 m0 (fun _ => rfl) mu) (QK rfl ?_))
     refine XX (k := 0) (n := 1) (sz := 2) (vs := Vi y) (cs' := A ++ (Vi y ++ (Z2 ++ sp2))) rfl rfl rfl rfl rfl (Or.inr hv) rfl rfl mF rfl lF oF my (XC lA (by rw [lZ1])) rfl (JQ 3 rfl (JX 8 m5 m5 (Jc rfl rfl rfl (Jf rfl) (Jc rfl rfl rfl (Jf rfl) (Jc rfl rfl rfl (Jf rfl) ?_)))))
     refine Jc rfl rfl rfl (J1 rfl rfl rfl) (Qc m8 (Jc rfl rfl rfl (JT (sz := 2) (m := i + 1) (kl := some (i + 1)) (kh := none) (km := none) (q := n + 1) (z := cap2) (off' := (i + 1) * 2) rfl rfl rfl ⟨_, rfl⟩ trivial trivial rfl rfl rfl m0 m0 m0 (fun _ => rfl) mu) (Jc rfl rfl rfl (Jf rfl) (Jc rfl rfl rfl (Jf rfl) (Jc rfl rfl rfl (JT (sz := 2) (m := i) (kl := some (i)) (kh := none) (km := none) (q := n) (z := cap) (off' := i * 2) rfl rfl rfl ⟨_, rfl⟩ trivial trivial rfl rfl rfl m0 m0 m0 (fun _ => rfl) mu) (Kv ?_)))))); rw [show A ++ (Vi y ++ (Z2 ++ sp2)) = (A ++ Vi y) ++ (Z2 ++ sp2) by simp only [List.append_assoc]]
     refine XX (k := 0) (n := n - i) (sz := 2) (vs := B) (cs' := (A ++ Vi y) ++ (B ++ sp2)) rfl rfl rfl rfl rfl (kn 1 rfl) rfl rfl mF nB lB oB my (XC (by rw [List.length_append, lA, lF]; omega) lZ2) rfl (Jz 10 rfl (pT rfl rfl rfl fun w1 hs1 => ?_)); exact ⟨⟨some (r2, cap2, sp2), by simp only [List.length_append]; omega, hsp2⟩, rfl, hs1.weakL (by simp [JL])⟩
    ·refine Jt 8 rfl (Jk np ?_)
     refine LR rfl (JT (sz := 2) (q := n + 1) (kl := none) (kh := some (n + 1)) (km := none) (m := 0) (z := cap) (off' := 0) rfl rfl rfl trivial ⟨_, rfl⟩ trivial rfl rfl rfl m0 m0 m0 (fun h => by cases h) nV) (JK 11 rfl (Jk m8 (LR rfl (JT (sz := 2) (m := i + 1) (kl := some (i + 1)) (kh := none) (km := none) (q := n + 1) (z := cap) (off' := (i + 1) * 2) rfl rfl rfl ⟨_, rfl⟩ trivial trivial rfl rfl rfl m0 m0 m0 (fun _ => rfl) mu) (LR rfl (vg (k := 0) rfl rfl rfl hv rfl rfl rfl my Tryz.func111 rfl rfl rfl rfl) (JQ 3 rfl (JH rfl (fun g => ?_) (fun g => ?_)))))))
     ·try simp only [ZZ] at g
      refine JE 1 rfl (JX 8 m5 m5 (Jc rfl rfl rfl (Jf rfl) (Jc rfl rfl rfl (Jf rfl) (Jc rfl rfl rfl (Jf rfl) ?_))))
      refine Jc rfl rfl rfl (J1 rfl rfl rfl) (Qc m8 (Jc rfl rfl rfl (JT (sz := 2) (m := i + 1) (kl := some (i + 1)) (kh := none) (km := none) (q := n + 1) (z := cap) (off' := (i + 1) * 2) rfl rfl rfl ⟨_, rfl⟩ trivial trivial rfl rfl rfl m0 m0 m0 (fun _ => rfl) mu) (Jc rfl rfl rfl (Jf rfl) (Jc rfl rfl rfl (Jf rfl) (Jc rfl rfl rfl (JT (sz := 2) (m := i) (kl := some (i)) (kh := none) (km := none) (q := n + 1) (z := cap) (off' := i * 2) rfl rfl rfl ⟨_, rfl⟩ trivial trivial rfl rfl rfl m0 m0 m0 (fun _ => rfl) mu) (Kv ?_))))))
      obtain ⟨X1, X2, hX, lX1⟩ := cut (l := B ++ sp) (a := 2) nw
      obtain ⟨X3, X4, rfl, lX3⟩ := cut (l := X2) (a := (n - i) * 2) nQ
      rw [show (A ++ B) ++ sp = (A ++ X1) ++ (X3 ++ X4) by rw [List.append_assoc, hX]; simp only [List.append_assoc]]
      refine XX (k := 0) (n := n - i) (sz := 2) (vs := B) (cs' := (A ++ X1) ++ (B ++ X4)) rfl rfl rfl rfl rfl (kn 0 rfl) rfl rfl mF nq lB oB nt (XC (by rw [List.length_append, lA, lX1]; omega) lX3) rfl (JK 6 rfl (LR rfl (JT (sz := 2) (m := i) (kl := some (i)) (kh := none) (km := none) (q := n + 1) (z := cap) (off' := i * 2) rfl rfl rfl ⟨_, rfl⟩ trivial trivial rfl rfl rfl m0 m0 m0 (fun _ => rfl) mu) (QK rfl ?_))); rw [show (A ++ X1) ++ (B ++ X4) = A ++ (X1 ++ (B ++ X4)) by simp only [List.append_assoc]]
      refine XX (k := 0) (n := 1) (sz := 2) (vs := Vi y) (cs' := A ++ (Vi y ++ (B ++ X4))) rfl rfl rfl rfl rfl (Or.inr hv) rfl rfl mF rfl lF oF my (XC lA (by rw [lX1])) rfl (Jz 10 rfl (pT rfl rfl rfl fun w1 hs1 => ?_)); exact ⟨⟨some (r, cap, X4), by simp only [List.length_append]; omega, by have := congrArg List.length hX; simp only [List.length_append] at this; omega⟩, rfl, by simpa [JL] using hs1⟩
     ·try exact Bool.noConfusion g
theorem Jum {xs : List AcL} {p : Pl} (hl : xs.length ≤ 1000) (hs : Seg R xs.length (xs.flatMap AcL.cells) p) (hso : KN AcL.addr xs) (y : AcL) :
  PureT (α := { row : Vg // rowOk 8 (QH AcL.addr y xs).length ((QH AcL.addr y xs).flatMap AcL.cells) row }) Tryz.prog 46 [Ky xs.length p, vA y, fV 39].toArray (fun x => J3 (QH AcL.addr y xs).length x.1) [] (fun x => JL 34 ((QH AcL.addr y xs).flatMap AcL.cells) x.1) R := by
 have hins := Jnm (x := y) hso
 obtain ⟨j, hj⟩ : ∃ j, j = j9 AcL.addr (AcL.addr y) xs := ⟨_, rfl⟩
 have hjl : j ≤ xs.length := hj ▸ Jnk _ _
 have hpl := Jqt (k := AcL.addr y) hl hs hso
 have hlt : Wh AcL.addr (AcL.addr y) xs = true → j < xs.length := fun h => hj ▸ Jc4 h
 rw [← hj] at hins hpl
 obtain ⟨b, hb⟩ : ∃ b, b = Wh AcL.addr (AcL.addr y) xs := ⟨_, rfl⟩
 rw [← hb] at hins hpl hlt; clear hj hb; refine J2 Tryz.func46 rfl rfl fun w => MX fun r1 => ?_; refine X6 8 [0] rfl rfl (J6 rfl rfl rfl Jsy (Jbs y) (QK rfl (Jb rfl rfl rfl (enters_of Tryz.func70 m5 rfl) hpl oR (JK 10 rfl ?_)))); refine JW rfl rfl rfl (enters_of Tryz.func71 m5 rfl) (Jqv hl hs) oR fun x => ?_
 obtain ⟨row, hrow⟩ := x
 change HL _ _ ((20, J3 xs.length row) :: _) (JL 34 (xs.flatMap AcL.cells) row ++ [(r1, _)]) _ _ _ _; refine HW ?_; refine cD (fun g => ?_) fun g => ?_
 refine GL ?_
 have hltb := hlt m9
 obtain ⟨r2, cap2, sp2, rfl⟩ := row_some hrow m0
 change HC _ _ _ [(r2, .cells (xs.flatMap AcL.cells ++ sp2).toArray 34 (0, 0)), (r1, _)] _ _ _; refine GW ?_; refine LR rfl (Jo (vs := AcL.cells y) rfl (kn 1 rfl) rfl rfl rfl rfl) (LR rfl (Kc (j := j) (m := 8) rfl rfl rfl rfl rfl m0 rfl) (Ve (k := 0) (n := 8) (vs := (AcL.cells y).toArray) (cs' := ((xs.set j y).flatMap AcL.cells ++ sp2).toArray) rfl rfl rfl rfl rfl rfl (AcL.one y) (by have := hrow.1; simp only [List.size_toArray, List.length_append, Qd AcL.len]; omega) (by apply Array.toList_inj.1; simp only [List.toList_toArray, Nat.zero_add]; exact Jh2 AcL.len hltb y sp2) rfl (Jz 10 rfl (NP fun w1 hs1 => ?_))))
 (rw [if_pos m9] at hins
  rw [hins, List.length_set]
  exact ⟨⟨some (r2, cap2, sp2), hrow.same (by rw [Qd AcL.len, Qd AcL.len, List.length_set])⟩, rfl, hs1.weakL (by simp [JL])⟩)
 ·refine gY ?_; refine LR rfl (Jo (vs := AcL.cells y) rfl (Or.inl (List.mem_append_right _ List.mem_cons_self)) rfl rfl rfl rfl) (J7 (n := 1) (sz := 8) (vs := [_]) (zs := [_, _, _, _, _, _, _, _]) (r := AcL.cells y) rfl rfl rfl rfl rfl rfl rfl rfl rfl mn rfl fun rv => Vv (T := JL 34 (xs.flatMap AcL.cells) row) (L0 := [(rv, _), (r1, _)]) (Rl := [(rv, Obj.cells (AcL.cells y).toArray 34 (0, 0))]) (by exact List.perm_middle.symm) rfl rfl rfl (enters_of Tryz.func72 m5 rfl) (Jlm (i := j) (y := y) hl hrow hjl List.mem_cons_self) (fun q hq => Or.inl na) fun x => ?_)
  obtain ⟨row2, hrow2⟩ := x
  refine gJ ?_; refine NP fun w1 hs1 => ?_
  (rw [if_neg mz] at hins
   have hln : (xs.take j ++ y :: xs.drop j).length = xs.length + 1 := by simp only [List.length_append, List.length_take, List.length_cons, List.length_drop]; omega
   rw [hins, hln]
   exact ⟨⟨row2, hrow2⟩, rfl, hs1.weakL (List.sublist_append_left _ _)⟩)
theorem Jun {p : Pl} (hl : xs.length ≤ 1000) (hs : Seg R xs.length (xs.flatMap Vi) p) (hso : KN Prod.fst xs) (y : (BS × BS)) :
  PureT (α := { row : Vg // rowOk 2 (QH Prod.fst y xs).length ((QH Prod.fst y xs).flatMap Vi) row }) Tryz.prog 47 [Ky xs.length p, vS y, fV 48].toArray (fun x => J3 (QH Prod.fst y xs).length x.1) [] (fun x => JL 59 ((QH Prod.fst y xs).flatMap Vi) x.1) R := by
 have hins := Jnm (x := y) hso
 obtain ⟨j, hj⟩ : ∃ j, j = j9 Prod.fst (Prod.fst y) xs := ⟨_, rfl⟩
 have hjl : j ≤ xs.length := hj ▸ Jnk _ _
 have hpl := Jqu (k := Prod.fst y) hl hs hso
 have hlt : Wh Prod.fst (Prod.fst y) xs = true → j < xs.length := fun h => hj ▸ Jc4 h
 rw [← hj] at hins hpl
 obtain ⟨b, hb⟩ : ∃ b, b = Wh Prod.fst (Prod.fst y) xs := ⟨_, rfl⟩
 rw [← hb] at hins hpl hlt; clear hj hb; refine J2 Tryz.func47 rfl rfl fun w => MX fun r1 => ?_; refine X6 8 [0] rfl rfl (J6 rfl rfl rfl Jsz (Jbt y) (QK rfl (Jb rfl rfl rfl (enters_of Tryz.func73 m5 rfl) hpl oR (JK 10 rfl ?_)))); refine JW rfl rfl rfl (enters_of Tryz.func74 m5 rfl) (Jqw hl hs) oR fun x => ?_
 obtain ⟨row, hrow⟩ := x
 change HL _ _ ((20, J3 xs.length row) :: _) (JL 59 (xs.flatMap Vi) row ++ [(r1, _)]) _ _ _ _; refine HW ?_; refine cD (fun g => ?_) fun g => ?_
 refine GL ?_
 have hltb := hlt m9
 obtain ⟨r2, cap2, sp2, rfl⟩ := row_some hrow m0
 change HC _ _ _ [(r2, .cells (xs.flatMap Vi ++ sp2).toArray 59 (0, 0)), (r1, _)] _ _ _; refine GW ?_; refine LR rfl (Jo (vs := Vi y) rfl (kn 1 rfl) rfl rfl rfl rfl) (LR rfl (Kc (j := j) (m := 2) rfl rfl rfl rfl rfl m0 rfl) (Ve (k := 0) (n := 2) (vs := (Vi y).toArray) (cs' := ((xs.set j y).flatMap Vi ++ sp2).toArray) rfl rfl rfl rfl rfl rfl (jX y) (by have := hrow.1; simp only [List.size_toArray, List.length_append, Qd Kl]; omega) (by apply Array.toList_inj.1; simp only [List.toList_toArray, Nat.zero_add]; exact Jh2 Kl hltb y sp2) rfl (Jz 10 rfl (NP fun w1 hs1 => ?_))))
 (rw [if_pos m9] at hins
  rw [hins, List.length_set]
  exact ⟨⟨some (r2, cap2, sp2), hrow.same (by rw [Qd Kl, Qd Kl, List.length_set])⟩, rfl, hs1.weakL (by simp [JL])⟩)
 ·refine gY ?_; refine LR rfl (Jo (vs := Vi y) rfl (Or.inl (List.mem_append_right _ List.mem_cons_self)) rfl rfl rfl rfl) (J7 (n := 1) (sz := 2) (vs := [_]) (zs := [_, _]) (r := Vi y) rfl rfl rfl rfl rfl rfl rfl rfl rfl mn rfl fun rv => Vv (T := JL 59 (xs.flatMap Vi) row) (L0 := [(rv, _), (r1, _)]) (Rl := [(rv, Obj.cells (Vi y).toArray 59 (0, 0))]) (by exact List.perm_middle.symm) rfl rfl rfl (enters_of Tryz.func75 m5 rfl) (Jln (i := j) (y := y) hl hrow hjl List.mem_cons_self) (fun q hq => Or.inl na) fun x => ?_)
  obtain ⟨row2, hrow2⟩ := x
  refine gJ ?_; refine NP fun w1 hs1 => ?_
  (rw [if_neg mz] at hins
   have hln : (xs.take j ++ y :: xs.drop j).length = xs.length + 1 := by simp only [List.length_append, List.length_take, List.length_cons, List.length_drop]; omega
   rw [hins, hln]
   exact ⟨⟨row2, hrow2⟩, rfl, hs1.weakL (List.sublist_append_left _ _)⟩)
theorem Juo (x : BS × BS) : Zo x = (((x.1.length : Int) != 32) || ((x.2.length : Int) != 32)) := by
 have key : ∀ n : Nat, decide (n ≠ 32) = ((n : Int) != 32) := fun n => by
  by_cases h : n = 32
  ·subst h; rfl
  ·have h2 : ¬ (n : Int) = 32 := by omega
   simp [h, h2]
 unfold Zo
 rw [key, key]
theorem Jzg (x : BS × BS) : Pure Tryz.prog 65 [vS x].toArray (.bool (Zo x)) := by
 refine J8 Tryz.func65 rfl rfl fun w => MX fun r1 => ?_; refine X6 7 [0] rfl rfl (De ?_)
 refine Jp 7 rfl (fun gb => ?_) (fun gb => ?_) <;> (try simp only [ZZ] at gb) <;> first | (refine LR rfl (J5 rfl rfl rfl) ?_) | (refine LK rfl ?_)
 all_goals refine DA ?_
 all_goals refine NG ?_
 all_goals (
  refine gG fun w1 hs1 => ?_; rw [Juo]
  simp_all [JC]
  skip)
theorem Jup (x : BS × BS) : Pure Tryz.prog 66 [vS x].toArray (.bool (Xe x)) := by
 refine J8 Tryz.func66 rfl rfl fun w => MX fun r1 => ?_; refine kR ?_; refine JX 5 m5 m5 ?_
 refine ke ?_; refine Qt rfl rfl rfl Jww Jgx (Jc rfl rfl rfl (Vc rfl rfl) (NW ?_)); refine HX ?_; exact Nc
theorem vt {p : Pl} (hl : xs.length ≤ 9223372036854775807) (hs : Seg R xs.length (xs.flatMap Vi) p) (eg : Enters Tryz.prog g) (hg : ∀ x ∈ xs, PureR Tryz.prog g (vS x :: caps).toArray (.bool (pr x)) R) :
  PureR Tryz.prog 67 [Ky xs.length p, .func (.func g) #[] caps.toArray].toArray (.bool (xs.any pr)) R := by
 have h := yS hl hs eg hg
 refine Ja Tryz.func67 rfl rfl fun w => gc ?_; refine Jb rfl rfl rfl Jwv h oR (V7 rfl (Jk (congrArg Value.bool Jsn) (Jz 4 rfl ?_))); exact Nc
theorem Jgy (ha : a.In R) : PureR Tryz.prog 37 [a.val].toArray (.int .i64 (XW a.er)) R := by
  have h1 := vt (g := 65) (caps := []) ha.len ha.seg (enters_of Tryz.func65 m5 rfl) (fun x _ => (Jzg x).toR)
  have h2 := vt (g := 66) (caps := []) ha.len ha.seg (enters_of Tryz.func66 m5 rfl) (fun x _ => (Jup x).toR)
  have h3 := Jqr ha.len ha.seg
  have hl := ha.len
  have hseg := ha.seg
  have hE : XW a.er = if ¬ ((a.addr.length : Int) = 20) ∨ a.slots.any Zo = true then 2 else if QS Prod.fst a.slots = false then 11 else if (512 < (a.code.length : Int)) ∨ (16 < (a.slots.length : Int)) then 5 else if a.slots.any Xe = true then 8 else 0 := by
    exact ite_congr (propext (or_congr (by show ¬ a.addr.length = 20 ↔ _; omega) Iff.rfl)) (fun _ => rfl) (fun _ => ite_congr rfl (fun _ => rfl) (fun _ => ite_congr (propext (or_congr (by show a.code.length > 512 ↔ _; omega) (by show a.slots.length > 16 ↔ _; omega))) (fun _ => rfl) (fun _ => rfl)))
  rw [hE]; clear hE
  generalize a.slots.any Zo = oB at h1 ⊢
  generalize a.slots.any Xe = sBo at h2 ⊢
  generalize QS Prod.fst a.slots = rB at h3 ⊢
  refine Ja Tryz.func37 rfl rfl fun w => MX fun r1 => ?_; refine X6 19 [0] rfl rfl (De ?_)
  refine Jp 10 rfl (fun gb => ?_) (fun gb => ?_) <;> (try simp only [ZZ] at gb) <;> first | (refine LR rfl (J5 rfl rfl rfl) ?_) | (refine LK rfl ?_)
  all_goals refine LW 2 [0] rfl rfl ?_
  all_goals first | (refine Jb rfl rfl rfl (enters_of Tryz.func67 m5 rfl) h1 oR ?_) | refine LK rfl ?_
  all_goals (
   refine NY ?_; refine JH rfl (fun h10 => ?_) (fun h10 => ?_)
   try simp only [ZZ] at h10
   refine D9 fun w1 hs1 => ?_; simp only [JC]
   simp_all
   · try exact Bool.noConfusion h10
     all_goals try simp only [ZZ] at h10
     all_goals (
      refine kK ?_; refine Jb rfl rfl rfl (enters_of Tryz.func68 m5 rfl) h3 oR (kR ?_); refine cD (fun h13 => ?_) fun h13 => ?_
      refine D9 fun w1 hs1 => ?_; simp only [JC]
      simp_all
      · refine kK ?_; refine De ?_
        refine Jp 26 rfl (fun gb => ?_) (fun gb => ?_) <;> (try simp only [ZZ] at gb) <;> first | (refine LR rfl (J5 rfl rfl rfl) ?_) | (refine LK rfl ?_)
        all_goals refine DA ?_
        all_goals first | refine LR rfl (Jq rfl hseg rfl) ?_ | refine LK rfl ?_
        all_goals (
         refine LW 3 [] rfl rfl (Jz 1 rfl (Zj 1 rfl ?_)); refine JH rfl (fun h20 => ?_) (fun h20 => ?_)
         try simp only [ZZ] at h20
         refine D9 fun w1 hs1 => ?_; simp only [JC]
         simp_all
         · try exact Bool.noConfusion h20
           all_goals try simp only [ZZ] at h20
           all_goals (
            refine QZ 5 [0] rfl rfl (Jb rfl rfl rfl (enters_of Tryz.func67 m5 rfl) h2 oR (NR ?_)); refine cD (fun h23 => ?_) fun h23 => ?_
            refine D9 fun w1 hs1 => ?_; simp only [JC]
            simp_all
            refine KK 9 rfl (MW fun w1 hs1 => ?_); simp only [JC]
            simp_all
            skip)
         skip)
      skip)
   skip)
theorem Juq {k : BS} (hb : (rb, Obj.cells #[Jw k] e (0, 0)) ∈ R) (a : AcL) : PureR Tryz.prog 35 [vA a, .pointer (some ⟨rb, 0, none⟩)].toArray (.bool (decide (a.addr = k))) R := by
 refine Ja Tryz.func35 rfl rfl fun w => ?_; exact kJ
theorem Jur {k : BS} (hb : (rb, Obj.cells #[Jw k] e (0, 0)) ∈ R) (x : BS × BS) : PureR Tryz.prog 41 [vS x, .pointer (some ⟨rb, 0, none⟩)].toArray (.bool (decide (x.1 = k))) R := by
 refine Ja Tryz.func41 rfl rfl fun w => ?_; exact kJ
theorem Jx1 {k : BS} (hb : (rb, Obj.cells #[Jw k] e (0, 0)) ∈ R) (x : BS × BS) : PureR Tryz.prog 50 [vS x, .pointer (some ⟨rb, 0, none⟩)].toArray (.bool (decide (x.1 = k))) R := by
 refine Ja Tryz.func50 rfl rfl fun w => ?_; exact kJ
theorem Jx2 {s : StL} (hs : s.In R) (k : BS) : PureR Tryz.prog 14 [s.val, Jw k].toArray (.tuple #[(Wv s k).val, .bool (Xf s k)]) R := by
 have hl := hs.len
 have hseg := hs.seg
 refine Ja Tryz.func14 rfl rfl fun w => Nd fun r1 r2 => ?_; refine LN rfl fun r3 => X6 7 [2] rfl rfl (gZ ?_); refine Jb (Rl := (r2, Obj.cells #[Jw k] 9 (0, 0)) :: R) rfl rfl rfl (enters_of Tryz.func34 m5 rfl) (Jqp (caps := [.pointer (some ⟨r2, 0, none⟩)]) (pr := fun a => decide (a.addr = k)) hl (hseg.mono fun q hq => List.mem_cons_of_mem _ hq) (enters_of Tryz.func35 m5 rfl) (fun a _ => Juq List.mem_cons_self a)) (fun q hq => (List.mem_cons.1 hq).elim (fun h => Or.inl (by rw [h]; simp)) Or.inr) (JQ 10 rfl (cD (fun g => ?_) fun g => ?_))
 refine GL ?_
 have hf := wS m9
 refine H4 ?_; refine Nb ?_
 refine ki ?_; refine Np fun w1 hs1 => ?_; refine ⟨?_, hs1.keep⟩; rw [(zF hf).1, (zF hf).2]; rfl
 ·refine Gw ?_
  obtain ⟨i, a, hidx, ha, hf⟩ := Jh0 m9
  refine QZ 4 [2] rfl rfl ?_
  refine LR rfl (Jg (j := i) rfl hseg rfl rfl rfl mg (by have := (List.getElem?_eq_some_iff.1 ha).1; omega)) ?_; refine LR rfl (KE AcL.len oR rfl hseg ha rfl rfl) ?_
  refine Nm ?_; refine gJ ?_; refine Np fun w1 hs1 => ?_; refine ⟨?_, hs1.keep⟩; rw [(Jc6 hf).1, (Jc6 hf).2]; rfl
theorem Xy {s : StL} (hs : s.In R) : PureR Tryz.prog 19 [s.val].toArray (.int .i64 (Qi s.er)) R := by
  have hl : s.accts.length ≤ 9223372036854775807 := hs.len
  have hseg := hs.seg
  obtain ⟨hc5, hcg⟩ := Jh5 s
  refine Ja Tryz.func19 rfl rfl fun w => MX fun r1 => ?_; refine X6 8 [0] rfl rfl (Da ?_); refine NR ?_; refine cD (fun g => ?_) fun g => ?_
  refine g8 fun w1 hs1 => ?_; rw [hc5 m9]; rfl
  · refine QZ 7 [0] rfl rfl (Da ?_); refine kR ?_; refine Jy (σ := Nat) (fun i => i ≤ s.accts.length ∧ goS (WV s.er i) (s.er.drop i) = goS none s.er) (fun i => [(1, .pointer (some ⟨r1, 0, none⟩)), (11, Ky s.accts.length s.p), (12, .int .i64 (s.accts.length : Int)), (13, .int .i64 (i : Int))]) (fun _ => [(r1, .cells s.cells.toArray 24 (0, 0))]) (fun _ _ _ => True) (fun i => s.accts.length - i) 0 ⟨Nat.zero_le _, rfl⟩ (lK rfl) (List.Sublist.refl _) (fun _ _ h => h) ?_; rintro i ⟨hi1, hinv⟩; refine Nv ?_; refine cD (fun g => ?_) fun g => ?_
    · refine kX ?_
      obtain ⟨a, ha, hma⟩ := Q0 Mg
      rw [Jh3 (XD ha)] at hinv; refine Nw ?_
      refine G3 ?_; refine LN rfl fun r2 => QK rfl (Ju (k := 0) (n := 8) (ys := a.cells) rfl rfl rfl rfl rfl a.len rfl a.one rfl (JK 4 rfl ?_)); refine LR rfl (Jm (xs := a.cells) (n := 8) rfl (kn 0 rfl) rfl rfl a.len) (Jb rfl rfl rfl Jwu (Jgy (hs.accts a hma)) oR (JK 9 rfl ?_))
      refine Jp 22 rfl (fun gb => ?_) (fun gb => ?_) <;> (try simp only [ZZ] at gb) <;> first | (refine QK rfl ?_) | (refine LK rfl ?_)
      all_goals refine LW 3 [] rfl rfl ?_
      all_goals first | refine LK rfl ?_ | (refine Jp 26 rfl (fun gb => ?_) (fun gb => ?_) <;> (try simp only [ZZ] at gb) <;> first | (refine LR rfl (J5 rfl rfl rfl) ?_) | (refine LK rfl ?_))
      all_goals refine LW 2 [1] rfl rfl ?_
      all_goals first | (refine V7 rfl ?_; refine Jh m0 m0 ?_) | refine LK rfl ?_
      all_goals refine LW 1 [] rfl rfl ?_
      all_goals first | (refine V7 rfl ?_; refine Jh m0 m0 ?_) | refine LK rfl ?_
      all_goals first | (obtain ⟨x, hx, hmx⟩ := Q0 (show i - 1 < s.accts.length by omega); refine LR rfl (Jkh (sz := 8) (a := i - 1) (b := i + 1) (m := 2) rfl hseg rfl rfl m0 m0 rfl rfl m0 m0 m0) ?_; have hlast := Jal hx (show i - 1 + 1 = i by omega)) | refine LK rfl ?_
      all_goals first | (refine Jb rfl rfl rfl (enters_of Tryz.func38 m5 rfl) (Jqq (xs := [x, a]) (show 2 ≤ 9223372036854775807 by decide) (hseg.two AcL.len hx ha m0)) oR ?_; refine Jk (congrArg Value.bool (Jf2 x a)) ?_) | refine LK rfl ?_
      all_goals (
       refine NY ?_; refine JH rfl (fun g => ?_) (fun g => ?_)
       · try exact Bool.noConfusion g
         all_goals try simp only [ZZ] at g
         all_goals (
          refine kX ?_
          have hst : Vk (WV s.er i) a.er = 11 ∨ Vk (WV s.er i) a.er = XW a.er := by unfold Vk; split <;> simp
          have hst : Vk (WV s.er i) a.er = 11 := Jh4 m9 hlast m9
          rw [hst] at hinv; refine kX ?_; refine JH rfl (fun g => ?_) (fun g => ?_)
          try simp only [ZZ] at g
          refine GR fun w1 hs1 => ?_; exact DN
          try exact Bool.noConfusion g
          skip)
       · try simp only [ZZ] at g
         refine Gw ?_
         have hst : Vk (WV s.er i) a.er = 11 ∨ Vk (WV s.er i) a.er = XW a.er := by unfold Vk; split <;> simp
         have hst : Vk (WV s.er i) a.er = XW a.er := Jak (by first | exact Or.inl m9 | exact Or.inr (Or.inl (by rw [show i = 0 by omega]; rfl)) | exact Or.inr (Or.inr ⟨_, hlast, by assumption⟩))
         rw [hst] at hinv; refine kX ?_; refine cD (fun g => ?_) fun g => ?_
         refine GR fun w1 hs1 => ?_; exact DN
         refine G6 ?_; exact Jr (i + 1) ⟨by omega, by rw [if_neg mz] at hinv; exact hinv⟩ m0 (lK rfl) (List.sublist_cons_self _ _) (fun _ _ h => h)
       skip)
    · exact Dg
theorem Jqx (ha : a.In R) (k : BS) : PureR Tryz.prog 20 [a.val, Jw k].toArray (Jw (Qr a.er k)) R := by
 have hl : a.slots.length ≤ 9223372036854775807 := ha.len
 have hseg := ha.seg
 refine Ja Tryz.func20 rfl rfl fun w => Nd fun r1 r2 => ?_; refine X6 7 [1] rfl rfl (gZ ?_); refine Jb (Rl := (r2, Obj.cells #[Jw k] 9 (0, 0)) :: R) rfl rfl rfl Jwv (yS (caps := [.pointer (some ⟨r2, 0, none⟩)]) (pr := fun x => decide (x.1 = k)) hl (hseg.mono fun q hq => List.mem_cons_of_mem _ hq) (enters_of Tryz.func41 m5 rfl) (fun x _ => Jur List.mem_cons_self x)) (fun q hq => (List.mem_cons.1 hq).elim (fun h => Or.inl (by rw [h]; simp)) Or.inr) (JQ 10 rfl (cD (fun g => ?_) fun g => ?_))
 refine GL ?_
 have hf := wS m9
 refine H4 ?_; refine J6 rfl rfl rfl Jww Jgx (Ga ?_); refine MW fun w1 hs1 => ?_; rw [Jkj (a := a.er) hf]; rfl
 ·refine Gw ?_
  obtain ⟨i, x, hidx, hx, hf⟩ := Jh0 m9
  refine QZ 4 [1] rfl rfl ?_
  refine LR rfl (Jg (j := i) rfl hseg rfl rfl rfl mg (by have := (List.getElem?_eq_some_iff.1 hx).1; omega)) ?_; refine LR rfl (JR (off' := XO a.p + (i * 2 + 1)) rfl rfl Mq) (LR rfl (Wa Kl (k := 1) (v := Jw x.2) oR rfl hseg hx rfl rfl) (DG fun w1 hs1 => ?_)); rw [Jno (a := a.er) hf]; rfl
theorem Jqy (hl : xs.length ≤ 1000) (hrow : rowOk 2 xs.length (xs.flatMap Vi) row) (eg : Enters Tryz.prog g) (hg : ∀ x ∈ xs, PureR Tryz.prog g (vS x :: caps).toArray (.bool (pr x)) R) :
  PureT (α := { row' : Vg // rowOk 2 (xs.filter fun x => !pr x).length ((xs.filter fun x => !pr x).flatMap Vi) row' }) Tryz.prog 49 [J3 xs.length row, .func (.func g) #[] caps.toArray].toArray (fun x => J3 (xs.filter fun x => !pr x).length x.1) (JL 59 (xs.flatMap Vi) row) (fun x => JL 59 ((xs.filter fun x => !pr x).flatMap Vi) x.1) R := by
 have hseg := KY (e := 59) hrow m7
 have hV := VE xs.length row (fun h => by subst h; exact hrow.1)
 have hidx := yS (R := JL 59 (xs.flatMap Vi) row ++ R) m0 (hseg.mono fun q hq => List.mem_append_left _ hq) eg (fun x hx => (hg x hx).mono fun q hq => List.mem_append_right _ hq)
 rw [hV] at hidx
 obtain ⟨m, hm⟩ : ∃ m, m = YN pr xs := ⟨_, rfl⟩
 rw [← hm] at hidx; refine J2 Tryz.func49 rfl rfl fun w => gc ?_; refine Jb (Rl := JL 59 (xs.flatMap Vi) row ++ R) rfl rfl rfl Jwv hidx (fun q hq => (List.mem_append.1 hq).elim Or.inl Or.inr) (JQ 10 rfl (cD (fun h5 => ?_) fun h5 => ?_))
 refine GD ?_; refine NP fun w1 hs1 => ?_
 (have hall := Jsr (pr := pr) (xs := xs) m0
  rw [hall]
  exact ⟨⟨row, hrow⟩, rfl, hs1⟩)
 ·refine JE 4 rfl ?_
  obtain ⟨i, e0⟩ : ∃ i : Nat, m = (i : Int) := by
   rcases wR (pr := pr) (xs := xs) with ⟨h, _⟩ | ⟨i, _, h, _⟩
   ·unfold YN at hm h; split at hm <;> split at h <;> first | omega | simp_all
   exact ⟨i, hm.trans h⟩
  subst e0
  obtain ⟨hil, hif⟩ := Jsq hm.symm
  obtain ⟨r, cap, sp, rfl⟩ := row_some hrow m0
  obtain ⟨hr1, hr2⟩ := hrow
  obtain ⟨x0, hx0, _⟩ := Q0 hil
  have hsplit : xs.flatMap Vi ++ sp = ((xs.take (i + 1)).filter fun x => !pr x).flatMap Vi ++ (Vi x0 ++ ((xs.drop (i + 1)).flatMap Vi ++ sp)) := by
   rw [hif, ← List.append_assoc (Vi x0), ← Jc7 hx0, ← List.append_assoc, ← List.flatMap_append, List.take_append_drop]
  change HC _ _ _ [(r, .cells (xs.flatMap Vi ++ sp).toArray 59 (0, 0))] _ _ _; rw [hsplit]
  have hcap : xs.length ≤ cap := by omega
  have hi1 : ((xs.take (i + 1)).filter fun x => !pr x).length = i := by rw [hif, List.length_take]; omega
  refine GW ?_; refine Jh m0 m0 (kR ?_); refine Jy (σ := Nat × List Value) (fun s => s.1 ≤ xs.length ∧ ((xs.take s.1).filter fun x => !pr x).length < s.1 ∧ s.2.length + ((xs.take s.1).filter fun x => !pr x).length * 2 = s.1 * 2) (fun s => [(0, .slice (some ⟨r, 0, none⟩) xs.length cap), (1, .func (.func g) #[] caps.toArray), (5, .int .i64 (((xs.take s.1).filter fun x => !pr x).length : Nat)), (6, .int .i64 (s.1 : Int))]) (fun s => [(r, .cells (((xs.take s.1).filter fun x => !pr x).flatMap Vi ++ (s.2 ++ ((xs.drop s.1).flatMap Vi ++ sp))).toArray 59 (0, 0))]) (fun _ _ _ => True) (fun s => xs.length - s.1) (i + 1, Vi x0) ⟨by simp only; omega, by simp only; omega, by simp only [Kl]; omega⟩ (.cons rfl (.cons rfl (.cons (by rw [hi1]; rfl) (.cons rfl .nil)))) (List.Sublist.refl _) (fun _ _ h => h) ?_; rintro ⟨j, G⟩ ⟨hj1, hj2, hG⟩; simp only at hj1 hj2 hG; change HC _ _ [(0, _), (1, _), (5, .int .i64 (((xs.take j).filter fun x => !pr x).length : Nat)), (6, .int .i64 (j : Int))] [(r, .cells (((xs.take j).filter fun x => !pr x).flatMap Vi ++ (G ++ ((xs.drop j).flatMap Vi ++ sp))).toArray 59 (0, 0))] _ _ _; refine kS ?_; refine kz ?_; refine NR ?_; refine cD (fun h11 => ?_) fun h11 => ?_
  refine kX ?_
  obtain ⟨x, hx, hmx⟩ := Q0 (show j < xs.length by omega)
  rw [Jc7 hx, List.append_assoc (Vi x)]; refine GW ?_; refine LR rfl (Kc (j := j) (m := 2) rfl rfl rfl rfl rfl m0 rfl) (LR rfl (Jo (n := 2) (vs := Vi x) rfl (kn 0 rfl) rfl rfl (by simp only [List.toList_toArray]; rw [← List.append_assoc, List.drop_left' (by rw [List.length_append, Qd Kl]; omega), List.take_left' (Kl x)]) rfl) (LN rfl fun r1 => Ju (k := 0) (n := 2) (ys := Vi x) rfl rfl rfl rfl rfl rfl rfl rfl rfl (ND ?_))); refine LR rfl (Jm (xs := Vi x) (n := 2) rfl (kn 0 rfl) rfl rfl rfl) (Jb rfl rfl rfl eg (hg x hmx) oR (NR ?_)); refine cD (fun h15 => ?_) fun h15 => ?_
  refine GL ?_
  obtain ⟨M, G2, hcut, lM⟩ := cut (l := G ++ Vi x) (a := 2) (by rw [List.length_append, Kl]; omega)
  have lG2 : G2.length = G.length := by have := congrArg List.length hcut; simp only [List.length_append, Kl] at this; omega
  have hkeep := Yz (pr := fun x => !pr x) hx
  rw [if_pos mz] at hkeep; refine GW ?_; refine LR rfl (Jm (xs := Vi x) (n := 2) rfl (kn 0 rfl) rfl rfl rfl) (LR rfl (Kc (j := ((xs.take j).filter fun x => !pr x).length) (m := 2) rfl rfl rfl rfl rfl m0 rfl) (Ve (k := 1) (n := 2) (vs := (Vi x).toArray) (cs' := (((xs.take j).filter fun x => !pr x).flatMap Vi ++ (Vi x ++ (G2 ++ ((xs.drop (j + 1)).flatMap Vi ++ sp)))).toArray) rfl rfl rfl rfl rfl rfl rfl (by simp only [List.size_toArray, List.length_append, Qd Kl]; omega) (by apply Array.toList_inj.1; simp only [List.toList_toArray, Nat.zero_add]; rw [show G ++ (Vi x ++ ((xs.drop (j + 1)).flatMap Vi ++ sp)) = M ++ (G2 ++ ((xs.drop (j + 1)).flatMap Vi ++ sp)) by rw [← List.append_assoc, hcut, List.append_assoc]]; exact XC (Qd Kl _) lM) rfl (ND ?_))); refine Jh m0 m0 (Gi ?_); refine N0 ?_; exact Jr (j + 1, G2) ⟨by simp only; omega, by simp only; rw [hkeep, List.length_append, List.length_singleton]; omega, by simp only; rw [hkeep, List.length_append, List.length_singleton]; omega⟩ ml (.cons rfl (.cons rfl (.cons (by simp only [Vu]; rw [hkeep, List.length_append, List.length_singleton]; rfl) (.cons rfl .nil)))) (by simp only [hkeep, List.flatMap_append, List.flatMap_singleton, List.append_assoc]; exact List.sublist_cons_self _ _) (fun _ _ h => h)
  refine gY ?_; refine N0 ?_
  (have hdel := Yz (pr := fun x => !pr x) hx
   rw [if_neg mz, List.append_nil] at hdel
   exact Jr (j + 1, G ++ Vi x) ⟨by simp only; omega, by simp only; rw [hdel]; omega, by simp only [List.length_append, Kl]; rw [hdel]; omega⟩ ml (.cons rfl (.cons rfl (.cons (by simp only [Vu]; rw [hdel]; try rfl) (.cons rfl .nil)))) (by simp only [hdel, List.append_assoc]; exact List.sublist_cons_self _ _) (fun _ _ h => h))
  ·refine Nv ?_
   have hjn : j = xs.length := by omega
   have hdrop : (xs.drop j).flatMap Vi = [] := by rw [List.drop_of_length_le m0]; rfl
   rw [hdrop, List.nil_append]; refine GW ?_; refine LR rfl (JT (sz := 2) (m := ((xs.take j).filter fun x => !pr x).length) (kl := some ((xs.take j).filter fun x => !pr x).length) (kh := none) (km := none) (q := xs.length) (z := cap) (off' := ((xs.take j).filter fun x => !pr x).length * 2) rfl rfl rfl ⟨_, rfl⟩ trivial trivial rfl rfl rfl m0 m0 m0 (fun _ => rfl) mu) (Jkb (k := 0) (sz := 2) rfl rfl rfl rfl rfl rfl rfl m7 (by simp only [List.size_toArray, List.length_append, Qd Kl, List.length_drop]; omega) (XC (P := ((xs.take j).filter fun x => !pr x).flatMap Vi) (M := G) (S := sp) (Qd Kl _) m0) rfl (Gc ?_))
   refine LR rfl (JT (sz := 2) (q := ((xs.take j).filter fun x => !pr x).length) (kl := none) (kh := some ((xs.take j).filter fun x => !pr x).length) (km := none) (m := 0) (z := cap) (off' := 0) rfl rfl rfl trivial ⟨_, rfl⟩ trivial rfl rfl rfl m0 m0 m0 (fun h => by cases h) nV) (gJ ?_); refine NP fun w1 hs1 => ?_
   (have hfull : (xs.take j).filter (fun x => !pr x) = xs.filter fun x => !pr x := by rw [hjn, List.take_length]
    rw [hfull] at hs1 ⊢; refine ⟨⟨some (r, cap, _), Qd Kl _, ?_⟩, rfl, hs1.weakL (by simp only [JL]; exact List.Sublist.refl _)⟩
    have hz : ∀ n, (Builtin.zeroCells (Value.agg #[Value.string ⟨#[]⟩, Value.string ⟨#[]⟩]).cells n).toList.length = n * 2 := fun n => by rw [Array.length_toList, size_zeroCells]; rfl
    rw [List.length_append, hz]
    have := List.length_filter_le (fun x => !pr x) xs
    omega)
theorem Jv4 (ha : a.In R) (k v : BS) : PureT (α := AcRes R (wI a.er k v)) Tryz.prog 25 [a.val, Jw k, Jw v].toArray (fun x => x.val) [] (fun x => x.L) R := by
  have hlk := Jgy ha
  have hl := ha.len
  have hseg := ha.seg
  have hset : wI a.er k v = if XW a.er ≠ 0 then (a.er, XW a.er) else if k.length ≠ 32 ∨ v.length ≠ 32 then (a.er, 2) else if (Qm a.slots k v).length > 16 then (a.er, 5) else (⟨a.addr, a.nonce, a.bal, a.code, Qm a.slots k v⟩, 0) := rfl
  refine J2 Tryz.func25 rfl rfl fun w => Nd fun r1 r2 => ?_; refine LN rfl fun r3 => Gc ?_; refine kp ?_; refine Jb rfl rfl rfl Jwu hlk oR (HW ?_); refine cD (fun g => ?_) fun g => ?_
  refine QZ 4 [2] rfl rfl ?_
  refine ki ?_; refine Np fun w1 hs1 => ?_; rw [hset, if_pos m0]; exact ⟨⟨a, XW a.er, [], ha, rfl⟩, rfl, hs1.weakL (List.nil_sublist _)⟩
  · refine kS ?_; refine LR rfl (Je rfl (kn 1 rfl) rfl rfl) (De ?_)
    refine Jp 19 rfl (fun gb => ?_) (fun gb => ?_) <;> (try simp only [ZZ] at gb) <;> first | (refine QK rfl ?_) | (refine LK rfl ?_)
    all_goals refine NG ?_
    all_goals (
     refine NY ?_; refine JH rfl (fun g => ?_) (fun g => ?_)
     try simp only [ZZ] at g
     refine Nw ?_; refine kp ?_
     refine ki ?_; refine Np fun w1 hs1 => ?_; rw [hset, if_neg m0, if_pos m0]; exact ⟨⟨a, 2, [], ha, rfl⟩, rfl, hs1.weakL (List.nil_sublist _)⟩
     · try exact Bool.noConfusion g
       all_goals try simp only [ZZ] at g
       all_goals (
        refine Gw ?_
        have hok : KN Prod.fst a.slots ∧ a.slots.length ≤ 16 := ⟨(Xm (a := a.er) m0).2.2.1, (Xm (a := a.er) m0).2.2.2.2⟩
        have hinl : (QH Prod.fst (k, v) a.slots).length ≤ 17 := by
          have := hok.2
          rw [Jhs hok.1]
          split <;> omega
        refine QZ 5 [2, 1] rfl rfl (LR rfl (Js (r := [_, _]) rfl rfl) (JW rfl rfl rfl (enters_of Tryz.func47 m5 rfl) (Jun (by have := hok.2; omega) hseg hok.1 (k, v)) oR fun x => ?_))
        obtain ⟨row, hrow⟩ := x
        refine kZ ?_; change HL _ _ ((30, J3 (QH Prod.fst (k, v) a.slots).length row) :: _) ((r3, _) :: (r2, _) :: (r1, _) :: JL _ _ row) _ _ _ _; refine Gi ?_; refine J6 rfl rfl rfl Jww Jgx (Dx ?_); refine Gj ?_; refine cD (fun g => ?_) fun g => ?_
        have hdC := Jqy (R := [(r2, Obj.cells #[Jw k] 9 (0, 0))]) (caps := [.pointer (some ⟨r2, 0, none⟩)]) (pr := fun x => decide (x.1 = k)) m0 hrow (enters_of Tryz.func50 m5 rfl) (fun x _ => Jx1 List.mem_cons_self x)
        rw [Jf3, show qE Prod.fst k a.slots = Qm a.slots k v from by unfold Qm; rw [if_pos m9]] at hdC; refine Nw ?_; refine gZ ?_; refine Vv (T := JL _ _ row) (L0 := [(r3, _), (r2, _), (r1, _)]) (Rl := [(r2, Obj.cells #[Jw k] 9 (0, 0))]) (List.perm_append_comm (l₁ := [_, _, _])) rfl rfl rfl (enters_of Tryz.func49 m5 rfl) hdC (fun q hq => Or.inl (by rw [List.mem_singleton.1 hq]; exact List.mem_cons_of_mem _ List.mem_cons_self)) fun x => ?_
        obtain ⟨row2, hrow2⟩ := x
        refine kZ ?_; change HL _ _ ((36, J3 (Qm a.slots k v).length row2) :: _) ((r3, _) :: (r2, _) :: (r1, _) :: JL _ _ row2) _ _ _ _; refine JQ 5 rfl ?_
        try rw [show QH Prod.fst (k, v) a.slots = Qm a.slots k v from by unfold Qm; rw [if_neg m9]] at hrow ⊢
        refine Nw ?_; refine LR rfl (Wp rfl hrow2.zero rfl) (NR ?_); refine cD (fun g => ?_) fun g => ?_
        exact gP
        refine gY ?_; refine Kt (k := 2) (cs' := #[Jw a.addr, uV a.nonce, uV a.bal.a, uV a.bal.b, uV a.bal.c, uV a.bal.d, Jw a.code, J3 (Qm a.slots k v).length row2]) rfl rfl rfl rfl rfl (Zp _ _) rfl rfl rfl rfl (GV ?_); refine kp ?_; refine Ve (k := 0) (n := 8) (cs' := #[Jw a.addr, uV a.nonce, uV a.bal.a, uV a.bal.b, uV a.bal.c, uV a.bal.d, Jw a.code, J3 (Qm a.slots k v).length row2]) (vs := #[_, _, _, _, _, _, _, _]) rfl rfl rfl rfl rfl rfl nY mm rfl rfl (gJ ?_); refine Np fun w1 hs1 => ?_
        (rw [hset, if_neg m0, if_neg m0, if_neg m0]
         exact ⟨⟨⟨a.addr, a.nonce, a.bal, a.code, Qm a.slots k v, QD row2⟩, 0, JL 59 ((Qm a.slots k v).flatMap Vi) row2, wT ha m0 m0 m0 (KY hrow2 m7), rfl⟩, by show Ending.returned _ = Ending.returned (Value.tuple #[Value.agg #[Jw a.addr, uV a.nonce, uV a.bal.a, uV a.bal.b, uV a.bal.c, uV a.bal.d, Jw a.code, Ky (Qm a.slots k v).length (QD row2)], .int .i64 0]); rw [VE _ _ hrow2.zero]; rfl, hs1.weakL (List.sublist_append_right [_, _, _] _)⟩)
        refine JE 4 rfl ?_
        try rw [show QH Prod.fst (k, v) a.slots = Qm a.slots k v from by unfold Qm; rw [if_neg m9]] at hrow ⊢
        refine Nw ?_; refine LR rfl (Wp rfl hrow.zero rfl) (NR ?_); refine cD (fun g => ?_) fun g => ?_
        exact gP
        refine gY ?_; refine Kt (k := 2) (cs' := #[Jw a.addr, uV a.nonce, uV a.bal.a, uV a.bal.b, uV a.bal.c, uV a.bal.d, Jw a.code, J3 (Qm a.slots k v).length row]) rfl rfl rfl rfl rfl (Zp _ _) rfl rfl rfl rfl (GV ?_); refine kp ?_; refine Ve (k := 0) (n := 8) (cs' := #[Jw a.addr, uV a.nonce, uV a.bal.a, uV a.bal.b, uV a.bal.c, uV a.bal.d, Jw a.code, J3 (Qm a.slots k v).length row]) (vs := #[_, _, _, _, _, _, _, _]) rfl rfl rfl rfl rfl rfl nY mm rfl rfl (gJ ?_); refine Np fun w1 hs1 => ?_
        (rw [hset, if_neg m0, if_neg m0, if_neg m0]
         exact ⟨⟨⟨a.addr, a.nonce, a.bal, a.code, Qm a.slots k v, QD row⟩, 0, JL 59 ((Qm a.slots k v).flatMap Vi) row, wT ha m0 m0 m0 (KY hrow m7), rfl⟩, by show Ending.returned _ = Ending.returned (Value.tuple #[Value.agg #[Jw a.addr, uV a.nonce, uV a.bal.a, uV a.bal.b, uV a.bal.c, uV a.bal.d, Jw a.code, Ky (Qm a.slots k v).length (QD row)], .int .i64 0]); rw [VE _ _ hrow.zero]; rfl, hs1.weakL (List.sublist_append_right [_, _, _] _)⟩)
        skip)
     skip)
theorem Jzh {s : StL} (hs : s.In R) (ha : a.In R) : PureT (α := StRes R (Jsi s.er a.er)) Tryz.prog 23 [s.val, a.val].toArray (fun x => x.val) [] (fun x => x.L) R := by
 have hc := Xy hs
 have hlk := Jgy ha
 have hl := hs.len
 have hseg := hs.seg
 have hput : Jsi s.er a.er = if Qi s.er ≠ 0 then (s.er, Qi s.er) else if XW a.er ≠ 0 then (s.er, XW a.er) else if (QH AcE.addr a.er s.er).length > 32 then (s.er, 5) else (QH AcE.addr a.er s.er, 0) := rfl
 have hil : (QH AcE.addr a.er s.er).length = (QH AcL.addr a s.accts).length := by unfold StL.er; rw [← Jf4, List.length_map]
 rw [hil] at hput; refine J2 Tryz.func23 rfl rfl fun w => Nd fun r1 r2 => ?_; refine LN rfl fun r3 => Gc ?_; refine LR rfl (Jo (vs := [_]) rfl (kn 2 rfl) rfl rfl rfl rfl) (Jb rfl rfl rfl Jkv hc oR (HW ?_)); refine cD (fun g => ?_) fun g => ?_
 refine QZ 4 [2] rfl rfl ?_
 refine ki ?_; refine gR fun w1 hs1 => ?_; rw [hput, if_pos m0]; exact ⟨⟨s, Qi s.er, [], hs, rfl⟩, rfl, hs1.weakL (List.nil_sublist _)⟩
 ·refine kS ?_; refine LR rfl (Jo (vs := [_, _, _, _, _, _, _, _]) rfl (kn 1 rfl) rfl rfl rfl rfl) (Jb rfl rfl rfl Jwu hlk oR (HW ?_)); refine cD (fun g => ?_) fun g => ?_
  refine QZ 4 [2] rfl rfl ?_
  refine ki ?_; refine gR fun w1 hs1 => ?_; rw [hput, if_neg m0, if_pos m0]; exact ⟨⟨s, XW a.er, [], hs, rfl⟩, rfl, hs1.weakL (List.nil_sublist _)⟩
  ·refine Gw ?_
   have hok : s.accts.length ≤ 32 ∧ KN AcL.addr s.accts := by
    have h := Jae.1 (show Qi s.er = 0 by omega)
    rw [s.er_len] at h; exact ⟨h.1, (Jkk s).2 h.2.2⟩
   refine QZ 4 [2, 1] rfl rfl (JW rfl rfl rfl (enters_of Tryz.func46 m5 rfl) (Jum m0 hseg hok.2 a) oR fun x => ?_)
   obtain ⟨row, hrow⟩ := x
   refine kZ ?_; change HL _ _ ((24, J3 (QH AcL.addr a s.accts).length row) :: _) ((r3, _) :: (r2, _) :: (r1, _) :: JL _ _ row) _ _ _ _; refine Gi ?_; refine LR rfl (Wp rfl hrow.zero rfl) (NR ?_); refine cD (fun g => ?_) fun g => ?_
   refine Nw ?_; refine LR rfl (Jo (vs := [_]) rfl (kn 2 rfl) rfl rfl rfl rfl) ?_
   refine ki ?_; refine gR fun w1 hs1 => ?_; rw [hput, if_neg m0, if_neg m0, if_pos m0]; exact ⟨⟨s, 5, [], hs, rfl⟩, rfl, hs1.weakL (List.nil_sublist _)⟩
   ·refine kS ?_
    refine LR rfl (Js (r := [J3 _ row]) rfl (by cases row <;> rfl)) ?_; refine Ve (k := 0) (n := 1) (cs' := #[J3 (QH AcL.addr a s.accts).length row]) (vs := #[_]) rfl rfl rfl rfl rfl rfl nY mm rfl rfl ?_; refine gJ ?_; refine gR fun w1 hs1 => ?_
    (rw [hput, if_neg m0, if_neg m0, if_neg m0]
     exact ⟨⟨⟨QH AcL.addr a s.accts, QD row⟩, 0, JL 34 ((QH AcL.addr a s.accts).flatMap AcL.cells) row, ⟨by show (QH AcL.addr a s.accts).length ≤ 9223372036854775807; omega, (KY hrow m7).mono fun q hq => List.mem_append_left _ hq, fun x hx => ((vU hx).elim (fun e => by rw [e]; exact ha) (hs.accts x)).mono fun q hq => List.mem_append_right _ hq⟩, by unfold StL.er; rw [Jf4]⟩, by show Ending.returned _ = Ending.returned (Value.tuple #[Value.agg #[Ky (QH AcL.addr a s.accts).length (QD row)], .int .i64 0]); rw [VE _ _ hrow.zero]; rfl, hs1.weakL (List.sublist_append_right [_, _, _] _)⟩)
theorem Jqz  {ys : List (BS × BS)} {p q : Pl} (hl : xs.length ≤ 9223372036854775807) (hl2 : ys.length ≤ 9223372036854775807) (hs : Seg R xs.length (xs.flatMap Vi) p) (hs' : Seg R ys.length (ys.flatMap Vi) q) :
  PureR Tryz.prog 44 [Ky xs.length p, Ky ys.length q].toArray (.bool (decide (xs = ys))) R := by
 refine Ja Tryz.func44 rfl rfl fun w => Hx ?_; refine cD (fun g => ?_) fun g => ?_
 refine g8 fun w1 hs1 => ?_; rw [decide_eq_false (show ¬ xs = ys from fun e => by have := congrArg List.length e; omega)]; rfl
 ·refine gY ?_; refine H0 ?_
  have hll : xs.length = ys.length := by omega
  refine Jy (σ := Nat) (fun i => i ≤ xs.length ∧ ∀ j, j < i → xs[j]? = ys[j]?) (fun i => [(0, Ky xs.length p), (1, Ky ys.length q), (12, .int .i64 (xs.length : Int)), (13, .int .i64 (i : Int))]) (fun _ => []) (fun _ _ _ => True) (fun i => xs.length - i) 0 ⟨by omega, fun j hj => absurd hj m0⟩ (lK rfl) (List.nil_sublist _) (fun _ _ h => h) ?_; rintro i ⟨hi1, hinv⟩; refine Nv ?_; refine cD (fun g => ?_) fun g => ?_
  refine JE 11 rfl ?_
  obtain ⟨x, hx, hmx⟩ := Q0 ng
  obtain ⟨y, hy, hmy⟩ := Q0 (show i < ys.length by omega)
  refine JX 9 m5 m5 (NK ?_)
  refine H1 ?_; refine Jc rfl rfl rfl (KE Kl oR rfl hs hx rfl rfl) (NK ?_)
  refine Jc rfl rfl rfl (Jg (j := i) rfl hs' rfl rfl rfl mg m0) (Jc rfl rfl rfl (KE Kl oR rfl hs' hy rfl rfl) (G0 ?_)); refine cD (fun g => ?_) fun g => ?_
  refine kd fun w1 hs1 => ?_; rw [decide_eq_false (Jnq hx hy mz)]; rfl
  refine G6 ?_
  exact Jr (i + 1) ⟨by omega, fun j hj => by
   rcases Nat.lt_succ_iff_lt_or_eq.1 hj with hj | rfl
   exact hinv j hj
   rw [hx, hy]; simp_all⟩ m0 (lK rfl) (List.nil_sublist _) (fun _ _ h => h)
  ·refine kd fun w1 hs1 => ?_; rw [decide_eq_true (Jnp hll m0 hinv)]; rfl
theorem Jus (a b : AcL) : a.er = b.er ↔ a.addr = b.addr ∧ a.nonce = b.nonce ∧ a.bal = b.bal ∧ a.code = b.code ∧ a.slots = b.slots := by
 unfold AcL.er
 simp
theorem Jut  {b : AcL} (ha : a.In R) (hb : b.In R) : PureR Tryz.prog 43 [vA a, vA b].toArray (.bool (decide (a.er = b.er))) R := by
 have heq := Jqz ha.len hb.len ha.seg hb.seg
 have hE : decide (a.er = b.er) = (decide (a.addr = b.addr) && (decide (a.nonce = b.nonce) && (decide (a.bal = b.bal) && (decide (a.code = b.code) && decide (a.slots = b.slots))))) := by
  rw [Bool.eq_iff_iff]; simp only [decide_eq_true_eq, Bool.and_eq_true]; exact Jus a b
 rw [hE]; refine Ja Tryz.func43 rfl rfl fun w => Nd fun r1 r2 => ?_; refine X6 9 [1, 0] rfl rfl (Dx ?_); refine QK rfl ?_
 refine Jp 10 rfl (fun gb => ?_) (fun gb => ?_) <;> (try simp only [ZZ] at gb) <;> first | (refine LR rfl (J5 rfl rfl rfl) ?_) | (refine LK rfl ?_)
 all_goals refine GY ?_
 all_goals refine Ng ?_
 all_goals refine LW 2 [0] rfl rfl ?_
 all_goals first | (refine Jk (congrArg Value.bool (eqU a.nonce b.nonce)) ?_) | skip
 all_goals refine Gv ?_
 all_goals first | refine LK rfl ?_ | (refine Jp 17 rfl (fun gb => ?_) (fun gb => ?_) <;> (try simp only [ZZ] at gb) <;> first | (refine LR rfl (J5 rfl rfl rfl) ?_) | (refine LK rfl ?_))
 all_goals refine kT ?_
 all_goals first | (refine LR rfl (xH rfl rfl rfl rfl rfl m5 rfl rfl rfl rfl) ?_) | refine LK rfl ?_
 all_goals first | (refine Jk (congrArg Value.bool (eqW a.bal b.bal)) ?_) | skip
 all_goals refine Gv ?_
 all_goals first | refine LK rfl ?_ | (refine Jp 24 rfl (fun gb => ?_) (fun gb => ?_) <;> (try simp only [ZZ] at gb) <;> first | (refine LR rfl (J5 rfl rfl rfl) ?_) | (refine LK rfl ?_))
 all_goals refine kT ?_
 all_goals first | refine LR rfl (Vc rfl rfl) ?_ | refine LK rfl ?_
 all_goals refine Gv ?_
 all_goals first | refine LK rfl ?_ | (refine Jp 31 rfl (fun gb => ?_) (fun gb => ?_) <;> (try simp only [ZZ] at gb) <;> first | (refine LR rfl (J5 rfl rfl rfl) ?_) | (refine LK rfl ?_))
 all_goals refine kT ?_
 all_goals first | (refine Jb rfl rfl rfl (enters_of Tryz.func44 m5 rfl) heq oR ?_) | refine LK rfl ?_
 all_goals (
  refine NE fun w1 hs1 => ?_
  simp_all [JC]
  skip)
theorem qU {s t : StL} : s.er = t.er ↔ s.accts.length = t.accts.length ∧ ∀ (i : Nat) a b, s.accts[i]? = some a → t.accts[i]? = some b → a.er = b.er := by
 constructor
 ·intro h
  refine ⟨by have := congrArg List.length h; rwa [s.er_len, t.er_len] at this, fun i a b ha hb => ?_⟩
  exact D6
 ·rintro ⟨h1, h2⟩
  apply List.ext_getElem?
  intro i
  by_cases hi : i < s.accts.length
  ·obtain ⟨a, ha, _⟩ := Q0 hi
   obtain ⟨b, hb, _⟩ := Q0 Mh
   rw [XD ha, XD hb, h2 i a b ha hb]
  ·rw [List.getElem?_eq_none MI, List.getElem?_eq_none (by rw [t.er_len]; omega)]
theorem Jq0 {s t : StL} (hs : s.In R) (ht : t.In R) :
  PureR Tryz.prog 45 [Ky s.accts.length s.p, Ky t.accts.length t.p, fV 43].toArray (.bool (decide (s.er = t.er))) R := by
 have hl : s.accts.length ≤ 9223372036854775807 := hs.len
 have hl2 : t.accts.length ≤ 9223372036854775807 := ht.len
 have h1 := hs.seg
 have h2 := ht.seg
 refine Ja Tryz.func45 rfl rfl fun w => gc ?_; refine LR rfl (Jq rfl h1 rfl) (QK rfl (LR rfl (Jq rfl h2 rfl) (JQ 3 rfl ?_))); refine cD (fun g => ?_) fun g => ?_
 refine g8 fun w1 hs1 => ?_; rw [decide_eq_false (show ¬ s.er = t.er from fun e => by have := (qU.1 e).1; omega)]; rfl
 ·refine gY ?_; refine LR rfl (Jq rfl h1 rfl) (kR ?_)
  have hll : s.accts.length = t.accts.length := by omega
  refine Jy (σ := Nat) (fun i => i ≤ s.accts.length ∧ ∀ q, q < i → ∀ a b, s.accts[q]? = some a → t.accts[q]? = some b → a.er = b.er) (fun i => [(1, Ky t.accts.length t.p), (2, fV 43), (15, Ky s.accts.length s.p), (16, .int .i64 (s.accts.length : Int)), (17, .int .i64 (i : Int))]) (fun _ => []) (fun _ _ _ => True) (fun i => s.accts.length - i) 0 ⟨by omega, fun j hj => absurd hj m0⟩ (lK rfl) (List.nil_sublist _) (fun _ _ h => h) ?_; rintro i ⟨hi1, hinv⟩; refine Nv ?_; refine cD (fun g => ?_) fun g => ?_
  refine kX ?_
  obtain ⟨x, hx, hmx⟩ := Q0 Mg
  obtain ⟨y, hy, hmy⟩ := Q0 Mh
  refine Nw ?_
  refine LR rfl (Jg (j := i) rfl h1 rfl rfl rfl mg m0) (LR rfl (KE AcL.len oR rfl h1 hx rfl rfl) (LN rfl fun r1 => QK rfl (Ju (k := 0) (n := 8) (ys := x.cells) rfl rfl rfl rfl rfl x.len rfl x.one rfl (JK 6 rfl ?_))))
  refine LR rfl (Jg (j := i) rfl h2 rfl rfl rfl mg m0) (LR rfl (KE AcL.len oR rfl h2 hy rfl rfl) (LN rfl fun r2 => Ju (k := 0) (n := 8) (ys := y.cells) rfl rfl rfl rfl rfl y.len rfl y.one rfl (ND ?_))); refine LR rfl (Jm (xs := x.cells) (n := 8) rfl (kn 1 rfl) rfl rfl x.len) (LR rfl (Jm (xs := y.cells) (n := 8) rfl (kn 0 rfl) rfl rfl y.len) (Jb rfl rfl rfl (enters_of Tryz.func43 m5 rfl) (Jut (hs.accts x hmx) (ht.accts y hmy)) oR (NR ?_))); refine cD (fun g => ?_) fun g => ?_
  refine kd fun w1 hs1 => ?_; rw [decide_eq_false (show ¬ s.er = t.er from fun e => by have := (qU.1 e).2 i x y hx hy; simp_all)]; rfl
  refine G6 ?_
  exact Jr (i + 1) ⟨by omega, fun q hq u v hu hv => by
   rcases Nat.lt_succ_iff_lt_or_eq.1 hq with hq | rfl
   exact hinv q hq u v hu hv
   rw [hx] at hu; rw [hy] at hv; cases hu; cases hv; simp_all⟩ m0 (lK rfl) (List.nil_sublist _) (fun _ _ h => h)
  ·refine kd fun w1 hs1 => ?_; rw [decide_eq_true (qU.2 ⟨hll, fun q a b ha hb => hinv q (by have := (List.getElem?_eq_some_iff.1 ha).1; omega) a b ha hb⟩)]; rfl
theorem Jq1 {s t : StL} (hs : s.In R) (ht : t.In R) : PureR Tryz.prog 21 [s.val, t.val].toArray (.bool (decide (s.er = t.er))) R := by
 have h := Jq0 hs ht
 refine Ja Tryz.func21 rfl rfl fun w => Nd fun r1 r2 => ?_; refine X6 15 [1, 0] rfl rfl (Jb rfl rfl rfl (enters_of Tryz.func45 m5 rfl) h oR ?_); exact Nz
theorem yT (a b : AcL) : a.er = b.er ↔ a.addr = b.addr ∧ a.nonce = b.nonce ∧ a.bal = b.bal ∧ a.code = b.code ∧ a.slots = b.slots := by
 unfold AcL.er
 simp
theorem qt {b : AcL} (h : ¬ a.addr = b.addr ∨ ¬ a.nonce = b.nonce ∨ ¬ a.bal = b.bal ∨ ¬ a.code = b.code ∨ ¬ a.slots.length = b.slots.length) : ¬ a.er = b.er := fun e => by
 obtain ⟨h1, h2, h3, h4, h5⟩ := (yT a b).1 e
 rcases h with h | h | h | h | h
 ·exact h h1
 ·exact h h2
 ·exact h h3
 ·exact h h4
 ·exact h (by rw [h5])
theorem j8  {b : AcL} (ha : a.In R) (hb : b.In R) : PureR Tryz.prog 16 [a.val, b.val].toArray (.bool (decide (a.er = b.er))) R := by
  have hl : a.slots.length ≤ 9223372036854775807 := ha.len
  have hl2 : b.slots.length ≤ 9223372036854775807 := hb.len
  have h1 := ha.seg
  have h2 := hb.seg
  refine Ja Tryz.func16 rfl rfl fun w => JS (Nw ?_); refine QX (cs := a.cells.toArray) rfl rfl rfl rfl fun ra => QX (cs := b.cells.toArray) rfl rfl rfl rfl fun rb => X6 10 [1, 0] rfl rfl (LR rfl (ZL rfl rfl) (QK rfl ?_))
  refine Jp 11 rfl (fun gb => ?_) (fun gb => ?_) <;> (try simp only [ZZ] at gb) <;> first | (refine LR rfl (J5 rfl rfl rfl) ?_) | (refine LK rfl ?_)
  all_goals refine GY ?_
  all_goals refine Ng ?_
  all_goals refine LW 2 [0] rfl rfl ?_
  all_goals first | (refine Jk (congrArg (fun b => Value.bool (!b)) (eqU a.nonce b.nonce)) ?_) | skip
  all_goals refine Gv ?_
  all_goals first | refine LK rfl ?_ | (refine Jp 18 rfl (fun gb => ?_) (fun gb => ?_) <;> (try simp only [ZZ] at gb) <;> first | (refine LR rfl (J5 rfl rfl rfl) ?_) | (refine LK rfl ?_))
  all_goals refine kT ?_
  all_goals first | (refine LR rfl (Jg9 rfl rfl rfl rfl rfl m5 rfl rfl rfl rfl) ?_) | refine LK rfl ?_
  all_goals first | (refine Jk (congrArg (fun b => Value.bool (!b)) (eqW a.bal b.bal)) ?_) | skip
  all_goals refine Gv ?_
  all_goals first | refine LK rfl ?_ | (refine Jp 25 rfl (fun gb => ?_) (fun gb => ?_) <;> (try simp only [ZZ] at gb) <;> first | (refine LR rfl (J5 rfl rfl rfl) ?_) | (refine LK rfl ?_))
  all_goals refine kT ?_
  all_goals first | refine LR rfl (ZL rfl rfl) ?_ | refine LK rfl ?_
  all_goals refine Gv ?_
  all_goals first | refine LK rfl ?_ | (refine Jp 32 rfl (fun gb => ?_) (fun gb => ?_) <;> (try simp only [ZZ] at gb) <;> first | (refine LR rfl (J5 rfl rfl rfl) ?_) | (refine LK rfl ?_))
  all_goals refine GY ?_
  all_goals first | refine LR rfl (Jq rfl h1 rfl) ?_ | refine LK rfl ?_
  all_goals refine Ng ?_
  all_goals refine DA ?_
  all_goals first | refine LR rfl (Jq rfl h2 rfl) ?_ | refine LK rfl ?_
  all_goals (
   refine NY ?_; refine JH rfl (fun g => ?_) (fun g => ?_)
   try simp only [ZZ] at g
   refine g8 fun w1 hs1 => ?_
   first | (rw [decide_eq_false (qt (.inl m9))]; rfl) | (rw [decide_eq_false (qt (.inr (.inl m9)))]; rfl) | (rw [decide_eq_false (qt (.inr (.inr (.inl m9))))]; rfl) | (rw [decide_eq_false (qt (.inr (.inr (.inr (.inl m9)))))]; rfl) | (rw [decide_eq_false (qt (.inr (.inr (.inr (.inr m0)))))]; rfl)
   · try exact Bool.noConfusion g
     all_goals try simp only [ZZ] at g
     all_goals (
      refine JE 9 rfl ?_
      have hll : a.slots.length = b.slots.length := by omega
      have hflat : a.addr = b.addr ∧ a.nonce = b.nonce ∧ a.bal = b.bal ∧ a.code = b.code := by simp_all
      refine Jy (σ := Nat) (fun i => i ≤ a.slots.length ∧ ∀ j, j < i → a.slots[j]? = b.slots[j]?) (fun i => [(2, Value.pointer (some ⟨ra, 0, none⟩)), (3, Value.pointer (some ⟨rb, 0, none⟩)), (5, .int .i64 (i : Int))]) (fun _ => [(rb, .cells b.cells.toArray 34 (0, 0)), (ra, .cells a.cells.toArray 34 (0, 0))]) (fun _ _ _ => True) (fun i => a.slots.length - i) 0 ⟨by omega, fun j hj => absurd hj m0⟩ (lK rfl) (List.Sublist.refl _) (fun _ _ h => h) ?_; rintro i ⟨hi1, hinv⟩; refine QZ 6 [1] rfl rfl (LR rfl (Jq rfl h1 rfl) (NR ?_)); refine cD (fun g => ?_) fun g => ?_
      refine kX ?_
      obtain ⟨x, hx, hmx⟩ := Q0 (show i < a.slots.length by omega)
      obtain ⟨y, hy, hmy⟩ := Q0 (show i < b.slots.length by omega)
      refine JX 11 m5 m5 ?_
      refine GC ?_; refine Jc rfl rfl rfl (KE Kl oR rfl h1 hx rfl rfl) ?_
      refine ke ?_; refine MY ?_
      refine Jc rfl rfl rfl (Jg (j := i) rfl h2 rfl rfl rfl mg m0) (Jc rfl rfl rfl (KE Kl oR rfl h2 hy rfl rfl) (G0 ?_)); refine cD (fun g => ?_) fun g => ?_
      refine kd fun w1 hs1 => ?_; rw [decide_eq_false (show ¬ a.er = b.er from fun e => Jnq hx hy mz ((yT a b).1 e).2.2.2.2)]; rfl
      refine gY ?_; refine N0 ?_
      exact Jr (i + 1) ⟨by omega, fun j hj => by
        rcases Nat.lt_succ_iff_lt_or_eq.1 hj with hj | rfl
        exact hinv j hj
        rw [hx, hy]; simp_all⟩ m0 (lK rfl) (List.Sublist.refl _) (fun _ _ h => h)
      refine kd fun w1 hs1 => ?_; rw [decide_eq_true ((yT a b).2 ⟨hflat.1, hflat.2.1, hflat.2.2.1, hflat.2.2.2, Jnp hll m0 hinv⟩)]; rfl
      skip)
   skip)
structure Stay (s t : StL) (a key : BS) : Prop where
  there : Xf s a = true → Xf t a = true
  oth : a ≠ A0 → a ≠ A1 → Xf s a = Xf t a ∧ (Wv s a).er = (Wv t a).er
  nonce : (Wv s a).nonce = (Wv t a).nonce
  bal : (Wv s a).bal = (Wv t a).bal
  slot : (a = A0 → ¬ Jfz key) → Qr (Wv s a).er key = Qr (Wv t a).er key
theorem Y9 {a b : Bool} (h : a = b) : Value.bool a = .bool b := congrArg _ h
theorem Juu : Pure Tryz.prog 36 [].toArray (Jw V2) := by
 refine J8 Tryz.func36 rfl rfl fun w => DI ?_; refine WJ (n := 32) (b := 1) rfl rfl rfl rfl rfl rfl rfl rfl rfl m7 m7 fun r1 => LR rfl (Qq (b := V2) (row := some (r1, 32, [])) (e := 5) rfl ⟨rfl, rfl⟩ (fun p hp => .inl nJ) rfl rfl rfl) ?_; exact Nz
def Jq2 (p : Option BS) (a : AcE) : Bool := p.isNone || Op.bytesLess (p.getD []) a.addr
theorem xt (p : Option BS) (a : AcE) : Vk p a = if a.slots.any Zo = true ∨ a.addr.length ≠ 20 then 2 else if (Jq2 p a && QS Prod.fst a.slots) = false then 11 else if a.code.length > 512 ∨ a.slots.length > 16 then 5 else if a.slots.any Xe = true then 8 else 0 := by
 by_cases h : a.slots.any Zo = true ∨ a.addr.length ≠ 20
 ·have e : XW a = 2 := by unfold XW; rw [if_pos (h.elim Or.inr Or.inl)]
  rw [if_pos h, Jak (.inl e), e]
 rw [if_neg h]
 have h' : ¬ (a.addr.length ≠ 20 ∨ a.slots.any Zo = true) := fun hh => h (hh.elim Or.inr Or.inl)
 have e : XW a = if QS Prod.fst a.slots = false then 11 else if a.code.length > 512 ∨ a.slots.length > 16 then 5 else if a.slots.any Xe = true then 8 else 0 := by unfold XW; rw [if_neg h']
 cases hr : QS Prod.fst a.slots
 ·rw [hr, if_pos rfl] at e
  rw [Bool.and_false, if_pos rfl]
  unfold Vk
  split
  ·rfl
  ·exact e
 rw [hr, if_neg mf] at e
 have h2 : XW a ≠ 2 := by
  rw [e]
  split
  ·decide
  ·split <;> decide
 cases p with
 | none =>
  rw [Jka, e]
  rfl
 | some b =>
  show Vk (some b) a = if ((false || Op.bytesLess b a.addr) && true) = false then 11 else _
  cases hb : Op.bytesLess b a.addr
  ·rw [Jh4 h2 rfl hb]; rfl
  ·rw [Jak (.inr (.inr ⟨b, rfl, hb⟩)), e]; rfl
theorem Jq3 {p : α → Bool} {l : List α} {x : α} (h : l[j]? = some x) (hp : p x = true) : l.any p = true := List.any_eq_true.2 ⟨x, List.mem_of_getElem? h, hp⟩
theorem Jq4 {p : α → Bool} {l : List α} (h : ∀ (j : Nat) x, l[j]? = some x → p x = false) : l.any p = false := by
 rw [List.any_eq_false]; intro x hx
 obtain ⟨j, hj⟩ := List.getElem?_of_mem hx
 rw [h j x hj]; simp
structure RackI (a : AcL) (rb : Bool) (i : Nat) (rs sp : Bool) : Prop where
  le : i ≤ a.slots.length
  odd : ∀ (j : Nat) x, j < i → a.slots[j]? = some x → Zo x = false
  rs : rs = true ↔ rb = true ∧ ∀ (j : Nat) x y, j + 1 < i → a.slots[j]? = some x → a.slots[j + 1]? = some y → Op.bytesLess x.1 y.1 = true
  sp : sp = true ↔ ∃ (j : Nat) (x : BS × BS), j < i ∧ a.slots[j]? = some x ∧ x.2 = V2
theorem RackI.zero (a : AcL) (rb : Bool) : RackI a rb 0 rb false := ⟨Nat.zero_le _, fun _ _ h => absurd h (Nat.not_lt_zero _), by simp, by simp⟩
theorem RackI.next {rb : Bool} {sp rs' sp' : Bool} {x : BS × BS} (h : RackI a rb i rs sp) (hx : a.slots[i]? = some x) (ho : x.1.length = 32 ∧ x.2.length = 32)
  (hr : rs' = (rs && (decide (i = 0) || Op.bytesLess ((a.slots[i - 1]?.map Prod.fst).getD []) x.1))) (hp : sp' = (sp || decide (x.2 = V2))) : RackI a rb (i + 1) rs' sp' := by
 have hlt := (List.getElem?_eq_some_iff.1 hx).1
 refine ⟨hlt, fun j y hj hy => ?_, ?_, ?_⟩
 ·rcases Nat.lt_succ_iff_lt_or_eq.1 hj with hj | rfl
  ·exact h.odd j y hj hy
  ·rw [hx] at hy; cases hy
   unfold Zo; simp [ho.1, ho.2]
 ·rw [hr, Bool.and_eq_true, h.rs, Bool.or_eq_true, decide_eq_true_eq]
  constructor
  ·rintro ⟨⟨h1, h2⟩, h3⟩
   refine ⟨h1, fun j u v hj hu hv => ?_⟩
   rcases Nat.lt_succ_iff_lt_or_eq.1 hj with hj | hj
   ·exact h2 j u v hj hu hv
   ·subst hj
    rw [hx] at hv; cases hv; rw [show j + 1 - 1 = j by omega, hu] at h3; exact h3.resolve_left m0
  ·rintro ⟨h1, h2⟩
   refine ⟨⟨h1, fun j u v hj hu hv => h2 j u v m0 hu hv⟩, ?_⟩
   rcases Nat.eq_zero_or_pos i with h0 | h0
   ·exact .inl h0
   ·obtain ⟨j, rfl⟩ : ∃ j, i = j + 1 := ⟨i - 1, by omega⟩
    obtain ⟨u, hu, -⟩ := Q0 (show j < a.slots.length by omega)
    rw [show j + 1 - 1 = j by omega, hu]; exact .inr (h2 j u x m0 hu hx)
 ·rw [hp, Bool.or_eq_true, h.sp, decide_eq_true_eq]
  constructor
  ·rintro (⟨j, u, hj, hu, e⟩ | e)
   ·exact ⟨j, u, by omega, hu, e⟩
   ·exact ⟨i, x, by omega, hx, e⟩
  ·rintro ⟨j, u, hj, hu, e⟩
   rcases Nat.lt_succ_iff_lt_or_eq.1 hj with hj | rfl
   ·exact .inl ⟨j, u, hj, hu, e⟩
   ·rw [hx] at hu; cases hu; exact .inr e
theorem RackI.done {rb : Bool} {sp : Bool} (h : RackI a rb a.slots.length rs sp) : a.slots.any Zo = false ∧ rs = (rb && QS Prod.fst a.slots) ∧ sp = a.slots.any Xe := by
 have hlt : ∀ (j : Nat) (x : BS × BS), a.slots[j]? = some x → j < a.slots.length := fun j x hx => (List.getElem?_eq_some_iff.1 hx).1
 refine ⟨Jq4 fun j x hx => h.odd j x (hlt j x hx) hx, ?_, ?_⟩
 ·rw [Bool.eq_iff_iff, h.rs, Bool.and_eq_true]
  refine and_congr_right fun _ => ⟨fun hh => ZT fun j x y hx hy => hh j x y (hlt _ _ hy) hx hy, fun hh j x y _ hx hy => ?_⟩
  cases hb : Op.bytesLess x.1 y.1
  ·rw [jY hx hy hb] at hh; cases hh
  ·rfl
 ·rw [Bool.eq_iff_iff, h.sp]
  constructor
  ·rintro ⟨j, x, _, hx, e⟩
   exact Jq3 hx (by unfold Xe; rw [e]; simp)
  ·intro hh
   obtain ⟨x, hx, e⟩ := List.any_eq_true.1 hh
   obtain ⟨j, hj⟩ := List.getElem?_of_mem hx
   exact ⟨j, x, hlt j x hj, hj, by simpa [Xe] using e⟩
theorem Jq5 {x : BS × BS} (p : Option BS) (hx : a.slots[j]? = some x) (h : ¬ (x.1.length = 32 ∧ x.2.length = 32)) : Vk p a.er = 2 := by
 rw [xt, if_pos (.inl (Jq3 (l := a.er.slots) hx (by unfold Zo; rw [Bool.or_eq_true, decide_eq_true_eq, decide_eq_true_eq]; omega)))]
theorem Jq6 {p : Option BS} {sp : Bool} (h : RackI a (Jq2 p a.er) a.slots.length rs sp) : Vk p a.er = if (a.addr.length : Int) ≠ 20 then 2 else if rs = false then 11 else if (a.code.length : Int) > 512 ∨ (a.slots.length : Int) > 16 then 5 else if sp = true then 8 else 0 := by
 obtain ⟨h1, h2, h3⟩ := h.done
 rw [xt, h2, h3, show a.er.slots.any Zo = false from h1]; refine ite_congr (propext ⟨fun hh => ?_, fun hh => ?_⟩) (fun _ => rfl) fun _ => ite_congr rfl (fun _ => rfl) fun _ => ite_congr (propext ⟨fun hh => ?_, fun hh => ?_⟩) (fun _ => rfl) fun _ => rfl
 ·have hh : a.addr.length ≠ 20 := hh.elim (fun h => by cases h) id
  omega
 ·exact .inr (show a.addr.length ≠ 20 by omega)
 ·have hh : a.code.length > 512 ∨ a.slots.length > 16 := hh
  omega
 ·show a.code.length > 512 ∨ a.slots.length > 16
  omega
set_option maxHeartbeats 1000000 in
theorem Juv (ha : a.In R) (p : Option BS) : PureR Tryz.prog 33 [a.val, .bool p.isNone, Jw (p.getD [])].toArray (.int .i64 (Vk p a.er)) R := by
  have hl : a.slots.length ≤ 9223372036854775807 := ha.len
  have hseg := ha.seg
  obtain ⟨rb, hrb⟩ : ∃ b, b = Jq2 p a.er := ⟨_, rfl⟩
  have hrb2 : rb = (p.isNone || Op.bytesLess (p.getD []) a.addr) := hrb
  obtain ⟨first, hfirst⟩ : ∃ b, b = p.isNone := ⟨_, rfl⟩
  obtain ⟨last, hlast⟩ : ∃ b, b = p.getD [] := ⟨_, rfl⟩
  rw [← hfirst, ← hlast] at hrb2; rw [← hfirst, ← hlast]; refine Ja Tryz.func33 rfl rfl fun w => JS (Nw ?_); refine QX (cs := a.cells.toArray) rfl rfl rfl rfl fun ra => Gi ?_
  refine Jp 11 rfl (fun gb => ?_) (fun gb => ?_) <;> (try simp only [ZZ] at gb) <;> first | (refine LR rfl (J5 rfl rfl rfl) ?_) | (refine LK rfl ?_)
  all_goals refine LW 2 [0] rfl rfl ?_
  all_goals first | refine LR rfl (Jaj (a := a.addr) (b := last) rfl rfl) ?_ | refine LK rfl ?_
  all_goals refine LW 1 [] rfl rfl ?_
  all_goals first | (refine Jk (Y9 (show true = rb by rw [hrb2]; simp_all)) ?_) | (refine Jk (Y9 (show Op.bytesLess last a.addr = rb by rw [hrb2]; simp_all)) ?_)
  all_goals (
   refine Jz 2 rfl (Zj 13 rfl ?_); refine Jy (σ := Nat × Bool × Bool) (fun q => RackI a rb q.1 q.2.1 q.2.2) (fun q => [(3, Value.pointer (some ⟨ra, 0, none⟩)), (7, .bool q.2.1), (8, .bool q.2.2), (9, .int .i64 (q.1 : Int))]) (fun _ => [(ra, .cells a.cells.toArray 34 (0, 0))]) (fun _ _ _ => True) (fun q => a.slots.length - q.1) (0, rb, false) (RackI.zero a rb) (lK rfl) (List.Sublist.refl _) (fun _ _ h => h) ?_; rintro ⟨i, rs, sp⟩ hinv; simp only at hinv; change HC _ _ [(3, _), (7, .bool rs), (8, .bool sp), (9, .int .i64 (i : Int))] _ _ _ _; refine Hi ?_; refine Da ?_; refine NR ?_; refine cD (fun g => ?_) fun g => ?_
   · refine Nv ?_
     obtain ⟨x, hx, hmx⟩ := Q0 (show i < a.slots.length by omega)
     refine kK ?_
     refine LR rfl (Jg (j := i) rfl hseg rfl rfl rfl mg m0) (LR rfl (JR (off' := XO a.p + (i * 2 + 0)) rfl rfl (by show XO a.p + i * 2 + 0 = _; omega)) (LR rfl (Wa Kl (k := 0) (v := Jw x.1) oR rfl hseg hx rfl rfl) (De ?_)))
     refine Jp 32 rfl (fun gb => ?_) (fun gb => ?_) <;> (try simp only [ZZ] at gb) <;> first | (refine LR rfl (J5 rfl rfl rfl) ?_) | (refine LK rfl ?_)
     all_goals refine LW 2 [0] rfl rfl ?_
     all_goals first | (refine LR rfl (Jg (j := i) rfl hseg rfl rfl rfl mg m0) ?_) | refine LK rfl ?_
     all_goals first | (refine LR rfl (JR (off' := XO a.p + (i * 2 + 1)) rfl rfl Mq) ?_) | refine LK rfl ?_
     all_goals first | refine LR rfl (Wa Kl (k := 1) (v := Jw x.2) oR rfl hseg hx rfl rfl) ?_ | refine LK rfl ?_
     all_goals refine NG ?_
     all_goals (
      refine NY ?_; refine JH rfl (fun g => ?_) (fun g => ?_)
      try simp only [ZZ] at g
      refine GR fun w1 hs1 => ?_; rw [Jq5 p hx m0]; rfl
      · try exact Bool.noConfusion g
        all_goals try simp only [ZZ] at g
        all_goals (
         refine Gw ?_
         have hxo : x.1.length = 32 ∧ x.2.length = 32 := by omega
         obtain ⟨nv, hnv⟩ : ∃ b, b = decide (x.2 = V2) := ⟨_, rfl⟩
         refine JX 22 m5 m5 (NK ?_)
         refine jI 43 rfl (fun gb => ?_) (fun gb => ?_) <;> (try simp only [ZZ] at gb) <;> first | (refine Jc rfl rfl rfl (Jf rfl) ?_) | (refine JZ rfl rfl rfl ?_)
         all_goals first | (refine Jc rfl rfl rfl (J1 rfl rfl rfl) ?_; refine Qc (Y9 (show _ = decide (i = 0) from by rw [Bool.eq_iff_iff]; simp)) ?_) | refine JZ rfl rfl rfl ?_
         all_goals first | refine Jc rfl rfl rfl (Jf rfl) ?_ | refine JZ rfl rfl rfl ?_
         all_goals first | refine JZ rfl rfl rfl ?_ | (refine jI 46 rfl (fun gb => ?_) (fun gb => ?_) <;> (try simp only [ZZ] at gb) <;> first | (refine Jc rfl rfl rfl (J5 rfl rfl rfl) ?_) | (refine JZ rfl rfl rfl ?_))
         all_goals refine Du ?_
         all_goals first | (refine Jc rfl rfl rfl (JR (off' := XO a.p + (i * 2 + 0)) rfl rfl (by show XO a.p + i * 2 + 0 = _; omega)) ?_) | refine JZ rfl rfl rfl ?_
         all_goals first | refine Jc rfl rfl rfl (Wa Kl (k := 0) (v := Jw x.1) oR rfl hseg hx rfl rfl) ?_ | refine JZ rfl rfl rfl ?_
         all_goals refine HE ?_
         all_goals refine kP ?_
         all_goals first | (refine Jc rfl rfl rfl (J1 rfl rfl rfl) ?_; refine V9 m0 m0 ?_) | refine JZ rfl rfl rfl ?_
         all_goals first | (obtain ⟨y, hy, hmy⟩ := Q0 (show i - 1 < a.slots.length by omega); refine Jc rfl rfl rfl (Jg (j := (i - 1)) rfl hseg rfl rfl rfl mg m0) ?_) | refine JZ rfl rfl rfl ?_
         all_goals first | (refine Jc rfl rfl rfl (JR (off' := XO a.p + ((i - 1) * 2 + 0)) rfl rfl (by show XO a.p + (i - 1) * 2 + 0 = _; omega)) ?_) | refine JZ rfl rfl rfl ?_
         all_goals first | refine Jc rfl rfl rfl (Wa Kl (k := 0) (v := Jw y.1) oR rfl hseg hy rfl rfl) ?_ | refine JZ rfl rfl rfl ?_
         all_goals first | (refine Jc rfl rfl rfl (Jaj (a := x.1) (b := y.1) rfl rfl) ?_; refine Qc (Y9 (show Op.bytesLess y.1 x.1 = Op.bytesLess ((a.slots[i - 1]?.map Prod.fst).getD []) x.1 by rw [hy]; rfl)) ?_) | refine JZ rfl rfl rfl ?_
         all_goals first | refine Jc rfl rfl rfl (YC rfl rfl) ?_ | refine Jc rfl rfl rfl (YD rfl rfl) ?_ | refine JZ rfl rfl rfl ?_
         all_goals refine gC ?_
         all_goals (
          refine Jc rfl rfl rfl (JP rfl) (Kv (Jz 1 rfl (Zj 1 rfl ?_))); refine JX 12 m5 m5 (NK ?_)
          refine jI 64 rfl (fun gb => ?_) (fun gb => ?_) <;> (try simp only [ZZ] at gb) <;> first | (refine Jc rfl rfl rfl (J5 rfl rfl rfl) ?_) | (refine JZ rfl rfl rfl ?_)
          all_goals refine Du ?_
          all_goals first | (refine Jc rfl rfl rfl (JR (off' := XO a.p + (i * 2 + 1)) rfl rfl Mq) ?_) | refine JZ rfl rfl rfl ?_
          all_goals first | refine Jc rfl rfl rfl (Wa Kl (k := 1) (v := Jw x.2) oR rfl hseg hx rfl rfl) ?_ | refine JZ rfl rfl rfl ?_
          all_goals first | (refine Qt rfl rfl rfl (enters_of Tryz.func36 m5 rfl) Juu ?_) | refine JZ rfl rfl rfl ?_
          all_goals first | (refine Jc rfl rfl rfl (Vc (a := x.2) (b := V2) rfl rfl) ?_; refine Qc (Y9 hnv.symm) ?_) | refine JZ rfl rfl rfl ?_
          all_goals refine gC ?_
          all_goals (
           refine Jc rfl rfl rfl (JP rfl) (Kv (Jz 1 rfl (gqo 5 rfl ?_))); refine N0 ?_; refine Jr (i + 1, _, _) (RackI.next hinv hx hxo ?_ ?_) ml (lK rfl) (List.Sublist.refl _) (fun _ _ h => h)
           simp_all
           simp_all
           skip)
          skip)
         skip)
      skip)
   · refine JE 7 rfl ?_
     obtain rfl : i = a.slots.length := by have := hinv.le; omega
     have hE := Jq6 (p := p) (hrb ▸ hinv)
     refine QZ 3 [0] rfl rfl (DK ?_); refine cD (fun g => ?_) fun g => ?_
     refine g8 fun w1 hs1 => ?_; rw [hE, if_pos m0]; rfl
     · refine JE 9 rfl (cD (fun g => ?_) fun g => ?_)
       refine g8 fun w1 hs1 => ?_; rw [hE, if_neg m0, if_pos m9]; rfl
       · refine QZ 7 [0] rfl rfl (De ?_)
         refine Jp 84 rfl (fun gb => ?_) (fun gb => ?_) <;> (try simp only [ZZ] at gb) <;> first | (refine LR rfl (J5 rfl rfl rfl) ?_) | (refine LK rfl ?_)
         all_goals refine DA ?_
         all_goals first | refine LR rfl (Jq rfl hseg rfl) ?_ | refine LK rfl ?_
         all_goals (
          refine NY ?_; refine JH rfl (fun g => ?_) (fun g => ?_)
          try simp only [ZZ] at g
          refine g8 fun w1 hs1 => ?_; rw [hE, if_neg m0, if_neg mz, if_pos m0]; rfl
          · try exact Bool.noConfusion g
            all_goals try simp only [ZZ] at g
            all_goals (
             refine JE 8 rfl (cD (fun g => ?_) fun g => ?_)
             refine g8 fun w1 hs1 => ?_; rw [hE, if_neg m0, if_neg mz, if_neg m0, if_pos m9]; rfl
             refine D9 fun w1 hs1 => ?_; rw [hE, if_neg m0, if_neg mz, if_neg m0, if_neg mz]; rfl
             skip)
          skip)
   skip)
theorem Jlo {s : StL} (hi : i ≤ s.accts.length) : ((i : Int) == 0) = (WV s.er i).isNone := by
 cases i with
 | zero => rfl
 | succ j =>
  obtain ⟨a, ha, -⟩ := Q0 (show j < s.accts.length by omega)
  rw [Jal ha rfl]; exact Jz0 m0
theorem Jq7 {s : StL} (hs : s.In R) : PureR Tryz.prog 13 [s.val].toArray (.int .i64 (Qi s.er)) R := by
 have hl : s.accts.length ≤ 9223372036854775807 := hs.len
 have hseg := hs.seg
 obtain ⟨hc5, hcg⟩ := Jh5 s
 refine Ja Tryz.func13 rfl rfl fun w => JS (Nw ?_); refine QX (cs := s.cells.toArray) rfl rfl rfl rfl fun rs => X6 8 [0] rfl rfl (Da ?_); refine NR ?_; refine cD (fun g => ?_) fun g => ?_
 refine g8 fun w1 hs1 => ?_; rw [hc5 m9]; rfl
 ·refine JE 14 rfl (Jy (σ := Nat) (fun i => i ≤ s.accts.length ∧ goS (WV s.er i) (s.er.drop i) = goS none s.er) (fun i => [(1, Value.pointer (some ⟨rs, 0, none⟩)), (3, Jw ((WV s.er i).getD [])), (4, .int .i64 (i : Int))]) (fun _ => [(rs, .cells s.cells.toArray 24 (0, 0))]) (fun _ _ _ => True) (fun i => s.accts.length - i) 0 ⟨Nat.zero_le _, rfl⟩ (lK rfl) (List.Sublist.refl _) (fun _ _ h => h) ?_); rintro i ⟨hi1, hinv⟩; refine Hi ?_; refine Da ?_; refine NR ?_; refine cD (fun g => ?_) fun g => ?_
  refine kX ?_
  obtain ⟨a, ha, hma⟩ := Q0 Mg
  rw [Jh3 (XD ha)] at hinv; refine kK ?_
  refine G3 ?_; refine NC ?_; refine Jk (Y9 (Jlo hi1)) (QK rfl (Jb rfl rfl rfl (enters_of Tryz.func33 m5 rfl) (Juv (hs.accts a hma) (WV s.er i)) oR (JQ 10 rfl ?_))); refine cD (fun g => ?_) fun g => ?_
  refine KK 13 rfl (MW fun w1 hs1 => ?_); exact DN
  refine Hi ?_
  refine LR rfl (Jg (j := i) rfl hseg rfl rfl rfl mg m0) (LR rfl (JR (off' := XO s.p + (i * 8 + 0)) rfl rfl (by show XO s.p + i * 8 + 0 = _; omega)) (LR rfl (Wa AcL.len (k := 0) (v := Jw a.addr) oR rfl hseg ha rfl rfl) (Gi ?_))); refine N0 ?_; exact Jr (i + 1) ⟨by omega, by rw [if_neg mz] at hinv; exact hinv⟩ m0 (.cons rfl (.cons (by rw [Jal ha rfl]; rfl) (.cons rfl .nil))) (List.Sublist.refl _) (fun _ _ h => h)
  ·exact Dg
theorem yU {s t : StL} : s.er = t.er ↔ s.accts.length = t.accts.length ∧ ∀ (i : Nat) a b, s.accts[i]? = some a → t.accts[i]? = some b → a.er = b.er := by
 constructor
 ·intro h
  refine ⟨by have := congrArg List.length h; rwa [s.er_len, t.er_len] at this, fun i a b ha hb => ?_⟩
  exact D6
 ·rintro ⟨h1, h2⟩
  apply List.ext_getElem?
  intro i
  by_cases hi : i < s.accts.length
  ·obtain ⟨a, ha, _⟩ := Q0 hi
   obtain ⟨b, hb, _⟩ := Q0 Mh
   rw [XD ha, XD hb, h2 i a b ha hb]
  ·rw [List.getElem?_eq_none MI, List.getElem?_eq_none (by rw [t.er_len]; omega)]
theorem Juw {s t : StL} (hs : s.In R) (ht : t.In R) : PureR Tryz.prog 18 [s.val, t.val].toArray (.bool (decide (s.er = t.er))) R := by
 have hl : s.accts.length ≤ 9223372036854775807 := hs.len
 have hl2 : t.accts.length ≤ 9223372036854775807 := ht.len
 have h1 := hs.seg
 have h2 := ht.seg
 refine Ja Tryz.func18 rfl rfl fun w => JS (Nw ?_); refine QX (cs := s.cells.toArray) rfl rfl rfl rfl fun rs => QX (cs := t.cells.toArray) rfl rfl rfl rfl fun rt => X6 8 [1] rfl rfl (LR rfl (Jq rfl h1 rfl) ?_)
 refine LS 2 [0] rfl rfl (LR rfl (Jq rfl h2 rfl) (NR ?_)); refine cD (fun g => ?_) fun g => ?_
 refine g8 fun w1 hs1 => ?_; rw [decide_eq_false (show ¬ s.er = t.er from fun e => by have := (yU.1 e).1; omega)]; rfl
 ·refine JE 9 rfl ?_
  have hll : s.accts.length = t.accts.length := by omega
  refine Jy (σ := Nat) (fun i => i ≤ s.accts.length ∧ ∀ q, q < i → ∀ a b, s.accts[q]? = some a → t.accts[q]? = some b → a.er = b.er) (fun i => [(2, Value.pointer (some ⟨rs, 0, none⟩)), (3, Value.pointer (some ⟨rt, 0, none⟩)), (5, .int .i64 (i : Int))]) (fun _ => [(rt, .cells t.cells.toArray 24 (0, 0)), (rs, .cells s.cells.toArray 24 (0, 0))]) (fun _ _ _ => True) (fun i => s.accts.length - i) 0 ⟨by omega, fun j hj => absurd hj m0⟩ (lK rfl) (List.Sublist.refl _) (fun _ _ h => h) ?_; rintro i ⟨hi1, hinv⟩; refine QZ 6 [1] rfl rfl (LR rfl (Jq rfl h1 rfl) (NR ?_)); refine cD (fun g => ?_) fun g => ?_
  refine kX ?_
  obtain ⟨x, hx, hmx⟩ := Q0 Mg
  obtain ⟨y, hy, hmy⟩ := Q0 Mh
  refine JX 12 m5 m5 ?_
  refine GC ?_; refine Jc rfl rfl rfl (KE AcL.len oR rfl h1 hx rfl rfl) ?_
  refine ke ?_; refine MY ?_
  refine Jc rfl rfl rfl (Jg (j := i) rfl h2 rfl rfl rfl mg m0) (Jc rfl rfl rfl (KE AcL.len oR rfl h2 hy rfl rfl) (WQ rfl rfl rfl Jwt (j8 (hs.accts x hmx) (ht.accts y hmy)) oR (N1 ?_))); refine Kv (Gj ?_); refine cD (fun g => ?_) fun g => ?_
  refine kd fun w1 hs1 => ?_; rw [decide_eq_false (show ¬ s.er = t.er from fun e => by have := (yU.1 e).2 i x y hx hy; simp_all)]; rfl
  refine gY ?_; refine N0 ?_
  exact Jr (i + 1) ⟨by omega, fun q hq u v hu hv => by
   rcases Nat.lt_succ_iff_lt_or_eq.1 hq with hq | rfl
   exact hinv q hq u v hu hv
   rw [hx] at hu; rw [hy] at hv; cases hu; cases hv; simp_all⟩ m0 (lK rfl) (List.Sublist.refl _) (fun _ _ h => h)
  ·refine kd fun w1 hs1 => ?_; rw [decide_eq_true (yU.2 ⟨hll, fun q a b ha hb => hinv q (by have := (List.getElem?_eq_some_iff.1 ha).1; omega) a b ha hb⟩)]; rfl
structure OutI {α : Type} (f : α → List Value) (sz : Nat) (acc : List α) (n : Nat) (xs : List Value) (row : Vg) : Prop where
  num : n = acc.length
  cells : xs = acc.flatMap f
  ok : rowOk sz n xs row
theorem OutI.nil {f : α → List Value} : OutI f sz [] 0 [] none := ⟨rfl, rfl, rfl, rfl⟩
theorem qu {k n : Int} {p : Pl} {l : List Vl} (hk : (k = 3 ∧ (l.length : Int) = n) ∨ (k = 4 ∧ (l.length : Int) ≤ n)) (h : ∀ v ∈ l, Kz v x = 0) : Kz (KP l 0) (.mk k n p [x]) = 0 := by
 have hL : ∀ (l : List Vl) (i : Nat), (∀ v ∈ l, Kz v x = 0) → Qx l k 0 [x] i = 0 := by
  intro l
  induction l with
  | nil => intro i _; rw [Qx]
  | cons v l ih =>
   intro i h
   have e : J0 k 0 [x] i = x := by unfold J0 VQ; rcases hk with ⟨rfl, _⟩ | ⟨rfl, _⟩ <;> rfl
   rw [Qx, e, if_pos (h v mf), ih _ (fun w hw => h w (by simp [hw]))]
 unfold KP
 rw [WF ?_ ?_, hL l 0 h]
 ·rcases hk with ⟨rfl, h1⟩ | ⟨rfl, h1⟩ <;> simp <;> omega
 ·rw [Qw k n _ 0 0 0 0 [] none l none 0 _ rfl]
  rcases hk with ⟨rfl, h1⟩ | ⟨rfl, h1⟩ <;> simp [Qn, h1]
theorem yV {a : Nat} {n : Int} {p : Pl} (h : ((WD [a, b, c, d]).length : Int) ≤ n) : Kz (.mk a b c d [] none [] none 0) (.mk 1 n p []) = 0 := by
 rw [WF mf (by rw [Qw 1 n _ a b c d [] none [] none 0 _ rfl]; simp [Qn, h]), Qx]
theorem Jx3 : ∀ i : Fin 256, (WD [i.val, 0, 0, 0]).length ≤ 1 := by decide +kernel
theorem Jq8 (b : UInt8) : Kz (qm b) byT = 0 := yV (by have := Jx3 ⟨b.toNat, QC b⟩; simp only at this; omega)
theorem Jbu {n : Int} (h : (s.length : Int) = n) : Kz (yM s) (WY 3 n) = 0 := qu (.inl ⟨rfl, by rw [List.length_map]; exact h⟩) fun v hv => by obtain ⟨b, _, rfl⟩ := List.mem_map.1 hv; exact Jq8 b
theorem Jux {n : Int} (h : (s.length : Int) ≤ n) : Kz (yM s) (WY 4 n) = 0 := qu (.inr ⟨rfl, by rw [List.length_map]; exact h⟩) fun v hv => by obtain ⟨b, _, rfl⟩ := List.mem_map.1 hv; exact Jq8 b
theorem Juy {x : BS × BS} (h1 : x.1.length = 32) (h2 : x.2.length = 32) : Kz (qp x) qR = 0 := by
 unfold qp qR KP
 rw [WF mf (by rw [Qw 7 0 _ 0 0 0 0 [] none _ none 0 _ rfl]; simp [Qn]), Qx, show J0 7 0 [WY 3 32, WY 3 32] 0 = WY 3 32 from rfl, if_pos (Jbu m0), Qx, show J0 7 0 [WY 3 32, WY 3 32] (0 + 1) = WY 3 32 from rfl, if_pos (Jbu m0), Qx]
theorem Juz {n : Nat} (h : YK n) : (WD [n, 0, 0, 0]).length ≤ 8 := by
 have h1 := zR (l := [n, 0, 0, 0]) (Jw7 h)
 rw [Jdv] at h1; exact of_decide_eq_true h1.symm
theorem Jx4 {a : AcE} (h : XW a = 0) (hn : YK a.nonce) : Kz (acV a) acT = 0 := by
 obtain ⟨h1, h2, _, h4, h5⟩ := Xm h
 obtain ⟨I, hI⟩ : ∃ I, I = [WY 3 20, .mk 1 8 none [], .mk 1 32 none [], WY 4 512, .mk 4 16 none [qR]] := ⟨_, rfl⟩
 have e0 : J0 7 0 I 0 = WY 3 20 := by rw [hI]; rfl
 have e1 : J0 7 0 I (0 + 1) = .mk 1 8 none [] := by rw [hI]; rfl
 have e2 : J0 7 0 I (0 + 1 + 1) = .mk 1 32 none [] := by rw [hI]; rfl
 have e3 : J0 7 0 I (0 + 1 + 1 + 1) = WY 4 512 := by rw [hI]; rfl
 have e4 : J0 7 0 I (0 + 1 + 1 + 1 + 1) = .mk 4 16 none [qR] := by rw [hI]; rfl
 have hl : I.length = 5 := by rw [hI]; rfl
 have hsl : Kz (Vl.mk 0 0 0 0 [] none (a.slots.map qp) none 0) (.mk 4 16 none [qR]) = 0 := qu (.inr ⟨rfl, by rw [List.length_map]; omega⟩) fun v hv => by
  obtain ⟨x, hx, rfl⟩ := List.mem_map.1 hv
  exact Juy (h2 x hx).1 (h2 x hx).2.1
 unfold acV acT KP
 rw [← hI, WF mf (by rw [hl, Qw 7 0 _ 0 0 0 0 [] none _ none 0 _ rfl]; simp [Qn]), Qx, e0, if_pos (Jbu m0), Qx, e1, if_pos (yV (by have := Juz hn; omega)), Qx, e2, if_pos (yV (by have := Jgh [a.bal.a, a.bal.b, a.bal.c, a.bal.d]; omega)),
  Qx, e3, if_pos (Jux m0), Qx, e4, if_pos hsl, Qx]
theorem Ju0 {l : List AcE} (h : Qi l = 0) (hn : ∀ a ∈ l, YK a.nonce) : V3 Qo (Yn l) = 0 := by
 obtain ⟨h1, h2, _⟩ := Jae.1 h
 unfold V3
 rw [if_pos Jbq]
 exact qu (.inr ⟨rfl, by rw [List.length_map]; omega⟩) fun v hv => by
  obtain ⟨a, ha, rfl⟩ := List.mem_map.1 hv
  exact Jx4 (h2 a ha) (hn a ha)
theorem Jbv {s : StL} (h : Qi s.er = 0) : s.accts.length ≤ 100000 ∧ ∀ a ∈ s.accts, Ac1 a := by
 obtain ⟨h1, h2, _⟩ := Jae.1 h
 rw [s.er_len] at h1; refine ⟨by omega, fun a ha => ?_⟩
 obtain ⟨g1, g2, _, g4, g5⟩ := Xm (h2 a.er (List.mem_map.2 ⟨a, ha, rfl⟩))
 change a.addr.length = 20 at g1; change a.code.length ≤ 512 at g4; change a.slots.length ≤ 16 at g5; exact ⟨by omega, by omega, by omega, fun x hx => by obtain ⟨e1, e2, _⟩ := g2 x hx; omega⟩
theorem Jq9 {s : StL} (hs : s.In R) (h : Qi s.er = 0) : V3 Qo (Yn s.er) = 0 := Ju0 h fun a ha => by
 obtain ⟨b, hb, rfl⟩ := List.mem_map.1 ha
 exact (hs.accts b hb).nonce
theorem Je1 : ∀ l : List Vl, (∀ x ∈ l, Nonempty (VR x)) → ∃ (ys : List Vl) (L : Jj), ys.map W0 = l ∧ ∀ y ∈ ys, y.In L
 | [], _ => ⟨[], [], rfl, fun y hy => nomatch hy⟩
 | x :: l, h => by
  obtain ⟨ys, L, h1, h2⟩ := Je1 l fun y hy => h y (List.mem_cons_of_mem _ hy)
  obtain ⟨v⟩ := h x List.mem_cons_self
  refine ⟨v.x :: ys, v.L ++ L, by rw [List.map_cons, v.er, h1], fun y hy => ?_⟩
  rcases List.mem_cons.1 hy with rfl | hy
  ·exact v.ok.mono fun q hq => List.mem_append_left _ hq
  ·exact (h2 y hy).mono fun q hq => List.mem_append_right _ hq
theorem jh {l : List Vl} (h : ∀ x ∈ l, Nonempty (VR x)) (hl : l.length ≤ 100000) : Nonempty (VR (KP l 0)) := by
 obtain ⟨ys, L, h1, h2⟩ := Je1 l h
 have hy : ys.length = l.length := by rw [← h1, List.length_map]
 exact ⟨⟨.mk 0 0 0 0 [] none ys (some (⟨0, 0, none⟩, ys.length)) 0, (0, .cells (KC ys).toArray 0 (0, 0)) :: L, .mk u0 u0 u0 u0 m7 rfl m0 ⟨Nat.le_refl _, fun _ => ⟨rfl, _, 0, (0, 0), List.mem_cons_self, by rw [List.drop_zero, List.toList_toArray, List.take_length]⟩⟩ i0 fun x hx => (h2 x hx).mono fun q hq => List.mem_cons_of_mem _ hq, by rw [KB, VK, h1]; rfl⟩⟩
theorem Jjn {a : Nat} (ha : YK a) (hb : YK b) (hc : YK c) (hd : YK d) : Nonempty (VR (.mk a b c d [] none [] none 0)) :=
 ⟨⟨.mk a b c d [] none [] none 0, [], .mk ha hb hc hd m7 rfl m7 rfl i0 (fun x hx => nomatch hx), by rw [KB, Xp]⟩⟩
theorem Jbw (hl : s.length ≤ 100000) : Nonempty (VR (yM s)) := ⟨Jqn hl⟩
theorem Jx5 (h : Ac1 a) (hn : YK a.nonce) (hb : a.bal.ok) : Nonempty (VR (acV a.er)) := by
 obtain ⟨h1, h2, h3, h4⟩ := h
 refine jh (fun x hx => ?_) (by show 5 ≤ 100000; decide); simp only [List.mem_cons, List.not_mem_nil, or_false] at hx
 rcases hx with rfl | rfl | rfl | rfl | rfl
 ·exact Jbw h1
 ·exact Jjn hn u0 u0 u0
 ·exact Jjn hb.a hb.b hb.c hb.d
 ·exact Jbw h2
 ·refine jh (fun x hx => ?_) (by rw [List.length_map]; exact h3)
  obtain ⟨⟨k, v⟩, hy, rfl⟩ := List.mem_map.1 hx
  refine jh (fun x hx => ?_) (by show 2 ≤ 100000; decide); simp only [List.mem_cons, List.not_mem_nil, or_false] at hx
  rcases hx with rfl | rfl
  ·exact Jbw (h4 _ hy).1
  ·exact Jbw (h4 _ hy).2
theorem Jra {s : StL} (hs : s.In R) (h : Qi s.er = 0) : Nonempty (VR (Yn s.er)) := by
 obtain ⟨hn, hb⟩ := Jbv h
 refine jh (fun x hx => ?_) (by rw [List.length_map, s.er_len]; exact hn)
 obtain ⟨a, ha, rfl⟩ := List.mem_map.1 hx
 obtain ⟨b, hb2, rfl⟩ := List.mem_map.1 ha
 exact Jx5 (hb b hb2) (hs.accts b hb2).nonce (hs.accts b hb2).bal
def Jv5 : TR Qo := ⟨Jld 0 0 0 0 0 0 0 0, [(0, Jlb 0), (0, .cells #[.int .i64 3, .int .i64 32, .slice (some ⟨0, 0, none⟩) 1 1, .int .i64 3, .int .i64 32, .slice (some ⟨0, 0, none⟩) 1 1] 0 (0, 0)), (0, .cells #[.int .i64 7, .int .i64 0, .slice (some ⟨0, 0, none⟩) 2 2] 0 (0, 0)),
 (0, .cells #[.int .i64 3, .int .i64 20, .slice (some ⟨0, 0, none⟩) 1 1, .int .i64 1, .int .i64 8, .slice none 0 0, .int .i64 1, .int .i64 32, .slice none 0 0, .int .i64 4, .int .i64 512, .slice (some ⟨0, 0, none⟩) 1 1, .int .i64 4, .int .i64 16, .slice (some ⟨0, 0, none⟩) 1 1] 0 (0, 0)),
 (0, .cells #[.int .i64 7, .int .i64 0, .slice (some ⟨0, 0, none⟩) 5 5] 0 (0, 0))], Jbi (e := 0) (by simp) (by simp) (by simp) (by simp) (by simp) (by simp) (by simp) (by simp), Jbj ..⟩
theorem Ju1 (t : Ty) (v : Vl) : qf t (W0 v) = qf t v := by unfold qf V3; rw [Jgu, Jpo]
theorem Jrb (t : Ty) (v : Vl) : Y7 t (W0 v) = Y7 t v := by unfold Y7 V3; rw [Jgu, Jt1]
theorem Ju2 {V : Vl} (t : TR T) (v : VR V) : qf t.x v.x = qf T V := by obtain ⟨x, L, ok, rfl⟩ := t; obtain ⟨y, M, ok2, rfl⟩ := v; rw [Jqe, Ju1]
theorem Jrc {V : Vl} (t : TR T) (v : VR V) : Y7 t.x v.x = Y7 T V := by obtain ⟨x, L, ok, rfl⟩ := t; obtain ⟨y, M, ok2, rfl⟩ := v; rw [Jlj, Jrb]
theorem Je2 {l : List AcE} (h : Qi l = 0) (hf : V3 Qo (Yn l) = 0) : qq l = (KH (Yn l) Qo, 0) := by
 unfold qq Y7
 rw [if_neg m0, if_neg m0]
theorem xu {s : StL} (hs : s.In R) (hw : Qi s.er = 0 → wV (Yn s.er) ≤ 20000) : PureR Tryz.prog 27 [s.val].toArray (jy (Xj s.er)) R := by
 have hC := Xy hs
 have hac := Jbv (s := s)
 have hlay := Jra hs
 have hfit := Jq9 hs
 have hb0 : Qi s.er ≠ 0 → Xj s.er = ([], Qi s.er) := fun h => by unfold Xj; rw [if_pos h]
 have hb1 : Qi s.er = 0 → Xj s.er = qf Qo (Yn s.er) := fun h => by unfold Xj; rw [if_neg m0]
 obtain ⟨accts, p⟩ := s
 generalize hz0 : Qi (StL.er ⟨accts, p⟩) = z at *
 refine Ja Tryz.func27 rfl rfl fun w => MX fun r1 => ?_; refine Gi ?_; refine GN ?_; refine Jb rfl rfl rfl Jkv hC oR (HW ?_); refine cD (fun g => ?_) fun g => ?_
 refine KK 9 rfl (Nl fun w1 hs1 => ?_); rw [hb0 m9]; rfl
 ·refine Gw ?_
  have hz : z = 0 := by assumption
  obtain ⟨hn, hb⟩ := hac hz
  obtain ⟨v0⟩ := hlay hz
  have hww := hw hz
  refine NB fun t v => ?_
  refine KR (k := 4) (Rl := v.L ++ t.L) rfl rfl rfl rfl rfl (enters_of Tryz.func52 m5 rfl) (Jph (t.ok.mono fun q hq => List.mem_append_right _ hq) (v.ok.mono fun q hq => List.mem_append_left _ hq) (by rw [← Jvz v.x, v.er]; exact hww)) (fun q hq => .inl nl) (VL (congrArg jy (Ju2 t v)) ?_); exact D4
theorem Je3 {s : StL} (hs : s.In R) (hw : Qi s.er = 0 → wV (Yn s.er) ≤ 20000) : PureR Tryz.prog 29 [s.val].toArray (jy (qq s.er)) R := by
 have hC := Xy hs
 have hac := Jbv (s := s)
 have hlay := Jra hs
 have hfit := Jq9 hs
 have hb0 : Qi s.er ≠ 0 → qq s.er = ([], Qi s.er) := fun h => by unfold qq; rw [if_pos h]
 have hb1 : Qi s.er = 0 → qq s.er = Y7 Qo (Yn s.er) := fun h => by unfold qq; rw [if_neg m0]
 obtain ⟨accts, p⟩ := s
 generalize hz0 : Qi (StL.er ⟨accts, p⟩) = z at *
 refine Ja Tryz.func29 rfl rfl fun w => MX fun r1 => ?_; refine Gi ?_; refine GN ?_; refine Jb rfl rfl rfl Jkv hC oR (HW ?_); refine cD (fun g => ?_) fun g => ?_
 refine KK 9 rfl (Nl fun w1 hs1 => ?_); rw [hb0 m9]; rfl
 ·refine Gw ?_
  have hz : z = 0 := by assumption
  obtain ⟨hn, hb⟩ := hac hz
  obtain ⟨v0⟩ := hlay hz
  have hww := hw hz
  refine NB fun t v => ?_
  refine KR (k := 4) (Rl := v.L ++ t.L) rfl rfl rfl rfl rfl (enters_of Tryz.func58 m5 rfl) (Jt8 (t.ok.mono fun q hq => List.mem_append_right _ hq) (v.ok.mono fun q hq => List.mem_append_left _ hq) (by rw [← Jvz v.x, v.er]; exact hww)) (fun q hq => .inl nl) (VL (congrArg jy (Jrc t v)) ?_); exact D4
end Go.Proofs.YteceenlfegnigaaGreatDoor
