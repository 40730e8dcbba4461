import Derived.Test.YteceenlfegnigaaGreatDoorZtBytese
set_option maxRecDepth 100000
namespace Go.Proofs.YteceenlfegnigaaGreatDoor
set_option linter.all false
open Go.SL Go.RowKit Go.Shelf
open Go.Proofs (Enters enters_of)
variable {af : Array Edge} {args : Array Operand} {at_ : Array TypeId} {cs : Array Value} {Y s : BS} {pr : BS × BS → Bool} {own rs : Bool} {Q : Exit → Act → World → Prop} {g : FuncId} {dp : Int} {L L' Lr R Rl : Jp} {slots xs : List (BS × BS)} {pa : List (Nat × Operand)} {accts : List AcL} {a : List Nat} {caps sp vs : List Value} {us yitems : List Vl} {N b c cap d e i j m r rb rv sz : Nat} {f y : Operand} {gd : Option (Nat × Bool)} {dst : Option Nat} {pb pi : Pl} {P : Program} {ps : String} {T t x x0 : Ty} {q : Ty × Nat × Nat} {α : Type} {ty : TypeId} {z : Value} {v : Vl} {row : Vn} {w : World} {X : XP} {LL : α → Jp} {V : α → Value}
section
variable {c : Cx} {X : XP} {S : Jp} {ops : Array Oper} {l : Kx} {E : Jp} {d : List Deferred} {tb : qp} {rest : List Nat} {T : Jp → Act → Prop} {i k : Nat} {v : Value}
theorem jd {t : TypeId} {n : Nat} {vs : Kx} {r zs : List Value} (hk : WR ops.toList k = some ⟨some i, .buildSlice t n pa.toArray, ty, ps, af, gd⟩) (hg : Kv l ops ⟨some i, .buildSlice t n pa.toArray, ty, ps, af, gd⟩ = some true) (hi : Nat.ble (i + 1) c.n = true)
  (hA : tb k = .turn) (hS : SubS S E)
  (hp : Xf l pa = some vs) (ht : Kw c.P t = some e) (hz : QL c.P e = some z) (hs : KZ c.P e = some sz) (hzs : z.cells.size = sz) (hb : Nat.ble (n * sz) 16777216 = true) (h0 : Nat.ble 1 (n * sz) = true)
  (hmk : (madeCells z.cells (n * sz)).toList = zs) (hf : Zx (fun i => some (i * sz, sz)) zs (QM vs) = some r)
  (h : ∀ q, HB c d ((i, .slice (some ⟨q, 0, none⟩) n n) :: l) ((q, .cells r.toArray e (0, 0)) :: E) X S ops tb rest T) : HB c d l E X S ops tb (k :: rest) T := fun a hfr => by
 refine ⟨_, QX hk, ?_⟩; rw [hA]; refine .inl ⟨Nat, slV n, fun q => (q, .cells r.toArray e (0, 0)) :: E, ⟨JH hfr hg, fun w hst => ?_⟩, fun q => ⟨fun p hp => List.mem_cons_of_mem _ (hS p hp), h q _ (hfr.put (Nat.le_of_ble_eq_true hi))⟩⟩
 have h1 := V3 hfr hp
 have h2 : (pa.toArray.map fun (p : Nat × Operand) => (p.1, a.eval p.2)) = vs.toArray := by
  apply Array.toList_inj.1; rw [Array.toList_map]; simpa using h1
 rw [QI] at hf; subst hmk
 have h3 := VO ht hz hs hzs (Nat.le_of_ble_eq_true hb) (Nat.le_of_ble_eq_true h0) hf w
 rw [← h2] at h3
 have h4 : (Instr.buildSlice t n (pa.toArray.map fun (i, x) => (i, a.eval x))).run c.P w = .ok (.slice (some ⟨w.heap.size, 0, none⟩) n n) (w.alloc (.cells r.toArray e)) := h3
 refine Yn (v := .slice (some ⟨w.heap.size, 0, none⟩) n n) (w' := w.alloc (.cells r.toArray e)) ?_ ⟨w.heap.size, rfl, hst.alloc _⟩; refine Hd ?_; rw [h4]; rfl
end
open Classical in
theorem Jzx (a b c d e : α) (Y A P E : List α) : (a :: (Y ++ (b :: c :: d :: e :: (A ++ (P ++ E))))).Perm (A ++ (a :: b :: c :: d :: e :: (Y ++ (P ++ E)))) := by
 exact kd
open Classical in
theorem Jzy (a b c d e f : α) (Y P E : List α) : (a :: b :: c :: d :: e :: f :: (Y ++ (P ++ E))).Perm (b :: c :: d :: e :: f :: (a :: (P ++ (Y ++ E)))) := by
 exact kd
theorem WM {c : Cx} {d : List Deferred} {l : Kx} {K : Act → World → Prop} (hp : L.Perm L') (h : HQ c d l L' X K) : HQ c d l L X K := fun a w hf hs => h a w hf (hs.perm hp)
theorem Jsf (h : N + j < 8 * s.length) (hb : Vv s (N + j) = true) : ((JQ s (8 * s.length)).drop N).any id = true :=
 List.any_eq_true.2 ⟨_, List.mem_iff_getElem?.2 ⟨j, by rw [List.getElem?_drop]; exact Vz s h⟩, by simpa using hb⟩
theorem Jzz (h : ∀ j, j < 8 * s.length - N → Vv s (N + j) = false) : ((JQ s (8 * s.length)).drop N).any id = false := by
 rw [List.any_eq_false]; intro b hb
 obtain ⟨j, hj⟩ := List.getElem?_of_mem hb
 rw [List.getElem?_drop] at hj
 have hlt := (List.getElem?_eq_some_iff.1 hj).1
 rw [KH] at hlt; rw [Vz s hlt] at hj
 cases hj
 rw [h j m0]; simp
theorem Jsg {k n : Int} {p : Pl} {ins : List Ty} (ht : Ty.In R (.mk k n p ins)) (hc : Vp (.mk k n p ins) 0 = 0) (hk3 : k = 3 ∨ k = 4 ∨ k = 7) (hl : s.length ≤ 100000) :
  PureX (α := { row : Vn // rowOk 5 (ZC k n ins s).length (Yd (ZC k n ins s)) row }) Tryz.prog 147 [Ty.val (.mk k n p ins), Jy s].toArray ((Vy k n ins s).2 = 0) (fun v => (Vy k n ins s).2 ≠ 0 ∧ v = wrV (Vy k n ins s).2) (fun x => KE (ZC k n ins s).length (Qv x.1)) (fun x => JJ 162 (Yd (ZC k n ins s)) x.1) R :=
 (Jwp ht hc hk3 hl).map id (fun x => (Vw _ _ (fun h => by have := x.2; rw [h] at this; exact this.1)).symm) fun x => List.Sublist.refl _
theorem Jz0 {k n : Int} {ins : List Ty} (hX : ∀ i, i < (Kk k n ins s).1 → VF k 0 i < ins.length) (h : (ZC k n ins s)[i]? = some q) : q.1 ∈ ins := by
 have h1 : ((ZC k n ins s).map Prod.fst)[i]? = some q.1 := by rw [List.getElem?_map, h]; rfl
 unfold ZC at h1
 rw [vB] at h1
 unfold KF at h1
 rw [List.getElem?_map] at h1
 obtain ⟨j, hj, e⟩ := Option.map_eq_some_iff.1 h1
 have hj2 := List.mem_range.1 (List.mem_of_getElem? hj)
 rw [← e]; exact (KC (hX j hj2)).2
theorem J1n {k n : Int} {ins : List Ty} (h0 : (Vy k n ins s).2 = 0) (hq : q ∈ ZC k n ins s) : (Kk k n ins s).2 = 0 ∧ q.2.1 ≤ q.2.2 ∧ q.2.2 ≤ s.length := by
 by_cases hm : (Kk k n ins s).2 ≠ 0
 ·rw [qJ hm] at h0; exact absurd h0 hm
 have hm0 := Decidable.not_not.1 hm
 refine ⟨hm0, ?_⟩
 have hb0 := j8 (KF k ins (Kk k n ins s).1)
 obtain ⟨H, hH⟩ : ∃ H : Nat, Kp (KF k ins (Kk k n ins s).1) = (H : Int) := ⟨_, (Int.toNat_of_nonneg hb0).symm⟩
 by_cases hl : s.length < H
 ·rw [Jku hm0 rfl hH hl] at h0; cases h0
 have ho := Jcq hm0 rfl hH m0
 cases e : QT s H (KF k ins (Kk k n ins s).1) 0 H false with
 | none => rw [e] at ho; rw [ho] at h0; cases h0
 | some os =>
  rw [e] at ho
  unfold ZC at hq
  rw [ho] at hq; exact zO m0 e m0 (fun _ => rfl) (fun x _ hx => by have := qI hx; omega) (by rw [hH]; simp) q hq
set_option maxHeartbeats 4000000 in
theorem J1o (ht : t.In R) : Vp t 0 = 0 → ∀ s : BS, s.length ≤ 100000 → PureX (α := VR (Qg t s).1) Tryz.prog 95 [t.val, Jy s].toArray ((Qg t s).2 = 0) (fun v => (Qg t s).2 ≠ 0 ∧ v = wrV (Qg t s).2) (fun y => y.x.val) (fun y => y.L) R := by
  induction ht with
  | @mk k n p ins hk hn hil hs hi ih =>
  intro hc s hl
  have ht : Ty.In R (.mk k n p ins) := .mk hk hn hil hs hi
  obtain ⟨hk8, ho, _, _⟩ := QE hc
  have hsub := VZ hc
  have hF := Jb9 ht
  have hZ := Jhy ht
  unfold YD at hZ
  have hbl := Jna (k := k) (p := p) (ins := ins) hl hn
  have hT := Jr6 (s := s) (n := 8 * s.length) (Nat.le_refl _) hl
  have hpl : ¬ (JL (.mk k n p ins) = true ∧ (s.length : Int) ≠ JV (.mk k n p ins)) → k = 1 ∨ k = 2 ∨ k = 5 → (s.length : Int) = if k = 1 then n else if k = 2 then 1 else (n + 7) / 8 := fun hnf h => by
    have hi0 : ins = [] := by
      unfold JM at ho
      rcases h with rfl | rfl | rfl <;> simp at ho <;> first | exact ho.1 | exact ho.1.1
    have hx : JL (.mk k n p ins) = true := by
      rw [Jr1 hc, Wi, hi0, Zf]
      rcases h with rfl | rfl | rfl <;> rfl
    have e : (s.length : Int) = JV (.mk k n p ins) := Decidable.byContradiction fun h2 => hnf ⟨hx, h2⟩
    rw [e, JV]
    rcases h with rfl | rfl | rfl <;> simp
  have hn1 : k = 1 → 1 ≤ n ∧ n ≤ 32 := fun e => by subst e; unfold JM at ho; simp at ho; omega
  have hn5 : k = 5 → 1 ≤ n ∧ n ≤ 512 := fun e => by subst e; unfold JM at ho; simp at ho; omega
  have h16 : k = 8 → ins.length ≤ 8 := fun e => by subst e; unfold JM at ho; simp at ho; omega
  refine Ys Tryz.func95 rfl rfl fun w => NA fun r1 r2 => ?_; refine GU ?_; refine DZ ?_; refine Jc rfl rfl rfl Jqi hF oR (NZ ?_)
  refine Jo 15 rfl (fun gb => ?_) (fun gb => ?_) <;> (try simp only [ZZ] at gb) <;> first | (refine Vb rfl ?_) | (refine LK rfl ?_)
  all_goals refine kP ?_
  all_goals refine LW 1 [1] rfl rfl ?_
  all_goals first | (refine Jc rfl rfl rfl Jqj hZ oR ?_) | refine LK rfl ?_
  all_goals refine GL ?_
  all_goals refine Ql rfl rfl rfl jB (We (_) 2) oN (fun hok _ => ?_) (fun v hv => by first | exact Bool.noConfusion hv.1 | exact QD rfl rfl (Xe (by rw [g_w ⟨‹JL _ = true›, fun e => absurd hv.1 (by rw [if_pos ‹JL _ = true›, e, beq_self_eq_true]; decide)⟩]) m7 hv))
  all_goals (
   refine J0 1 rfl (ZE 3 rfl ?_)
   have hnf : ¬ (JL (.mk k n p ins) = true ∧ (s.length : Int) ≠ JV (.mk k n p ins)) := by
     rintro ⟨hA, hB⟩
     first
     | (have e := Z3.1 hok; rw [if_pos hA] at e; exact hB e)
     | (have e : JL (.mk k n p ins) = false := ‹_›; rw [e] at hA; cases hA)
   clear hok; refine Gcc 12 [1] rfl rfl (cD (fun g => ?_) fun g => ?_)
   refine He ?_
   have hln := hpl hnf (.inl ‹k = 1›)
   rw [if_pos ‹k = 1›] at hln
   have hnn := hn1 ‹_›
   obtain ⟨a, b, c, d, hnm⟩ := Jid s
   have hnu := Jap (s := s) m0
   rw [hnm] at hnu; refine kj ?_; refine J2 rfl rfl rfl (enters_of Tryz.func144 m5 rfl) hnu (g8 ?_)
   refine Hy fun w1 hs1 => ?_
   (have e1 := g_1 hnf (s := s) ‹k = 1›
    refine .inl ⟨by rw [e1], ⟨.mk a b c d [] none [] none 0, [], Jse hnm, by rw [e1, Qs, YN, hnm]; rfl⟩, rfl, hs1.weakL (List.nil_sublist _)⟩)
   · refine NK ?_; refine cD (fun g => ?_) fun g => ?_
     refine He ?_
     have hln := hpl hnf (.inr (.inl ‹k = 2›))
     rw [if_neg ‹k ≠ 1›, if_pos ‹k = 2›] at hln
     obtain ⟨a, b, c, d, hnm⟩ := Jid s
     have hnu := Jap (s := s) m0
     rw [hnm] at hnu; refine kj ?_; refine LR rfl (Vt (j := 0) rfl rfl rfl rfl m0 rfl) (D0 ?_); refine Ql rfl rfl rfl jB (We (_) 2) oN (fun hok _ => ?_) (fun v hv => QD rfl rfl (Xe (by rw [g_2 hnf ‹k ≠ 1› ‹k = 2›, if_pos Mt]) m7 hv)); refine kB ?_; refine J2 rfl rfl rfl (enters_of Tryz.func144 m5 rfl) hnu (g8 ?_)
     refine Hy fun w1 hs1 => ?_
     (have e1 := g_2 hnf (s := s) ‹k ≠ 1› ‹k = 2›
      rw [if_neg MQ] at e1
      refine .inl ⟨by rw [e1], ⟨.mk a b c d [] none [] none 0, [], Jse hnm, by rw [e1, Qs, YN, hnm]; rfl⟩, rfl, hs1.weakL (List.nil_sublist _)⟩)
     · refine NK ?_; refine cD (fun g => ?_) fun g => ?_
       · refine He ?_
         have hln := hpl hnf (.inr (.inr ‹k = 5›))
         rw [if_neg ‹k ≠ 1›, if_neg ‹k ≠ 2›] at hln
         have hnn := hn5 ‹_›
         obtain ⟨N, hN⟩ : ∃ N, N = n.toNat := ⟨_, rfl⟩
         refine GN ?_; refine kG ?_; refine D0 ?_; refine Jj np (Qu rfl rfl rfl (enters_of Tryz.func145 m5 rfl) hT oN fun x => ?_)
         obtain ⟨row, hrow⟩ := x
         match row, hrow with | none, hrow => ?_ | some (ra, cap, sp), hrow => ?_
         all_goals first | exact absurd hrow.1 m0 | skip
         refine JP 5 rfl ?_
         have hcap : 8 * s.length ≤ cap := by have := hrow.2; omega
         obtain ⟨off1, hoff⟩ : ∃ o, (if cap = N then 0 else 0 + N * 1) = o := ⟨_, rfl⟩
         refine E6 ?_; refine Jj M8 (LR rfl (JZ (kl := some N) (kh := none) (km := none) (sz := 1) (m := N) (q := 8 * s.length) (z := cap) (off' := off1) rfl rfl rfl ⟨_, rfl⟩ trivial trivial rfl rfl rfl m0 m0 (Nat.le_refl _) (fun _ => rfl) hoff) (gg ?_)); refine G5 ?_; refine Js (σ := Nat) (fun j => j ≤ 8 * s.length - N ∧ ∀ i, i < j → Vv s (N + i) = false) (fun j => [(1, Jy s), (2, Vk r1), (4, Vk r2), (5, .slice (some ⟨ra, 0, none⟩) (8 * s.length) cap), (49, .slice (some ⟨ra, off1, none⟩) (8 * s.length - N) (cap - N)), (50, .int .i64 ((8 * s.length - N : Nat) : Int)), (51, .int .i64 (j : Int))]) (fun _ => [(ra, .cells (Qd (JQ s (8 * s.length)) ++ sp).toArray 4 (0, 0)), WE r2 v0L, VM r1 (.mk k n p ins)]) (fun _ _ _ => True) (fun j => 8 * s.length - N - j) 0 ⟨Nat.zero_le _, fun i h => by omega⟩ (lK rfl) (List.Sublist.refl _) (fun _ _ h => h) ?_; rintro j ⟨hj1, hbits⟩; change HC _ _ _ ((ra, _) :: (r2, _) :: (r1, _) :: []) _ _ _; refine NK ?_; refine cD (fun g => ?_) fun g => ?_
         refine H8 ?_; refine LR rfl (Kg (j := j) (m := 1) (off' := N + j) rfl rfl rfl rfl m0 m0 (by rw [← hoff, if_neg m0]; omega)) (LR rfl (Jd rfl (kn 0 rfl) rfl (Jkr s (i := N + j) m0 sp)) (G1 ?_)); refine Ql rfl rfl rfl jB (We (_) 8) oN (fun hok _ => ?_) (fun v hv => QD rfl rfl (Xe (by rw [g_5 hnf ‹k ≠ 1› ‹k ≠ 2› ‹k = 5›, ← hN, if_pos (Jsf m0 (Z8.mp hv.1))]) m7 hv)); refine kB ?_; refine Nn ?_; exact Jm (j + 1) ⟨by omega, fun i hi => by by_cases e : i = j; (subst e; exact Z7.mp hok); exact hbits i m0⟩ m0 (lK rfl) (List.Sublist.refl _) (fun _ _ h => h)
         · refine NK ?_
           have hany := Jzz (s := s) (N := N) (fun i hi => hbits i m0)
           refine E6 ?_; refine Jj M8 ?_
           refine LR rfl (JZ (kl := none) (kh := some N) (km := none) (m := 0) (q := N) (z := cap) (off' := 0) (sz := 1) rfl rfl rfl trivial ⟨_, rfl⟩ trivial rfl rfl rfl m0 m0 (Nat.le_refl _) (fun e => nomatch e) My) ?_; refine g8 ?_
           refine Eo ?_; refine gt ?_; refine Do fun w1 hs1 => ?_
           (have e1 := g_5 hnf (s := s) ‹k ≠ 1› ‹k ≠ 2› ‹k = 5›
            rw [← hN, hany, if_neg m7] at e1
            refine .inl ⟨by rw [e1], ⟨.mk 0 0 0 0 (JQ s N) (some (⟨ra, 0, none⟩, cap)) [] none 0, [(ra, .cells (Qd (JQ s (8 * s.length)) ++ sp).toArray 4 (0, 0))], Jfw m0 m0 m0, by rw [e1, Qs, YN]; rfl⟩, congrArg Ending.returned (Jks s N ra cap).symm, hs1.weakL ((List.cons_sublist_cons).2 (List.nil_sublist _))⟩)
       · refine NK ?_; refine cD (fun g => ?_) fun g => ?_
         refine QZ 4 [1] rfl rfl (Ql rfl rfl rfl (enters_of Tryz.func146 m5 rfl) hbl oN (fun hok y => ?_) (fun v hv => QD rfl rfl (by rw [g_6 hnf ‹k ≠ 1› ‹k ≠ 2› ‹k ≠ 5› ‹k = 6›]; exact hv)))
         obtain ⟨⟨ya, yb, yc, yd, ybits, ypb, yitems, ypi, ypick⟩, yL, yok, yer⟩ := y
         refine Dt ?_
         refine Hy fun w1 hs1 => ?_
         (have e1 := g_6 hnf (s := s) ‹k ≠ 1› ‹k ≠ 2› ‹k ≠ 5› ‹k = 6›
          refine .inl ⟨by rw [e1]; exact hok, ⟨.mk ya yb yc yd ybits ypb yitems ypi ypick, yL, yok, by rw [e1]; exact yer⟩, rfl, hs1.weakL (.cons _ (.cons _ (List.Sublist.refl _)))⟩)
         · refine NK ?_; refine cD (fun g => ?_) fun g => ?_
           · refine GN ?_; refine LR rfl (jp rfl rfl) (Ql rfl rfl rfl jB (We (_) 2) oN (fun hok _ => ?_) (fun v hv => QD rfl rfl (Xe (by rw [J24 hnf ‹k ≠ 1› ‹k ≠ 2› ‹k ≠ 5› ‹k ≠ 6› ‹k = 8› (of_decide_eq_true (Z8.mp hv.1))]) m7 hv))); refine kU ?_
             have hsne : s ≠ [] := of_decide_eq_false (Z7.mp hok)
             have hpos : 0 < s.length := List.length_pos_iff.2 hsne
             refine kj ?_; refine LR rfl (Vt (j := 0) rfl rfl rfl rfl m0 rfl) (D0 ?_); refine Jj (show _ = Value.int .i64 (((s.getD 0 0).toNat : Nat)) from congrArg (Value.int .i64) (wrap_i64 m0 (by have := Vh (s.getD 0 0); omega))) (XO 8 [1] rfl rfl (NE ?_)); refine D0 ?_; refine Ql rfl rfl rfl jB (We (_) 9) oN (fun hok _ => ?_) (fun v hv => QD rfl rfl (Xe (by rw [J25 hnf ‹k ≠ 1› ‹k ≠ 2› ‹k ≠ 5› ‹k ≠ 6› ‹k = 8› hsne Mt]) m7 hv)); refine kU ?_
             obtain ⟨x, hx⟩ : ∃ x, ins[(s.getD 0 0).toNat]? = some x := ⟨_, List.getElem?_eq_getElem MQ⟩
             have hxm := List.mem_of_getElem? hx
             have ihx := ih x hxm (hsub x hxm) (s.drop 1) Me
             by_cases hgo : (Qg x (s.drop 1)).2 = 0 ∧ Nonempty (VR (Qg x (s.drop 1)).1)
             rotate_left
             have hlt : (s.getD 0 0).toNat < ins.length := (List.getElem?_eq_some_iff.1 hx).1
             have hbadx : ∀ {v : Value}, (Qg x (s.drop 1)).2 ≠ 0 ∧ v = wrV (Qg x (s.drop 1)).2 → (Qg (.mk k n p ins) s).2 ≠ 0 ∧ v = wrV (Qg (.mk k n p ins) s).2 := fun hv => by rw [g_8 hnf ‹k ≠ 1› ‹k ≠ 2› ‹k ≠ 5› ‹k ≠ 6› ‹k = 8› hsne hx, if_pos hv.1]; exact hv
             exact Jjv [(0, .int .i64 ((s.getD 0 0).toNat : Int)), (1, .pointer (some ⟨r1, 2, none⟩)), (2, KE ins.length p), (3, .int .i64 ((s.getD 0 0).toNat : Int)), (4, .pointer (some ⟨plB p, YC p + (s.getD 0 0).toNat * 3, none⟩)), (5, x.val), (6, Jy s), (7, Jy (s.drop 1))] 8 m5 rfl m5 rfl (.cons rfl rfl (Jg rfl) <| .cons rfl rfl (JW rfl rfl rfl) <| .cons rfl rfl (Jd rfl (kn 1 rfl) rfl rfl) <| .cons rfl rfl (Jg rfl) <| .cons rfl rfl (Jf (j := (s.getD 0 0).toNat) rfl hs rfl rfl rfl rfl hlt) <| .cons rfl rfl (Ko oR rfl hs hx rfl rfl) <| .cons rfl rfl (Jg rfl) <| .cons rfl rfl (Vu (kl := some (.i64, 1)) (kh := none) (m := 1) (n := s.length) rfl rfl rfl rfl rfl rfl m0 m0 (show _ = s.drop 1 from by rw [List.take_length])) .nil) rfl rfl (zP rfl Jqc ihx (fun h y => hgo ⟨h, ⟨y⟩⟩) oR (fun v hv => QD rfl rfl (hbadx hv)))
             obtain ⟨hg0, ⟨x0⟩⟩ := hgo
             have hlt : (s.getD 0 0).toNat < ins.length := (List.getElem?_eq_some_iff.1 hx).1
             refine JD [VM r1 (.mk k n p ins)] [(0, .pure), (1, .pure), (2, .pure), (3, .pure), (4, .pure), (5, .pure), (6, .pure), (7, .pure), (8, .grow (KA x0 (fun y => y.x.val) (fun y => y.L))), (9, .turn)] 10 [0, 1, 2, 3, 4, 5, 6, 7, 8, 9] m5 m5 (fun q hq => List.mem_cons_of_mem _ hq) (GJ ?_)
             refine Jk (k := 1) rfl rfl rfl rfl rfl (fun _ hS => (Jw rfl rfl rfl)) (Jk (k := 2) rfl rfl rfl rfl rfl (fun _ hS => (Jd rfl (.inl (hS _ (Kh (n := 0) rfl))) rfl rfl)) (Jk (k := 3) rfl rfl rfl rfl rfl (fun _ hS => (Jg rfl)) (Jk (k := 4) rfl rfl rfl rfl rfl (fun _ _ => Jf (j := (s.getD 0 0).toNat) rfl hs rfl rfl rfl rfl hlt) (Jk (k := 5) rfl rfl rfl rfl rfl (fun _ _ => Ko oR rfl hs hx rfl rfl) (Jk (k := 6) rfl rfl rfl rfl rfl (fun _ hS => (Jg rfl)) (Jk (k := 7) rfl rfl rfl rfl rfl (fun _ _ => Vu (kl := some (.i64, 1)) (kh := none) (m := 1) (n := s.length) rfl rfl rfl rfl rfl rfl m0 m0 (show _ = s.drop 1 from by rw [List.take_length])) (JS (k := 8) rfl rfl rfl rfl rfl Jqc (ihx.toT (fun v hv => hv.1 hg0)) oR fun y => ?_))))))); obtain ⟨⟨ya, yb, yc, yd, ybits, ypb, yitems, ypi, ypick⟩, yL, yok, yer⟩ := y; refine jd (k := 9) (n := 1) (sz := 7) (vs := [_]) (zs := [_, _, _, _, _, _, _]) (r := [_, _, _, _, _, _, _]) rfl rfl rfl rfl (fun q hq => List.mem_append_right _ (List.mem_cons_of_mem _ hq)) rfl rfl rfl rfl rfl rfl rfl ms rfl fun rv => Kc (KR (List.Perm.cons _ List.perm_append_comm) (g8 ?_))
             refine Eo ?_; refine gt ?_; refine Do fun w1 hs1 => ?_
             (have e1 := g_8 hnf (s := s) ‹k ≠ 1› ‹k ≠ 2› ‹k ≠ 5› ‹k ≠ 6› ‹k = 8› hsne hx
              rw [if_neg (by rw [hg0]; decide)] at e1
              refine .inl ⟨by rw [e1], ⟨.mk 0 0 0 0 [] none [.mk ya yb yc yd ybits ypb yitems ypi ypick] (some (⟨rv, 0, none⟩, 1)) ((s.getD 0 0).toNat : Int), [(rv, _)] ++ yL, YR mh ⟨Nat.le_refl _, fun _ => ⟨rfl, _, _, _, List.mem_singleton_self _, rfl⟩⟩ (fun z hz => by rw [List.mem_singleton.1 hz]; exact yok) (by have := Vh (s.getD 0 0); unfold Zy; omega), by rw [e1, Qs, YN, YN, yer]; rfl⟩, rfl, hs1.weakL ((List.cons_sublist_cons).2 (.cons _ (.cons _ (List.Sublist.refl _))))⟩)
           · refine gH ?_; refine LN rfl fun r3 => G5 ?_
             have hk3 : k = 3 ∨ k = 4 ∨ k = 7 := by have h1 : k ≠ 1 := ‹_›; have h2 : k ≠ 2 := ‹_›; have h5 : k ≠ 5 := ‹_›; have h6 : k ≠ 6 := ‹_›; have h8 : k ≠ 8 := ‹_›; omega
             have hmX := zM (s := s) hk8 ho hk3
             have hgr := (g_r (s := s) hnf ‹k ≠ 1› ‹k ≠ 2› ‹k ≠ 5› ‹k ≠ 6› ‹k ≠ 8›).trans (Jwq hmX)
             have hpp := Jsg (s := s) ht hc hk3 hl
             refine QZ 3 [2] rfl rfl (Ql rfl rfl rfl (enters_of Tryz.func147 m5 rfl) hpp oR (fun hp0 x => ?_) (fun v hv => QD rfl rfl (by rw [hgr, if_pos hv.1]; exact hv)))
             obtain ⟨prow, hprow⟩ := x
             refine Dt ?_
             have hsg := Ke (e := 162) hprow m7
             have hmm0 : (Kk k n ins s).2 = 0 := Decidable.byContradiction fun hm => hm (by rw [← qJ hm]; exact hp0)
             have hPl : (ZC k n ins s).length ≤ 512 := by unfold ZC; rw [vz, WF]; exact (wW hk8 ho hk3 hmm0).1
             refine LR rfl (Jl rfl hsg rfl) (G5 ?_); rw [if_neg (by rw [hp0]; decide)] at hgr; refine Js (σ := Nat × List Vl × Vn × Jp) (fun q => q.1 = q.2.1.length ∧ q.1 ≤ (ZC k n ins s).length ∧ rowOk 7 q.1 (KL q.2.1) q.2.2.1 ∧ (∀ x ∈ q.2.1, Vl.In q.2.2.2 x) ∧ Wb (((ZC k n ins s).take q.1).map (gq s)) = (q.2.1.map Xh, 0)) (fun q => [(1, Jy s), (2, Vk r1), (4, Vk r2), (9, Vk r3), (96, KE (ZC k n ins s).length (Qv prow)), (97, .int .i64 ((ZC k n ins s).length : Int)), (98, .int .i64 (q.1 : Int))]) (fun q => (r3, .cells #[.int .u64 0, .int .u64 0, .int .u64 0, .int .u64 0, .slice none 0 0, J3 q.1 q.2.2.1, .int .i64 0] 81 (0, 0)) :: WE r2 v0L :: VM r1 (.mk k n p ins) :: (JJ 81 (KL q.2.1) q.2.2.1 ++ (JJ 162 (Yd (ZC k n ins s)) prow ++ q.2.2.2))) (fun _ _ _ => True) (fun q => (ZC k n ins s).length - q.1) (0, [], none, []) ⟨rfl, Nat.zero_le _, ⟨rfl, rfl⟩, fun x hx => (nomatch hx), rfl⟩ (lK rfl) mN (fun _ _ h => h) ?_; rintro ⟨i, vs, row, E⟩ ⟨hvl, him, hrow, hin, hrun⟩; simp only at hvl him hrow hin hrun; refine NK ?_; refine cD (fun g => ?_) fun g => ?_
             · refine gr ?_
               obtain ⟨⟨x, f, f2⟩, hq⟩ : ∃ q, (ZC k n ins s)[i]? = some q := ⟨_, List.getElem?_eq_getElem m0⟩
               obtain ⟨hmm, hft, htl⟩ := J1n hp0 (List.mem_of_getElem? hq)
               have hxm := Jz0 (hmX hmm) hq
               simp only at hft htl hxm
               have ihx := ih x hxm (hsub x hxm) ((s.take f2).drop f) (by rw [List.length_drop, List.length_take]; omega)
               obtain ⟨xk, xn, xp, xi⟩ := x
               refine Dq ?_
               refine LR rfl (Jf (j := i) rfl hsg rfl rfl rfl me m0) (LR rfl (XC (vs := prC (.mk xk xn xp xi, f, f2)) (fun q hq => Or.inl (List.mem_cons_of_mem _ (List.mem_cons_of_mem _ (List.mem_cons_of_mem _ (List.mem_append_right _ (List.mem_append_left _ hq)))))) rfl hsg m0 rfl rfl (Yq j7 hq) (j7 _)) (LN rfl fun r4 => ?_))
               refine kq ?_; refine HY ?_
               by_cases hgo : (Qg (.mk xk xn xp xi) ((s.take f2).drop f)).2 = 0 ∧ Nonempty (VR (Qg (.mk xk xn xp xi) ((s.take f2).drop f)).1)
               rotate_left
               have hbadx : ∀ {v : Value}, (Qg (.mk xk xn xp xi) ((s.take f2).drop f)).2 ≠ 0 ∧ v = wrV (Qg (.mk xk xn xp xi) ((s.take f2).drop f)).2 → (Qg (.mk k n p ins) s).2 ≠ 0 ∧ v = wrV (Qg (.mk k n p ins) s).2 := fun hv => by
                 have e1 : (ZC k n ins s).map (gq s) = ((ZC k n ins s).take i).map (gq s) ++ gq s (.mk xk xn xp xi, f, f2) :: ((ZC k n ins s).drop (i + 1)).map (gq s) := by
                   rw [← List.map_cons, ← Qh hq, ← List.map_append, List.take_append_drop]
                 have e2 := Jfz (r := ((ZC k n ins s).drop (i + 1)).map (gq s)) (f := Qg (.mk xk xn xp xi)) (s := (s.take f2).drop f) hrun hv.1
                 have e3 : (Wb ((ZC k n ins s).map (gq s))).2 = (Qg (.mk xk xn xp xi) ((s.take f2).drop f)).2 := by rw [e1]; exact e2
                 rw [hgr, if_pos (by rw [e3]; exact hv.1)]; exact ⟨by rw [e3]; exact hv.1, by rw [e3]; exact hv.2⟩
               exact Jjv [(0, .pointer (some ⟨r3, 5, none⟩)), (1, J3 i row), (2, .pointer (some ⟨r4, 0, none⟩)), (3, Ty.val (.mk xk xn xp xi)), (4, Jy s), (5, .pointer (some ⟨r4, 3, none⟩)), (6, .int .i64 (f : Int)), (7, .pointer (some ⟨r4, 4, none⟩)), (8, .int .i64 (f2 : Int)), (9, Jy ((s.take f2).drop f))] 10 m5 rfl m5 rfl (.cons rfl rfl (JW rfl rfl rfl) <| .cons rfl rfl (Jd rfl (kn 1 rfl) rfl rfl) <| .cons rfl rfl (JW rfl rfl rfl) <| .cons rfl rfl (Jq (vs := [_, _, _]) rfl (kn 0 rfl) rfl rfl rfl rfl) <| .cons rfl rfl (Jg rfl) <| .cons rfl rfl (JW rfl rfl rfl) <| .cons rfl rfl (Jd rfl (kn 0 rfl) rfl rfl) <| .cons rfl rfl (JW rfl rfl rfl) <| .cons rfl rfl (Jd rfl (kn 0 rfl) rfl rfl) <| .cons rfl rfl (Vu (kl := some (.i64, (f : Int))) (kh := some (.i64, (f2 : Int))) (m := f) (n := f2) rfl rfl rfl rfl rfl rfl hft htl rfl) .nil) rfl rfl (zP rfl Jqc ihx (fun h y => hgo ⟨h, ⟨y⟩⟩) oR (fun v hv => QD rfl rfl (hbadx hv)))
               obtain ⟨hg0, ⟨x0⟩⟩ := hgo
               refine JD [(r3, .cells #[.int .u64 0, .int .u64 0, .int .u64 0, .int .u64 0, .slice none 0 0, J3 i row, .int .i64 0] 81 (0, 0)), (r4, .cells (prC (.mk xk xn xp xi, f, f2)).toArray 162 (0, 0))] [(0, .pure), (1, .pure), (2, .pure), (3, .pure), (4, .pure), (5, .pure), (6, .pure), (7, .pure), (8, .pure), (9, .pure), (10, .grow (KA x0 (fun y => y.x.val) (fun y => y.L))), (11, .turn)] 12 [0, 1, 2, 3, 4, 5, 6, 7, 8, 9, 10, 11] m5 m5 (fun q hq => by rcases List.mem_cons.1 hq with rfl | hq; exact List.mem_cons_of_mem _ List.mem_cons_self; rw [List.mem_singleton.1 hq]; exact List.mem_cons_self) ?_
               refine Ed ?_
               refine Gi ?_; refine Jk (k := 3) rfl rfl rfl rfl rfl (fun _ hS => (Jq (vs := [_, _, _]) rfl (.inl (hS _ (Kh (n := 1) rfl))) rfl rfl rfl rfl)) (Eh ?_)
               refine kF ?_
               refine Eb ?_; refine Jk (k := 9) rfl rfl rfl rfl rfl (fun _ _ => Vu (kl := some (.i64, (f : Int))) (kh := some (.i64, (f2 : Int))) (m := f) (n := f2) rfl rfl rfl rfl rfl rfl hft htl rfl) (JS (k := 10) rfl rfl rfl rfl rfl Jqc (ihx.toT (fun v hv => hv.1 hg0)) oR fun y => ?_); obtain ⟨⟨ya, yb, yc, yd, ybits, ypb, yitems, ypi, ypick⟩, yL, yok, yer⟩ := y
               refine jd (k := 11) (n := 1) (sz := 7) (vs := [_]) (zs := [_, _, _, _, _, _, _]) (r := [_, _, _, _, _, _, _]) rfl rfl rfl rfl (fun q hq => List.mem_append_right _ (by rcases List.mem_cons.1 hq with rfl | hq; exact List.mem_cons_of_mem _ List.mem_cons_self; rw [List.mem_singleton.1 hq]; exact List.mem_cons_self)) rfl rfl rfl rfl rfl rfl rfl ms rfl fun rv => ?_; refine Kc ?_; refine KR (Jzx ..) ?_; refine JB (L0 := _ :: _ :: _ :: _ :: _ :: (yL ++ (JJ 162 (Yd (ZC k n ins s)) prow ++ E))) (xs := KL vs) (row := row) (n := i) (sz := 7) (b := 88) (news := [_, _, _, _, _, _, _]) (List.Perm.refl _) rfl rfl rfl rfl (kn 0 rfl) rfl rfl rfl rfl rfl m7 rfl rfl rfl m7 hrow m0 m0 fun ra cap sp hra => ?_
               refine LS 1 [] rfl rfl (Ky (k := 3) (cs' := #[.int .u64 0, .int .u64 0, .int .u64 0, .int .u64 0, .slice none 0 0, J3 (i + 1) (some (ra, cap, sp)), .int .i64 0]) rfl rfl rfl rfl rfl rfl rfl rfl rfl rfl (kB ?_)); refine ND ?_
               have hsn : ((ZC k n ins s).take (i + 1)).map (gq s) = ((ZC k n ins s).take i).map (gq s) ++ [gq s (.mk xk xn xp xi, f, f2)] := by rw [KJ hq, List.map_append]; rfl
               have hgy : Qg (.mk xk xn xp xi) ((s.take f2).drop f) = (Xh (.mk ya yb yc yd ybits ypb yitems ypi ypick), 0) := Prod.ext yer.symm hg0
               have hvc : KL vs ++ Vl.cells (.mk ya yb yc yd ybits ypb yitems ypi ypick) = KL (vs ++ [.mk ya yb yc yd ybits ypb yitems ypi ypick]) := by unfold KL; rw [List.flatMap_append]; simp
               refine WM (Jzy ..) ?_
               exact Jm (i + 1, vs ++ [.mk ya yb yc yd ybits ypb yitems ypi ypick], some (ra, cap, sp), yL ++ E) ⟨by simp only [List.length_append, List.length_singleton]; omega, by simp only; omega, by simp only; rw [← hvc]; exact hra, fun z hz => by rcases List.mem_append.1 hz with hz | hz; exact (hin z hz).mono (fun q hq => List.mem_append_right _ hq); rw [List.mem_singleton.1 hz]; exact yok.mono (fun q hq => List.mem_append_left _ hq), by simp only; rw [hsn, List.map_append]; exact Jaq hrun hgy⟩ ml (lK rfl) nI (fun _ _ h => h)
             · refine NK ?_
               have honeV : ([.int .u64 0, .int .u64 0, .int .u64 0, .int .u64 0, .slice none 0 0, J3 i row, .int .i64 0] : List Value).all Va = true := by cases row <;> rfl
               refine Nq fun w1 hs1 => ?_
               (have e1 := hgr
                have hiM : i = (ZC k n ins s).length := by omega
                rw [hiM, List.take_length] at hrun; rw [hrun, if_neg mh] at e1; rw [hiM] at hvl hrow; rw [hvl] at hrow
                have hvr : J3 i row = KE vs.length (Qv row) := by rw [hiM, hvl]; exact (Vw _ _ (fun h => by rw [h] at hrow; exact hrow.1)).symm
                refine .inl ⟨by rw [e1], ⟨.mk 0 0 0 0 [] none vs (Qv row) 0, JJ 81 (KL vs) row ++ E, YR m0 (Ke hrow m7) hin i0, by rw [e1, Qs, Wr]; rfl⟩, congrArg (fun z => Ending.returned (Value.agg #[.int .u64 0, .int .u64 0, .int .u64 0, .int .u64 0, .slice none 0 0, z, .int .i64 0])) hvr, hs1.weakL (.cons _ (.cons _ (.cons _ ((List.Sublist.refl _).append (List.sublist_append_right _ _)))))⟩)
   skip)
mutual
def XG : Ty → Ty
 | .mk k n _ ins => .mk k n none (Wf ins)
def Wf : List Ty → List Ty
 | [] => []
 | x :: xs => XG x :: Wf xs
end
theorem zQ : ∀ l : List Ty, Wf l = l.map XG
 | [] => by rw [Wf]; rfl
 | x :: xs => by rw [Wf, zQ xs]; rfl
theorem je (l : List Ty) : (Wf l).length = l.length := by rw [zQ, List.length_map]
structure TR (t : Ty) : Type where
  x : Ty
  L : Jp
  ok : x.In L
  er : XG x = t
def byT : Ty := .mk 1 1 none []
def Xu (k n : Int) : Ty := .mk k n none [byT]
def vF : Ty := .mk 7 0 none [Xu 3 32, Xu 3 32]
def acT : Ty := .mk 7 0 none [Xu 3 20, .mk 1 8 none [], .mk 1 32 none [], Xu 4 512, .mk 4 16 none [vF]]
def QU : Ty := .mk 4 32 none [acT]
theorem Jsh {k n : Int} (hk : Zy k) (hn : Zy n) : PureT (α := Nat) Tryz.prog 78 [.int .i64 k, .int .i64 n].toArray (fun r => .agg #[.int .i64 k, .int .i64 n, .slice (some ⟨r, 0, none⟩) 1 1]) [] (fun r => [(r, .cells #[.int .i64 1, .int .i64 1, .slice none 0 0] 76 (0, 0))]) [] := by
 refine JE Tryz.func78 rfl rfl fun w => Nl fun r1 => ?_; refine G1 ?_; exact kL
theorem wY {k n : Int} (hk : Zy k) (hn : Zy n) : PureT (α := Nat) Tryz.prog 83 [.int .i64 k, .int .i64 n].toArray (fun r => .agg #[.int .i64 k, .int .i64 n, .slice (some ⟨r, 0, none⟩) 1 1]) [] (fun r => [(r, .cells #[.int .i64 1, .int .i64 1, .slice none 0 0] 76 (0, 0))]) [] := by
 refine JE Tryz.func83 rfl rfl fun w => Nl fun r1 => ?_; refine G1 ?_; exact kL
abbrev Jnb (e : Nat) : Obj := .cells #[.int .i64 1, .int .i64 1, .slice none 0 0] e (0, 0)
def Jnc (k n : Int) (x : Nat) : Ty := .mk k n (some (⟨x, 0, none⟩, 1)) [byT]
def J1p (x y r : Nat) : Ty := .mk 7 0 (some (⟨r, 0, none⟩, 2)) [Jnc 3 32 x, Jnc 3 32 y]
def acX (x y x2 x3 r s a : Nat) : Ty := .mk 7 0 (some (⟨a, 0, none⟩, 5)) [Jnc 3 20 x2, .mk 1 8 none [], .mk 1 32 none [], Jnc 4 512 x3, .mk 4 16 (some (⟨s, 0, none⟩, 1)) [J1p x y r]]
def Jnd (x y x2 x3 r s a z : Nat) : Ty := .mk 4 32 (some (⟨z, 0, none⟩, 1)) [acX x y x2 x3 r s a]
theorem Jf0 {k n : Int} {ins : List Ty} {all : Array Value} (hk : Zy k) (hn : Zy n) (hm : (r, Obj.cells all e (0, 0)) ∈ R) (ha : all.toList = xu ins) (hl : ins.length = m) (hl2 : m ≤ 100) (hi : ∀ x ∈ ins, x.In R) : Ty.In R (.mk k n (some (⟨r, 0, none⟩, m)) ins) :=
 .mk hk hn m0 ⟨Nat.le_of_eq hl, fun _ => ⟨rfl, all, e, (0, 0), hm, by rw [List.drop_zero, ha, List.take_length]⟩⟩ hi
theorem Jcr {k n : Int} (hk : Zy k) (hn : Zy n) : Ty.In R (.mk k n none []) := .mk hk hn m7 rfl (fun x hx => nomatch hx)
theorem wZ {k n : Int} {x : Nat} (hk : Zy k) (hn : Zy n) (h : (x, Jnb e) ∈ R) : (Jnc k n x).In R :=
 Jf0 hk hn h rfl rfl m7 fun y hy => by rw [List.mem_singleton.1 hy]; exact Jcr mW mW
theorem YU {n : Int} (h0 : 0 ≤ n) (h : n ≤ 1000) : Zy n := by unfold Zy; omega
theorem Jcs  {x y x2 x3 s a z : Nat} (h1 : (x, Jnb e) ∈ R) (h2 : (y, Jnb e) ∈ R) (h3 : (x2, Jnb e) ∈ R) (h4 : (x3, Jnb e) ∈ R) (h5 : (r, Obj.cells #[.int .i64 3, .int .i64 32, .slice (some ⟨x, 0, none⟩) 1 1, .int .i64 3, .int .i64 32, .slice (some ⟨y, 0, none⟩) 1 1] e (0, 0)) ∈ R)
  (h6 : (s, Obj.cells #[.int .i64 7, .int .i64 0, .slice (some ⟨r, 0, none⟩) 2 2] e (0, 0)) ∈ R)
  (h7 : (a, Obj.cells #[.int .i64 3, .int .i64 20, .slice (some ⟨x2, 0, none⟩) 1 1, .int .i64 1, .int .i64 8, .slice none 0 0, .int .i64 1, .int .i64 32, .slice none 0 0, .int .i64 4, .int .i64 512, .slice (some ⟨x3, 0, none⟩) 1 1, .int .i64 4, .int .i64 16, .slice (some ⟨s, 0, none⟩) 1 1] e (0, 0)) ∈ R)
  (h8 : (z, Obj.cells #[.int .i64 7, .int .i64 0, .slice (some ⟨a, 0, none⟩) 5 5] e (0, 0)) ∈ R) : (Jnd x y x2 x3 r s a z).In R := by
 refine Jf0 (YU m7 m7) (YU m7 m7) h8 rfl rfl m7 fun q hq => ?_; rw [List.mem_singleton.1 hq]; refine Jf0 (YU m7 m7) (YU m7 m7) h7 rfl rfl m7 fun q hq => ?_; simp only [List.mem_cons, List.not_mem_nil, or_false] at hq
 rcases hq with rfl | rfl | rfl | rfl | rfl
 ·exact wZ (YU m7 m7) (YU m7 m7) h3
 ·exact Jcr (YU m7 m7) (YU m7 m7)
 ·exact Jcr (YU m7 m7) (YU m7 m7)
 ·exact wZ (YU m7 m7) (YU m7 m7) h4
 ·refine Jf0 (YU m7 m7) (YU m7 m7) h6 rfl rfl m7 fun q hq => ?_
  rw [List.mem_singleton.1 hq]; refine Jf0 (YU m7 m7) (YU m7 m7) h5 rfl rfl m7 fun q hq => ?_; simp only [List.mem_cons, List.not_mem_nil, or_false] at hq
  rcases hq with rfl | rfl
  ·exact wZ (YU m7 m7) (YU m7 m7) h1
  ·exact wZ (YU m7 m7) (YU m7 m7) h2
theorem Jct (x y x2 x3 r s a z : Nat) : XG (Jnd x y x2 x3 r s a z) = QU := by
 simp only [Jnd, acX, J1p, Jnc, byT, XG, Wf, QU, acT, vF, Xu]
theorem Jcu : PureT (α := TR QU) Tryz.prog 53 #[] (fun y => y.x.val) [] (fun y => y.L) [] := by
 refine JE Tryz.func53 rfl rfl fun w => Nl fun r1 => ?_; refine GU ?_; refine Qu rfl rfl rfl Jze (Jsh mW mW) oN fun x1 => LN rfl fun r2 => ?_
 refine kq ?_; refine XO 6 [0, 0] rfl rfl (J8 (vs := [_, _]) (zs := [_, _, _, _, _, _]) (r := [_, _, _, _, _, _]) rfl rfl rfl rfl rfl rfl rfl rfl rfl ms rfl fun r3 => Dk ?_); refine LN rfl fun r4 => ?_
 refine kq ?_; refine kU ?_
 refine JD [(r4, .cells #[.int .i64 7, .int .i64 0, .slice (some ⟨r3, 0, none⟩) 2 2] 76 (0, 0))] [(0, .grow (KA 0 (fun r => .agg #[.int .i64 3, .int .i64 20, .slice (some ⟨r, 0, none⟩) 1 1]) (fun r => [(r, .cells #[.int .i64 1, .int .i64 1, .slice none 0 0] 76 (0, 0))]))), (1, .pure), (2, .pure), (3, .grow (KA 0 (fun r => .agg #[.int .i64 4, .int .i64 512, .slice (some ⟨r, 0, none⟩) 1 1]) (fun r => [(r, .cells #[.int .i64 1, .int .i64 1, .slice none 0 0] 76 (0, 0))]))), (4, .pure), (5, .grow (VS (slV 1) (.cells #[.int .i64 7, .int .i64 0, .slice (some ⟨r3, 0, none⟩) 2 2] 76 (0, 0)))), (6, .pure), (7, .dep [9, 10, 11, 12, 15] (jF 5 76)), (8, .pure), (9, .grow (VS xo (.cells #[.int .i64 0, .int .i64 0, .slice none 0 0] 76 (0, 0))))] 10 [1, 2, 4, 5, 6, 0, 3, 7, 8, 9] m5 m5 m6 (gJ ?_); refine QS (k := 5) (n := 1) (sz := 3) (vs := [_]) (zs := [_, _, _]) (r := [.int .i64 7, .int .i64 0, .slice (some ⟨r3, 0, none⟩) 2 2]) rfl rfl rfl rfl rfl rfl rfl rfl rfl rfl rfl ms rfl fun s1 => Jk (k := 6) rfl rfl rfl rfl rfl (fun _ hS => (J5 (r := [_, _, _]) rfl rfl)) (JS (k := 0) rfl rfl rfl rfl rfl Jze (Jsh mW mW) oN fun x2 => JS (k := 3) rfl rfl rfl rfl rfl Jze (Jsh mW mW) oN fun x3 => Qe (k := 7) (dv := [_, _, _, _, _]) (n := 5) (sz := 3) (vs := [_, _, _, _, _]) (zs := [_, _, _, _, _, _, _, _, _, _, _, _, _, _, _]) (r := [.int .i64 3, .int .i64 20, .slice (some ⟨x2, 0, none⟩) 1 1, .int .i64 1, .int .i64 8, .slice none 0 0, .int .i64 1, .int .i64 32, .slice none 0 0, .int .i64 4, .int .i64 512, .slice (some ⟨x3, 0, none⟩) 1 1, .int .i64 4, .int .i64 16, .slice (some ⟨s1, 0, none⟩) 1 1]) rfl rfl rfl rfl rfl rfl rfl rfl rfl rfl rfl rfl rfl ms rfl fun s2 => Jk (k := 8) rfl rfl rfl rfl rfl (fun _ hS => (J5 (r := [_, _, _]) rfl rfl)) (XU (k := 9) (cs := #[_, _, _]) rfl rfl rfl rfl rfl rfl fun r5 => Kc ?_))
 refine kq ?_; refine GU ?_; refine Nu ?_; refine J8 (vs := [_]) (zs := [_, _, _]) (r := [_, _, _]) rfl rfl rfl rfl rfl rfl rfl rfl rfl ms rfl fun r6 => Dk ?_
 refine LT 10 rfl rfl (Ha ?_); refine Jn rfl rfl (.cons (J4 (vs := [_, _, _]) rfl (kn 10 rfl) rfl rfl) .nil) (fun w1 hs1 => ?_); exact ⟨⟨Jnd x1 x1 x2 x3 r3 s1 s2 r6, _, Jcs (e := 76) mh mh mh mh mh mh mh mh, Jct ..⟩, rfl, hs1⟩
theorem Jf1 : PureT (α := TR QU) Tryz.prog 56 #[] (fun y => y.x.val) [] (fun y => y.L) [] := by
 refine JE Tryz.func56 rfl rfl fun w => Nl fun r1 => ?_; refine GU ?_; refine Qu rfl rfl rfl Jvi (wY mW mW) oN fun x1 => Qu rfl rfl rfl Jvi (wY mW mW) oN fun x4 => J8 (vs := [_, _]) (zs := [_, _, _, _, _, _]) (r := [_, _, _, _, _, _]) rfl rfl rfl rfl rfl rfl rfl rfl rfl ms rfl fun r2 => Dk ?_; refine LN rfl fun r3 => ?_
 refine kq ?_; refine GU ?_; refine Nu ?_; refine J8 (vs := [_]) (zs := [_, _, _]) (r := [_, _, _]) rfl rfl rfl rfl rfl rfl rfl rfl rfl ms rfl fun r4 => Dk ?_; refine LN rfl fun r5 => ?_
 refine kq ?_; refine kU ?_
 refine JD [(r5, .cells #[.int .i64 4, .int .i64 16, .slice (some ⟨r4, 0, none⟩) 1 1] 76 (0, 0))] [(0, .grow (KA 0 (fun r => .agg #[.int .i64 3, .int .i64 20, .slice (some ⟨r, 0, none⟩) 1 1]) (fun r => [(r, .cells #[.int .i64 1, .int .i64 1, .slice none 0 0] 76 (0, 0))]))), (1, .pure), (2, .pure), (3, .grow (KA 0 (fun r => .agg #[.int .i64 4, .int .i64 512, .slice (some ⟨r, 0, none⟩) 1 1]) (fun r => [(r, .cells #[.int .i64 1, .int .i64 1, .slice none 0 0] 76 (0, 0))]))), (4, .pure), (5, .dep [11, 12, 13, 14, 15] (jF 5 76)), (6, .pure), (7, .grow (VS xo (.cells #[.int .i64 0, .int .i64 0, .slice none 0 0] 76 (0, 0))))] 8 [1, 2, 4, 0, 3, 5, 6, 7] m5 m5 m6 (gJ ?_); refine JS (k := 0) rfl rfl rfl rfl rfl Jvi (wY mW mW) oN fun x2 => JS (k := 3) rfl rfl rfl rfl rfl Jvi (wY mW mW) oN fun x3 => Qe (k := 5) (dv := [_, _, _, _, _]) (n := 5) (sz := 3) (vs := [_, _, _, _, _]) (zs := [_, _, _, _, _, _, _, _, _, _, _, _, _, _, _]) (r := [.int .i64 3, .int .i64 20, .slice (some ⟨x2, 0, none⟩) 1 1, .int .i64 1, .int .i64 8, .slice none 0 0, .int .i64 1, .int .i64 32, .slice none 0 0, .int .i64 4, .int .i64 512, .slice (some ⟨x3, 0, none⟩) 1 1, .int .i64 4, .int .i64 16, .slice (some ⟨r4, 0, none⟩) 1 1]) rfl rfl rfl rfl rfl rfl rfl rfl rfl rfl rfl rfl rfl ms rfl fun s2 => Jk (k := 6) rfl rfl rfl rfl rfl (fun _ hS => (J5 (r := [_, _, _]) rfl rfl)) (XU (k := 7) (cs := #[_, _, _]) rfl rfl rfl rfl rfl rfl fun r6 => Kc ?_)
 refine kq ?_; refine GU ?_; refine Nu ?_; refine J8 (vs := [_]) (zs := [_, _, _]) (r := [_, _, _]) rfl rfl rfl rfl rfl rfl rfl rfl rfl ms rfl fun r7 => Dk ?_
 refine LT 11 rfl rfl (Ha ?_); refine Jn rfl rfl (.cons (J4 (vs := [_, _, _]) rfl (kn 11 rfl) rfl rfl) .nil) (fun w1 hs1 => ?_); exact ⟨⟨Jnd x1 x4 x2 x3 r2 r4 s2 r7, _, Jcs (e := 76) mh mh mh mh mh mh mh mh, Jct ..⟩, rfl, hs1⟩
def Zu (b : UInt8) : Vl := .mk b.toNat 0 0 0 [] none [] none 0
def wi (s : BS) : Vl := KP (s.map Zu) 0
theorem J1q (b : UInt8) : (Zu b).cells = [uV b.toNat, uV 0, uV 0, uV 0, .slice none 0 0, .slice none 0 0, .int .i64 0] := rfl
theorem Jsi (b : UInt8) : Vl.In [] (Zu b) := .mk (by have := Vh b; unfold XD; omega) u0 u0 u0 m7 rfl m7 rfl i0 (fun x hx => nomatch hx)
theorem Jsj (s : BS) (p : Pl) : Xh (.mk 0 0 0 0 [] none (s.map Zu) p 0) = wi s := by
 rw [Qs, Wr, List.map_map, show (Xh ∘ Zu) = Zu from funext fun b => by show Xh (Zu b) = Zu b; unfold Zu; rw [Qs, YN]]; rfl
theorem Jkw (h : i < s.length) : KL ((s.take i).map Zu) ++ [uV (s.getD i 0).toNat, uV 0, uV 0, uV 0, .slice none 0 0, .slice none 0 0, .int .i64 0] = KL ((s.take (i + 1)).map Zu) := by
 have h1 : s[i]? = some (s.getD i 0) := by rw [List.getD_eq_getElem?_getD, List.getElem?_eq_getElem h]; rfl
 rw [KJ h1, List.map_append]
 unfold KL
 rw [List.flatMap_append]; simp [J1q]
theorem Jcv (hl : s.length ≤ 100000) : PureT (α := VR (wi s)) Tryz.prog 79 [Jy s].toArray (fun y => y.x.val) [] (fun y => y.L) [] := by
 refine JE Tryz.func79 rfl rfl fun w => Nl fun r1 => ?_; refine GU ?_; refine LN rfl fun r2 => G1 ?_; refine kG ?_; refine G5 ?_; refine Js (σ := Nat × Vn) (fun q => q.1 ≤ s.length ∧ rowOk 7 q.1 (KL ((s.take q.1).map Zu)) q.2) (fun q => [(0, Jy s), (2, Vk r1), (3, Vk r2), (6, .int .i64 (s.length : Int)), (7, .int .i64 (q.1 : Int))]) (fun q => (r2, .cells #[.int .u64 0, .int .u64 0, .int .u64 0, .int .u64 0, .slice none 0 0, J3 q.1 q.2, .int .i64 0] 81 (0, 0)) :: (r1, .cells #[.int .u64 0, .int .u64 0, .int .u64 0, .int .u64 0, .slice none 0 0, .slice none 0 0, .int .i64 0] 81 (0, 0)) :: JJ 81 (KL ((s.take q.1).map Zu)) q.2) (fun _ _ _ => True) (fun q => s.length - q.1) (0, none) ⟨Nat.zero_le _, rfl, rfl⟩ (lK rfl) (List.Sublist.refl _) (fun _ _ h => h) ?_; rintro ⟨i, row⟩ ⟨hi1, hrow⟩; simp only at hi1 hrow; change HC _ _ [(0, Jy s), (2, Vk r1), (3, Vk r2), (6, .int .i64 (s.length : Int)), (7, .int .i64 (i : Int))] ((r2, .cells #[.int .u64 0, .int .u64 0, .int .u64 0, .int .u64 0, .slice none 0 0, J3 i row, .int .i64 0] 81 (0, 0)) :: (r1, .cells #[.int .u64 0, .int .u64 0, .int .u64 0, .int .u64 0, .slice none 0 0, .slice none 0 0, .int .i64 0] 81 (0, 0)) :: JJ 81 (KL ((s.take i).map Zu)) row) _ _ _; refine NK ?_; refine cD (fun g => ?_) fun g => ?_
 ·refine J9 10 rfl ?_
  refine NF ?_; refine Vi (k := 6) rfl rfl rfl rfl rfl Jp9 (YH _) (gx fun rb => ?_); refine JB (L0 := [_, _, _]) (xs := KL ((s.take i).map Zu)) (row := row) (n := i) (sz := 7) (b := 88) (news := [_, _, _, _, _, _, _]) (List.perm_append_comm (l₁ := [_, _, _])) rfl rfl rfl rfl (kn 0 rfl) rfl rfl rfl rfl rfl m7 rfl rfl rfl m7 hrow m0 m0 fun ra cap sp hra => ?_
  refine GQ ?_; refine kB ?_; exact DH
 ·refine NK ?_
  have honeV : ([.int .u64 0, .int .u64 0, .int .u64 0, .int .u64 0, .slice none 0 0, J3 i row, .int .i64 0] : List Value).all Va = true := by cases row <;> rfl
  exact NH
section
variable {c : Cx} {l : Kx} {L : Jp} {X : XP} {Q : Exit → Act → List Frame → World → Prop} {d : List Deferred} {cs : List Frame}
variable {ops : Array Oper} {rest : List Nat} {k : Nat} {o : Oper}
theorem yf (h : HS c d l L X ops rest cs Q) : HQ c d l L X ((fun e a w => e = Exit.normal ∧ wpOpsSIn (FW none) 0 c.P ops Q rest a cs w) .normal) := fun a w hf hs => ⟨rfl, h a w hf hs⟩
theorem Jcw (ho : WR ops.toList k = some o) (hp : ∀ (ρ : Operand → Value) w x w', (execOp ρ o).run c.P w = .ok x w' → (∃ v, x = .value v) ∨ x = .skip) (hn : KI o.op = true) (hro : c.ro = none) (h : HL c d l L X ops [o] (fun e a w => e = Exit.normal ∧ wpOpsSIn (FW none) 0 c.P ops Q rest a cs w)) : HS c d l L X ops (k :: rest) cs Q := fun a w hf hs => by
 have hk : ops[k]? = some o := by rw [← QX ho]
 have h1 := h a w hf hs
 unfold wpListIn at h1
 simp only [wpOpsSIn, hk]; refine ⟨Qo, ?_⟩
 by_cases hw : Region.wanted o (yielded ops a.tmps) = true
 ·rw [if_pos hw] at h1 ⊢
  obtain ⟨_, h2⟩ := h1
  rw [Oper.semAt_eq _ _ _ (WT hn)] at h2
  cases e : (execOp a.eval o).run c.P w with
  | ok x w' =>
   rw [e] at h2
   rcases hp a.eval w x w' e with ⟨v, rfl⟩ | rfl
   ·exact h2.2
   ·exact h2.2
  | halt x w' =>
   rw [e] at h2
   cases x with
   | panic v => exact absurd h2.1 mh
   | _ => exact h2.elim
 ·rw [if_neg hw] at h1 ⊢
  exact h1.2.2
theorem wj  {t : TypeId} (ρ : Operand → Value) (w : World) (x : Next) (w' : World) (h : (execOp ρ ⟨dst, .alloc t, ty, ps, af, gd⟩).run P w = .ok x w') : (∃ v, x = .value v) ∨ x = .skip := by
 simp only [execOp, Sem.run_bind] at h
 cases e : (Instr.alloc t true (.tuple #[])).run P w with
 | ok v w2 => rw [e] at h; simp [Result.andThen] at h; exact .inl ⟨v, h.1.symm⟩
 | halt v w2 => rw [e] at h; simp [Result.andThen] at h
theorem wk  {t : TypeId} {a b : Operand} (ρ : Operand → Value) (w : World) (x : Next) (w' : World) (h : (execOp ρ ⟨dst, .store t a b, ty, ps, af, gd⟩).run P w = .ok x w') : (∃ v, x = .value v) ∨ x = .skip := by
 simp only [execOp, Sem.run_bind] at h
 cases e : (Instr.storeAt t (ρ a) (ρ b)).run P w with
 | ok v w2 => rw [e] at h; simp [Result.andThen] at h; exact .inr h.1.symm
 | halt v w2 => rw [e] at h; simp [Result.andThen] at h
end
def gT (rv re : Nat) (V : Array Value) (e : Int) : Jp := [(rv, .cells V 81 (0, 0)), (re, .cells #[.int .i64 e] 27 (0, 0))]
abbrev VZ0 : Array Value := #[.int .u64 0, .int .u64 0, .int .u64 0, .int .u64 0, .slice none 0 0, .slice none 0 0, .int .i64 0]
theorem J1r (rv re : Nat) (hne : rv ≠ re) (V : Array Value) (hV : V.size = 7) (e0 : Int) (w : World) (hT : wm (gT rv re V e0) w) : CallsDIn (FW none) 0 Tryz.prog 92 [Vk rv, Vk re].toArray .returning w (fun e u' w' => (∃ x, e = .returned x) ∧ settle u' = .returning ∧ Keep [rv, re] w w' ∧ wm (gT rv re V e0) w') := by
 refine q4 (cxT Tryz.prog w (gT rv re V e0) [] Tryz.f92.ntmps) Tryz.func92 rfl rfl rfl rfl (L := gT rv re V e0) (X := fun _ _ => True) (St.startT hT (fun p hp => nomatch hp) (List.pairwise_pair.2 hne) (fun p hp => nomatch hp)) fun c₀ cs hu => ?_
 obtain ⟨hrv, hrc⟩ := Jp6 (cs := cs) hu
 refine Jju fun K hK => zj ?_; change HS _ _ _ _ _ _ [0, 1, 2, 3, 4, 5, 6, 7] _ _; refine zk rfl rfl rfl rfl (fun a w hf => rfl) hrv hrc (xw rfl rfl rfl rfl (Ju rfl rfl rfl) (xw rfl rfl rfl rfl (Jg rfl) (xw rfl rfl rfl rfl (Qi rfl rfl) (xw rfl rfl rfl rfl (Qi rfl rfl) (Jcw rfl wj rfl rfl (LN rfl fun r2 => KX (yf ?_))))))); refine Jcw rfl wk rfl rfl (Vr (k := 0) (n := 1) (cs' := #[_]) (vs := #[_]) rfl rfl rfl rfl rfl rfl rfl mH rfl rfl (KX (yf ?_))); refine xw rfl rfl rfl rfl (JA rfl) (Jp3 (hK _ _ _ _ _ (Jp2 rfl ?_))); clear hK K; refine sR fun _ hK1 => Vb rfl (nK hK1 (JI rfl (fun g => ?_) (fun g => ?_)))
 try exact Bool.noConfusion g
 ·try simp only [ZZ] at g
  refine wv (xY (u' := .returning) rfl rfl rfl .nil (fun w1 hs1 => ?_)); refine ⟨⟨_, rfl⟩, rfl, by have := hs1.keep; simpa [cxT, gT] using this, fun p hp => ?_⟩; exact (hs1.own p (List.mem_cons_of_mem _ hp)).2.2
theorem J1s (rv re : Nat) (hne : rv ≠ re) (V : Array Value) (hV : V.size = 7) (e0 : Int) (e1 : Int) (w : World) (hT : wm (gT rv re V e0) w) : CallsDIn (FW none) 0 Tryz.prog 92 [Vk rv, Vk re].toArray (.panicking (zi (wrV e1))) w (fun e u' w' => (∃ x, e = .returned x) ∧ settle u' = .returning ∧ Keep [rv, re] w w' ∧ wm (gT rv re VZ0 e1) w') := by
 refine q4 (cxT Tryz.prog w (gT rv re V e0) [] Tryz.f92.ntmps) Tryz.func92 rfl rfl rfl rfl (L := gT rv re V e0) (X := fun _ _ => True) (St.startT hT (fun p hp => nomatch hp) (List.pairwise_pair.2 hne) (fun p hp => nomatch hp)) fun c₀ cs hu => ?_
 obtain ⟨hrv, hrc⟩ := Jp5 (cs := cs) hu
 refine Jju fun K hK => zj ?_; change HS _ _ _ _ _ _ [0, 1, 2, 3, 4, 5, 6, 7] _ _; refine zk rfl rfl rfl rfl (fun a w hf => rfl) hrv hrc (xw rfl rfl rfl rfl (Ju rfl rfl rfl) (xw rfl rfl rfl rfl (Jg rfl) (xw rfl rfl rfl rfl (Qi rfl rfl) (xw rfl rfl rfl rfl (Qi rfl rfl) (Jcw rfl wj rfl rfl (LN rfl fun r2 => KX (yf ?_))))))); refine Jcw rfl wk rfl rfl (Vr (k := 0) (n := 1) (cs' := #[_]) (vs := #[_]) rfl rfl rfl rfl rfl rfl rfl mH rfl rfl (KX (yf ?_))); refine xw rfl rfl rfl rfl (JA rfl) (Jp3 (hK _ _ _ _ _ (Jp2 rfl ?_))); clear hK K; refine sR fun _ hK1 => Vb rfl (nK hK1 (JI rfl (fun g => ?_) (fun g => ?_)))
 try simp only [ZZ] at g
 refine JD [(r2, .cells #[.int .i64 e1] 113 (0, 0))] [(0, .pure), (1, .pure), (2, .pure), (3, .turn), (4, .turn)] 5 [0, 1, 2, 3, 4] m5 m5 m6 (Jk (k := 0) rfl rfl rfl rfl rfl (fun _ hS => (J5 (r := [_, _, _, _, _, _, _]) rfl rfl)) ?_)
 refine Jk (k := 1) rfl rfl rfl rfl rfl (fun _ hS => (Jw rfl rfl rfl)) (Jk (k := 2) rfl rfl rfl rfl rfl (fun _ hS => (Jd rfl (.inl (hS _ (Kh (n := 0) rfl))) rfl rfl)) (vP (k := 3) (q := 1) (n := 7) (ys := [.int .u64 0, .int .u64 0, .int .u64 0, .int .u64 0, .slice none 0 0, .slice none 0 0, .int .i64 0]) rfl rfl rfl rfl rfl rfl rfl rfl hV rfl rfl (by simp [SubS]) ?_))
 refine Xk (k := 4) (q := 2) rfl rfl rfl rfl rfl rfl rfl rfl rfl mi mj m6 (Kc (KX (xY (u' := .panicking [{ v := wrV e1, recovered := true }]) rfl rfl rfl .nil (fun w1 hs1 => ?_)))); refine ⟨⟨_, rfl⟩, rfl, by have := hs1.keep; simpa [cxT, gT] using this, fun p hp => ?_⟩; exact (hs1.own p (List.mem_cons_of_mem _ hp)).2.2
 ·try exact Bool.noConfusion g
theorem Jsk (t : Ty) (s : BS) : (Qg t s).2 ≠ 0 → (Qg t s).1 = v0L := by
 obtain ⟨k, n, p, ins⟩ := t
 rw [Qg]
 unfold jT Jcm
 dsimp only
 repeat' split
 all_goals first | (intro _; rfl) | (intro h; exact absurd rfl h)
def getR (t : Ty) (s : BS) : Vl × Int := if Vp t 0 ≠ 0 then (v0L, Vp t 0) else if 65536 < s.length then (v0L, 5) else Qg t s
theorem Jsl : Vl.In [] v0L := .mk u0 u0 u0 u0 m7 rfl m7 rfl i0 (fun x hx => nomatch hx)
section
variable {c : Cx} {l : Kx} {L L0 : Jp} {X : XP} {d : List Deferred} {fn : Func} {R : Ending → World → Prop} {rv re : Nat} {V : Array Value} {e0 e1 : Int}
theorem zR (hs : St c (gT rv re V e0 ++ L0) X w) : wm (gT rv re V e0) w ∧ rv ≠ re := ⟨fun p hp => (hs.own p (List.mem_append_left _ hp)).2.2, by
 have := (List.pairwise_append.1 hs.distinct).1
 exact (List.pairwise_cons.1 this).1 _ (List.mem_singleton_self _)⟩
theorem Jkx {V' : Array Value} {w' : World} (hs : St c (gT rv re V e0 ++ L0) X w) (hk : Keep [rv, re] w w') (hT : wm (gT rv re V' e1) w') : St c (gT rv re V' e1 ++ L0) X w' := by
 obtain ⟨_, hne⟩ := zR hs
 refine hs.turnT (by simpa [gT] using hk) (fun p hp => ⟨.inl ?_, hT p hp⟩) (List.pairwise_pair.2 hne)
 rcases List.mem_cons.1 hp with rfl | hp
 ·simp [gT]
 ·rw [List.mem_singleton.1 hp]; simp [gT]
theorem Jyc (hP : c.P = Tryz.prog) (hp : L.Perm (gT rv re V e0 ++ L0)) (hV : V.size = 7) (h : HQ c d l (gT rv re V e0 ++ L0) X (bodyPostM (FW none) 0 Tryz.prog fn R .ret)) : HQ c (dF 92 [Vk rv, Vk re] :: d) l L X (bodyPostM (FW none) 0 Tryz.prog fn R .ret) :=
 WM hp (Jy5 (enters_of Tryz.func92 m5 rfl) (fun w hs => CallsDIn.mono (J1r rv re (zR hs).2 V hV e0 w (zR hs).1) fun _ _ _ ⟨h1, h2, h3, h4⟩ => ⟨h1, h2, Jkx hs h3 h4⟩) h)
theorem Jyd (hP : c.P = Tryz.prog) (hd : d = []) (hp : L.Perm (gT rv re V e0 ++ L0)) (hV : V.size = 7) (h : HQ c d l (gT rv re VZ0 e1 ++ L0) X (bodyPostM (FW none) 0 Tryz.prog fn R .ret)) : HQ c (dF 92 [Vk rv, Vk re] :: d) l L X (bodyPostM (FW none) 0 Tryz.prog fn R (.panic (zi (wrV e1)))) :=
 WM hp (Jvb (enters_of Tryz.func92 m5 rfl) (fun w hs => CallsDIn.mono (J1s rv re (zR hs).2 V hV e0 e1 w (zR hs).1) fun _ _ _ ⟨h1, h2, h3, h4⟩ => ⟨h1, h2, Jkx hs h3 h4⟩) h)
end
set_option maxHeartbeats 1000000 in
theorem J1t (ht : t.In R) (s : BS) : PureT (α := VR (getR t s).1) Tryz.prog 60 [t.val, Jy s].toArray (fun y => .tuple #[y.x.val, .int .i64 (getR t s).2]) [] (fun y => y.L) R := by
 have hC := Jb7 ht
 have hG := J1o ht (s := s)
 have hbd := Jsk t s
 have hg0 : Vp t 0 ≠ 0 → getR t s = (v0L, Vp t 0) := fun h => by unfold getR; rw [if_pos h]
 have hg1 : Vp t 0 = 0 → 65536 < s.length → getR t s = (v0L, 5) := fun h h2 => by unfold getR; rw [if_neg (by rw [h]; decide), if_pos h2]
 have hg2 : Vp t 0 = 0 → ¬ 65536 < s.length → getR t s = Qg t s := fun h h2 => by unfold getR; rw [if_neg (by rw [h]; decide), if_neg h2]
 generalize hcz : Vp t 0 = z at hC hG hg0 hg1 hg2
 obtain ⟨k, n, p, ins⟩ := t
 refine JE Tryz.func60 rfl rfl fun w => NA fun r1 r2 => ?_; refine LN rfl fun r3 => GU ?_; refine GP ?_; refine Jp0 (caps := [Vk r2, Vk r3]) rfl rfl rfl ?_ rfl; refine kB ?_; refine E0 ?_; refine Jc rfl rfl rfl Jzf hC oR (HN ?_); refine cD (fun g => ?_) fun g => ?_
 ·refine kj ?_; refine g8 ?_; refine DL ?_
  refine Eo ?_
  refine kq ?_; refine Ge ?_
  (refine Jyc (L0 := [_]) rfl (List.Perm.swap _ _ _) rfl ?_
   refine Jn rfl rfl (.cons (J4 (vs := [_, _, _, _, _, _, _]) rfl (kn 0 rfl) rfl rfl) (.cons (Qj rfl (kn 1 rfl) rfl rfl) .nil)) (fun w1 hs1 => ?_)
   exact ⟨⟨v0L, [], Jsl, by rw [hg0 m9]; rfl⟩, congrArg (fun z => Ending.returned (Value.tuple #[v0L.val, .int .i64 z])) (congrArg Prod.snd (hg0 m9)).symm, hs1.weakL (List.nil_sublist _)⟩)
 ·refine Da ?_
  have hz : z = 0 := by assumption
  refine kj ?_; refine kG ?_; refine D0 ?_; refine Ql rfl rfl rfl jB (We (_) 5) oN (fun hok _ => ?_) (fun v hv => by obtain ⟨hvb, rfl⟩ := hv; refine Jyd (e1 := 5) (L0 := [_]) rfl rfl (List.Perm.swap _ _ _) rfl ?_; refine Jn rfl rfl (.cons (J4 (vs := [_, _, _, _, _, _, _]) rfl (kn 0 rfl) rfl rfl) (.cons (Qj rfl (kn 1 rfl) rfl rfl) .nil)) (fun w1 hs1 => ?_); exact ⟨⟨v0L, [], Jsl, by rw [hg1 hz (by have := Z2.1 hvb; omega)]; rfl⟩, congrArg (fun z => Ending.returned (Value.tuple #[v0L.val, .int .i64 z])) (congrArg Prod.snd (hg1 hz (by have := Z2.1 hvb; omega))).symm, hs1.weakL (List.nil_sublist _)⟩)
  have hl : ¬ 65536 < s.length := by have := Z1.mp hok; omega
  refine XO 6 [2] rfl rfl (Ql rfl rfl rfl Jqc (hG hz m0) oR (fun hok y => ?_) (fun v hv => by obtain ⟨hvb, rfl⟩ := hv; refine Jyd (e1 := (Qg (.mk k n p ins) s).2) (L0 := [_]) rfl rfl (List.Perm.swap _ _ _) rfl ?_; refine Jn rfl rfl (.cons (J4 (vs := [_, _, _, _, _, _, _]) rfl (kn 0 rfl) rfl rfl) (.cons (Qj rfl (kn 1 rfl) rfl rfl) .nil)) (fun w1 hs1 => ?_); exact ⟨⟨v0L, [], Jsl, by rw [hg2 hz hl, hbd hvb]; rfl⟩, congrArg (fun z => Ending.returned (Value.tuple #[v0L.val, .int .i64 z])) (congrArg Prod.snd (hg2 hz hl)).symm, hs1.weakL (List.nil_sublist _)⟩))
  obtain ⟨⟨ya, yb, yc, yd, ybits, ypb, yitems, ypi, ypick⟩, yL, yok, yer⟩ := y
  refine Dt ?_
  refine Eo ?_
  refine kq ?_; refine Ha ?_
  (refine Jyc (L0 := _ :: yL) rfl (List.Perm.swap _ _ _) rfl ?_
   refine Jn rfl rfl (.cons (J4 (vs := [_, _, _, _, _, _, _]) rfl (kn 0 rfl) rfl rfl) (.cons (Qj rfl (kn 1 rfl) rfl rfl) .nil)) (fun w1 hs1 => ?_)
   exact ⟨⟨.mk ya yb yc yd ybits ypb yitems ypi ypick, yL, yok, by rw [hg2 hz hl]; exact yer⟩, congrArg (fun z => Ending.returned (Value.tuple #[Vl.val (.mk ya yb yc yd ybits ypb yitems ypi ypick), .int .i64 z])) ((congrArg Prod.snd (hg2 hz hl)).trans hok).symm, hs1.weakL (.cons _ (.cons _ (.cons _ (List.Sublist.refl _))))⟩)
section
variable {c : Cx} {l : Kx} {L E : Jp} {X : XP} {Q : Exit → Act → World → Prop} {d : List Deferred}
variable {ops : Array Oper} {rest : List Nat} {i k : Nat} {v : Value} {o : Oper} {tb : qp} {S : Jp} {T : Jp → Act → Prop}
theorem Jsm  {T0 L0 : Jp}
  (hp : E.Perm (T0 ++ L0)) (hk : WR ops.toList k = some ⟨some i, .call ⟨.value f, args, at_⟩, ty, ps, af, gd⟩) (hg : Kv l ops ⟨some i, .call ⟨.value f, args, at_⟩, ty, ps, af, gd⟩ = some true) (hi : Nat.ble (i + 1) c.n = true) (hA : tb k = .turn) (hca : KT l f args = some (g, vs)) (eg : Enters c.P g)
  (hpt : PureT c.P g vs.toArray V T0 LL Rl) (hR : ∀ p ∈ Rl, known c L0 p.1 p.2) (hS : ∀ x, SubS S (LL x ++ L0)) (h : ∀ x, HB c d ((i, V x) :: l) (LL x ++ L0) X S ops tb rest T) : HB c d l E X S ops tb (k :: rest) T := fun a hf => by
 refine ⟨_, QX hk, ?_⟩; rw [hA]; refine .inl ⟨α, V, fun x => LL x ++ L0, ⟨JH hf hg, fun w hs => ?_⟩, fun x => ⟨hS x, h x _ (hf.put (Nat.le_of_ble_eq_true hi))⟩⟩
 have hs := hs.perm hp
 obtain ⟨hd1, _, hd3⟩ := List.pairwise_append.1 hs.distinct
 refine XN hf hca eg ((hpt.run w (fun p hp => (hs.own p (List.mem_append_left _ hp)).2.2) (fun p hp => ?_) hd1 (fun p hp q hq => ?_)).mono fun _ _ ⟨x, he, hk, h1, h2⟩ => ⟨V x, he, x, rfl, hs.turnT hk h1 h2⟩)
 ·exact (hR p hp).elim (fun h => (hs.own _ (List.mem_append_right _ h)).2.2) hs.readR
 ·rcases hR p hp with h | h
  ·exact fun e => hd3 q hq _ h e.symm
  ·rintro e
   obtain ⟨h1, _, h3⟩ := hs.ext _ h
   have h3 := J1 h3
   rcases (hs.own q (List.mem_append_left _ hq)).1 with h4 | h4
   ·exact h1 (e ▸ h4)
   ·simp only at h3 e; omega
end
theorem J1u {n : Nat} {xs : List Value} (h : xs.length = n) : rowOk 1 n xs (some (0, n, [])) := ⟨by rw [h, Nat.mul_one], by simp⟩
theorem Jsn {k n : Int} {p : Pl} {ins : List Ty} {items : List Vl} (ht : Ty.In R (.mk k n p ins)) (h8 : k ≠ 8) (hs : Seg R items.length (KL items) pi) (hl : items.length ≤ 600) (hx : ∀ i, i < items.length → VF k 0 i < ins.length)
  (hb : ∀ (i : Nat) x, items[i]? = some x → PureR Tryz.prog 85 [(JF k 0 ins i).val, x.val].toArray (Jy (KD x (JF k 0 ins i))) R) :
  PureT (α := { row : Vn // rowOk 1 items.length (VH (Kf items k 0 ins 0)) row }) Tryz.prog 135 [Ty.val (.mk k n p ins), KE items.length pi].toArray (fun x => J3 items.length x.1) [] (fun x => JJ 9 (VH (Kf items k 0 ins 0)) x.1) R := by
 cases ht with
 | @mk k n p ins hk hn hlt hst hit =>
 have hRL := VG items k 0 ins 0
 obtain ⟨RS, hRS⟩ : ∃ x, x = Kf items k 0 ins 0 := ⟨_, rfl⟩
 have htk := fun i x (h : items[i]? = some x) => jR k ins (i := 0) h
 simp only [← hRS, Nat.zero_add] at htk; rw [← hRS] at hRL ⊢; refine JE Tryz.func135 rfl rfl fun w => Nl fun r1 => ?_; refine JK 12 rfl (HU ?_); refine Js (σ := Nat × Vn) (fun q => q.1 ≤ items.length ∧ rowOk 1 q.1 (VH (RS.take q.1)) q.2) (fun q => [(2, Vk r1), (5, J3 q.1 q.2), (9, KE items.length pi), (10, .int .i64 (items.length : Int)), (11, .int .i64 (q.1 : Int))]) (fun q => VM r1 (.mk k n p ins) :: JJ 9 (VH (RS.take q.1)) q.2) (fun _ _ _ => True) (fun q => items.length - q.1) (0, none) ⟨Nat.zero_le _, by rw [List.take_zero]; exact ⟨rfl, rfl⟩⟩ (lK rfl) (List.Sublist.refl _) (fun _ _ h => h) ?_; rintro ⟨i, row⟩ ⟨hi1, hrow⟩; simp only at hi1 hrow; change HC _ _ [(2, _), (5, J3 i row), (9, _), (10, _), (11, .int .i64 (i : Int))] ((r1, _) :: JJ _ (VH (RS.take i)) row) _ _ _; refine NK ?_; refine cD (fun h7 => ?_) fun h7 => ?_
 ·refine gr ?_
  have hil : i < items.length := by omega
  have hix := VK hil
  have hbi := hb i _ hix.1
  have hty := KC (hx i hil)
  have hi0 : 0 < ins.length := Nat.lt_of_le_of_lt (Nat.zero_le _) (hx i hil)
  have hy0 : ins[0]? = some (ins.getD 0 default) := by rw [List.getD_eq_getElem?_getD, List.getElem?_eq_getElem hi0]; rfl
  have htki := htk i _ hix.1
  obtain ⟨sv, hsv⟩ : ∃ x, x = KD (X0 items i) (JF k 0 ins i) := ⟨_, rfl⟩
  rw [← hsv] at hbi htki; refine kj ?_
  refine Ht fun rv => ?_; refine Vb rfl (Jv (k := 0) (n := 7) (ys := (X0 items i).cells) rfl rfl rfl rfl rfl (X0 items i).len rfl (X0 items i).one rfl (XO 6 [1] rfl rfl ?_)); refine LR rfl (Jf (j := 0) rfl hst rfl rfl rfl rfl m0) (LR rfl (Ko oR rfl hst hy0 rfl rfl) (KK (cs := #[.int .i64 0, .int .i64 0, .slice none 0 0]) rfl rfl rfl rfl fun rt => Jv (k := 0) (n := 3) (ys := (ins.getD 0 default).cells) rfl rfl rfl rfl rfl (ins.getD 0 default).len rfl (ins.getD 0 default).one rfl (Goc 10 [2] rfl rfl (cD (fun g => ?_) fun g => ?_))))
  ·refine E6 ?_; refine LR rfl (Jf (j := VF k 0 i) rfl hst rfl rfl rfl (by unfold VF; rw [if_pos m9]) (hx i hil)) (LR rfl (Ko oR rfl hst hty.1 rfl rfl) (Jv (k := 0) (n := 3) (ys := (JF k 0 ins i).cells) rfl rfl rfl rfl rfl (JF k 0 ins i).len (by rw [List.size_toArray]; exact Ty.len _) (JF k 0 ins i).one rfl (HY ?_)))
   (have h7 : k = 7 := by assumption
    skip)
   refine kj ?_; refine Dm ?_; refine GB fun r2 => ?_; exact kS
  ·refine J9 2 rfl ?_
   (have h7 : ¬ k = 7 := by assumption
    have e : ins.getD 0 default = JF k 0 ins i := by unfold JF VF; rw [if_neg h7, if_neg h8]
    rw [e])
   refine kj ?_; refine Dm ?_; refine J8 (vs := [_]) (zs := [_]) (r := [_]) rfl rfl rfl rfl rfl rfl rfl rfl rfl mf rfl fun r3 => ?_; exact kS
 ·refine NK ?_
  obtain rfl : i = items.length := by omega
  rw [List.take_of_length_le m0] at hrow ⊢; refine KQ 6 rfl (ke fun w1 hs1 => ?_); exact ⟨⟨row, hrow⟩, rfl, hs1.weakL (.cons _ (List.Sublist.refl _))⟩
abbrev Z0 (l : List BS) : Type := { row : Vn // rowOk 1 l.length (VH l) row }
def jf (l : List BS) : Z0 l := ⟨some (0, l.length, []), J1u (by unfold VH; rw [List.length_map])⟩
abbrev rV {l : List BS} (x : Z0 l) : Value := KE l.length (Qv x.1)
abbrev rL {l : List BS} (x : Z0 l) : Jp := JJ 9 (VH l) x.1
theorem J1v {l : List BS} (x : Z0 l) : rV x = J3 l.length x.1 := Vw _ _ fun h => by
 have h2 := x.2
 rw [h] at h2; exact h2.1
theorem Jcx (l : List BS) : (fun x : Z0 l => rV x) = fun x => J3 l.length x.1 := funext fun x => J1v x
theorem Jso (hl : s.length ≤ 1000000) : PureT (α := Z0 (Wv s)) Tryz.prog 172 [Jy s].toArray (fun x => rV x) [] (fun x => rL x) [] := by
 have h := J1i hl
 rw [← Yb] at h; rw [Jcx]; exact h
theorem Ye (hl : s.length ≤ 1000000) : PureT (α := Z0 (Wv s)) Tryz.prog 90 [Jy s].toArray (fun x => rV x) [] (fun x => rL x) [] := by
 have h := Jm6 hl
 rw [← Yb] at h; rw [Jcx]; exact h
theorem Jar {k n : Int} {p : Pl} {ins : List Ty} {items : List Vl} (ht : Ty.In R (.mk k n p ins)) (h8 : k ≠ 8) (hs : Seg R items.length (KL items) pi) (hl : items.length ≤ 600) (hx : ∀ i, i < items.length → VF k 0 i < ins.length)
  (hb : ∀ (i : Nat) x, items[i]? = some x → PureR Tryz.prog 85 [(JF k 0 ins i).val, x.val].toArray (Jy (KD x (JF k 0 ins i))) R) :
  PureT (α := Z0 (Kf items k 0 ins 0)) Tryz.prog 135 [Ty.val (.mk k n p ins), KE items.length pi].toArray (fun x => rV x) [] (fun x => rL x) R := by
 have h := Jsn ht h8 hs hl hx hb
 rw [Jcx]
 have e := VG items k 0 ins 0
 generalize Kf items k 0 ins 0 = RS at h e ⊢
 rw [← e] at h; rw [← e]; exact h
theorem Jsp (t : Ty) : Pure Tryz.prog 171 [t.val].toArray (.bool (WI t)) := by
 obtain ⟨k, n, p, ins⟩ := t
 refine Jz Tryz.func171 rfl rfl fun w => Nl fun r1 => ?_; refine XO 9 [0] rfl rfl ?_
 refine Jo 6 rfl (fun gb => ?_) (fun gb => ?_) <;> (try simp only [ZZ] at gb) <;> first | (refine LR rfl (Jw rfl rfl rfl) ?_) | (refine LK rfl ?_)
 all_goals (
  refine LW 4 [0] rfl rfl (J0 1 rfl (X6 2 rfl ?_)); refine Nk fun w1 hs1 => ?_
  simp_all [J6, WI, Ty.k]
  all_goals first | done | rfl
  skip)
theorem Jz1 (n : Nat) : ((n + 7) / 8 + 31) / 32 = (n + 255) / 256 := by omega
theorem Jky {l : List Bool} {k : Int} {n : Nat} {p : Pl} {ins : List Ty} (hl : l.length ≤ n) (hn : n ≤ 512) (hs : Seg R l.length (Qd l) pb) :
  PureR Tryz.prog 131 [Ty.val (.mk k (n : Int) p ins), KE l.length pb].toArray (Jy (QR (Wv (V9 l)) ((n + 255) / 256))) R := by
 obtain ⟨N, hN⟩ : ∃ N, N = (l.length + 7) / 8 := ⟨_, rfl⟩
 have hpB : V9 l = KG l N l.length := by rw [hN]; rfl
 have hnb := j6 (bits := l) (n := (n : Int)) m0
 rw [Int.toNat_natCast] at hnb
 have hc32 := VX (V9 l)
 have hcut := Jso (s := V9 l) (by rw [WZ]; omega)
 rw [hpB] at hnb hc32 hcut ⊢; refine Ja Tryz.func131 rfl rfl fun w => Nl fun r1 => ?_; refine G1 ?_; refine NE ?_
 refine D0 ?_; refine Gn fun rm => ?_; refine Gq ?_; refine HU ?_; refine Js (σ := Nat) (fun i => i ≤ l.length) (fun i => [(2, Vk r1), (5, .slice (some ⟨rm, 0, none⟩) N N), (14, KE l.length pb), (15, .int .i64 (l.length : Int)), (16, .int .i64 (i : Int))]) (fun i => [(rm, .cells ((KG l N i).map bV).toArray 5 (0, 0)), VM r1 (.mk k (n : Int) p ins)]) (fun _ _ _ => True) (fun i => l.length - i) 0 (Nat.zero_le _) (lK rfl) (List.Sublist.refl _) (fun _ _ h => h) ?_; intro i hi1; change HC _ _ _ ((rm, _) :: (r1, _) :: []) _ _ _; refine NK ?_; refine cD (fun g => ?_) fun g => ?_
 ·refine gr ?_
  have hil : i < l.length := by omega
  have hi8 : i / 8 < N := by omega
  have hyb : l[i]? = some (l.getD i false) := by rw [List.getD_eq_getElem?_getD, List.getElem?_eq_getElem hil]; rfl
  refine kj ?_
  refine gn ?_; refine LR rfl (WX oR rfl hs hyb rfl) (HN ?_); refine cD (fun g => ?_) fun g => ?_
  ·have hbt : l.getD i false = true := by assumption
   have hst1 : KG l N (i + 1) = (KG l N i).set (i / 8) (UInt8.ofNat (((KG l N i).getD (i / 8) 0).toNat ||| 2 ^ (i % 8))) := by rw [KG, if_pos hbt]
   obtain ⟨Y, hY⟩ : ∃ Y, Y = KG l N i := ⟨_, rfl⟩
   have hYl : Y.length = N := by rw [hY]; exact QH l N i
   rw [← hY] at hst1 ⊢
   refine g6 ?_; refine Qw (show _ = Value.int .i64 ((i / 8 : Nat) : Int) from congrArg (Value.int .i64) mc) (gm ?_); refine Qw (show _ = Value.int .i64 ((i % 8 : Nat) : Int) from congrArg (Value.int .i64) mc) (NW ?_); refine ND ?_; exact NC
  ·refine gH ?_; refine ND ?_
   (have hst0 : KG l N (i + 1) = KG l N i := by rw [KG, if_neg mA]
    exact Jm (i + 1) m0 m0 (lK rfl) (by rw [hst0]; exact List.Sublist.refl _) (fun _ _ h => h))
 ·refine NK ?_
  obtain rfl : i = l.length := by omega
  refine JD [] [(0, .pure), (2, .grow (KA (jf (Wv (KG l N l.length))) (fun x => rV x) (fun x => rL x))), (3, .pure), (5, .pure), (6, .pure), (7, .pure), (8, .pure), (10, .pure)] 11 [0, 1, 3, 4, 5, 6, 7, 2, 8, 9, 10] m5 m5 m6 (GJ ?_); refine JY (k := 1) rfl rfl rfl rfl rfl (KB (b := KG l N l.length) (row := some (rm, N, [])) (e := 5) MB ⟨by rw [List.length_map]; omega, by rw [QH]; simp⟩ (fun p hp => .inl mP) rfl rfl rfl) ?_
  refine Jk (k := 3) rfl rfl rfl rfl rfl (fun _ hS => (Jw rfl rfl rfl)) (JY (k := 4) rfl rfl rfl rfl rfl (Jd rfl (kn 1 rfl) rfl rfl) ?_)
  refine Jk (k := 5) rfl rfl rfl rfl rfl (fun _ _ => (Ju rfl rfl rfl)) (Qw (show _ = Value.int .i64 ((n + 8 : Nat) : Int) from congrArg (Value.int .i64) mc) ?_)
  refine Jk (k := 6) rfl rfl rfl rfl rfl (fun _ _ => (Ju rfl rfl rfl)) (Qw (show _ = Value.int .i64 ((n + 7 : Nat) : Int) from congrArg (Value.int .i64) mc) ?_)
  refine Jk (k := 7) rfl rfl rfl rfl rfl (fun _ _ => (Ju rfl rfl rfl)) (Qw (show _ = Value.int .i64 (((n + 7) / 8 : Nat) : Int) from congrArg (Value.int .i64) mc) (JS (k := 2) rfl rfl rfl rfl rfl (enters_of Tryz.func172 m5 rfl) hcut oN fun x => Vi (k := 8) rfl rfl rfl rfl rfl (enters_of Tryz.func173 m5 rfl) (Jr0 (n := (n + 7) / 8) m0) ?_)); rw [Jz1]; refine JU (k := 9) rfl rfl rfl rfl rfl Jjz (wO hnb m0 (Ke x.2 m7) hc32) (fun q hq => .inl (List.mem_append_left _ hq)) (Jk (k := 10) rfl rfl rfl rfl rfl (fun _ hS => (JA rfl)) (Kc ?_)); exact DR
section
variable {c : Cx} {l : Kx} {L E : Jp} {X : XP} {Q : Exit → Act → World → Prop} {d : List Deferred}
variable {ops : Array Oper} {rest : List Nat} {i k : Nat} {v : Value} {o : Oper} {tb : qp} {S : Jp} {T : Jp → Act → Prop}
theorem Jne
  (hk : WR ops.toList k = some ⟨some i, .call ⟨.value f, args, at_⟩, ty, ps, af, gd⟩) (hg : Kv l ops ⟨some i, .call ⟨.value f, args, at_⟩, ty, ps, af, gd⟩ = some true) (hi : Nat.ble (i + 1) c.n = true) (hA : tb k = .pure) (hca : KT l f args = some (g, vs)) (eg : Enters c.P g)
  (hp : PureR c.P g vs.toArray v Rl) (hR : ∀ p ∈ Rl, p ∈ S ∨ p ∈ c.R) (h : HB c d ((i, v) :: l) E X S ops tb rest T) : HB c d l E X S ops tb (k :: rest) T := fun a hf => by
 refine ⟨_, QX hk, ?_⟩; rw [hA]; exact ⟨v, .inl ⟨JH hf hg, fun E' hE' w hs => XN hf hca eg ((hp.run w fun p hp => (hR p hp).elim (fun h => (hs.own _ (hE' p h)).2.2) hs.readR).mono fun _ _ ⟨he, hk⟩ => ⟨v, he, rfl, hk⟩)⟩, h _ (hf.put (Nat.le_of_ble_eq_true hi))⟩
end
theorem WN {k : Int} (h7 : k ≠ 7) (h8 : k ≠ 8) (x : Ty) (i : Nat) : JF k 0 [x] i = x := by unfold JF VF; rw [if_neg h7, if_neg h8]; rfl
theorem Jas {l : List Vl} (h : l[i]? = some v) : WJ (l.take (i + 1)) x = WJ (l.take i) x ++ Vj v x := by
 unfold WJ
 rw [List.take_add_one, h]
 simp
theorem Jcy {x : Ty} : ∀ {l : List Vl}, (∀ v ∈ l, (Vj v x).length ≤ 32) → (WJ l x).length ≤ 32 * l.length
 | [], _ => by unfold WJ; simp
 | v :: l, h => by
  have ih := Jcy (l := l) fun y hy => h y (List.mem_cons_of_mem _ hy)
  have h1 := h v List.mem_cons_self
  unfold WJ at ih ⊢
  rw [List.map_cons, List.flatten_cons, List.length_append, List.length_cons]; omega
theorem Zv (hc : Vp x 0 = 0) (hp : WI x = true) (hf : Ku v x = 0) : ZY x v = (Vj v x, 0) ∧ (Vj v x).length ≤ 32 := by
 obtain ⟨f1, f2, f3, f4⟩ := YM hc hp
 have h1 := f4 v hf
 have h2 : (Vj v x).length ≤ 32 := by omega
 have h3 : Vc x v = 0 := by unfold Vc; rw [if_pos hc]; exact hf
 unfold ZY
 rw [if_neg (by rw [h3]; simp), if_neg m0]; exact ⟨rfl, h2⟩
set_option maxHeartbeats 1000000 in
theorem Jz2 {k : Int} {n : Nat} {p : Pl} {items : List Vl} (ht : Ty.In R (.mk k (n : Int) p [x0])) (h7 : k ≠ 7) (h8 : k ≠ 8) (hc : Vp x0 0 = 0) (hs : Seg R items.length (KL items) pi) (hl : items.length ≤ n) (hn : n ≤ 512)
  (hfit : ∀ v ∈ items, Ku v x0 = 0) (hw : ∀ v ∈ items, wV v ≤ 20000) (hIn : ∀ v ∈ items, v.In R)
  (hb : ∀ (i : Nat) x, items[i]? = some x → PureR Tryz.prog 85 [x0.val, x.val].toArray (Jy (KD x x0)) R) :
  PureR Tryz.prog 127 [Ty.val (.mk k (n : Int) p [x0]), KE items.length pi].toArray (Jy (VY k (n : Int) [x0] items (Kf items k 0 [x0] 0))) R := by
 have hro := Jar ht h8 hs m0 (fun i _ => by unfold VF; rw [if_neg h7, if_neg h8]; exact Nat.lt_succ_self 0) (fun i x hx => by rw [WN h7 h8]; exact hb i x hx)
 have hrl := VG items k 0 [x0] 0
 have hr32 : ∀ s ∈ Kf items k 0 [x0] 0, s.length = 32 := fun s hs => by
  obtain ⟨j, x, h1, rfl⟩ := Xd hs
  rw [WN h7 h8]; exact Wa x x0 0 hc (hfit x (List.mem_of_getElem? h1))
 have hrt := fun (x : Z0 (Kf items k 0 [x0] 0)) => wO (m := n) m0 m0 (Ke (e := 9) x.2 m7) hr32
 have hM : VY k (n : Int) [x0] items (Kf items k 0 [x0] 0) = if WI x0 = true then QR (Wv (WJ items x0)) ((n * (JV x0).toNat + 31) / 32) else QR (Kf items k 0 [x0] 0) n := by
  unfold VY
  rw [if_neg h7]; rfl
 rw [hM]
 have hx0 := ht.sub x0 List.mem_cons_self
 have ht2 := ht
 cases ht with
 | @mk k n p ins hk hn2 hlt hst hit =>
 have hpl := Jsp x0
 refine Ja Tryz.func127 rfl rfl fun w => Nl fun r1 => ?_; refine XO 8 [0] rfl rfl ?_
 refine LR rfl (Jf (j := 0) rfl hst rfl rfl rfl me (Nat.lt_succ_self 0)) (LR rfl (Ko oR rfl hst M9 rfl rfl) (J2 rfl rfl rfl (enters_of Tryz.func171 m5 rfl) hpl (kU ?_))); refine cD (fun g => ?_) fun g => ?_
 refine He ?_
 refine JD [] [(1, .pure), (2, .grow (KA (jf (Kf items k 0 [x0] 0)) (fun x => rV x) (fun x => rL x))), (3, .pure), (6, .pure)] 7 [0, 1, 3, 4, 2, 5, 6] m5 m5 m6 (JY (k := 0) rfl rfl rfl rfl rfl (Ji (xs := (Ty.mk k (n : Int) p [x0]).cells) (n := 3) rfl (kn 0 rfl) rfl rfl (Ty.mk k (n : Int) p [x0]).len) (Jk (k := 1) rfl rfl rfl rfl rfl (fun _ hS => (Jg rfl)) ?_))
 refine Jk (k := 3) rfl rfl rfl rfl rfl (fun _ hS => (Jw rfl rfl rfl)) (JY (k := 4) rfl rfl rfl rfl rfl (Jd rfl (kn 0 rfl) rfl rfl) (JS (k := 2) rfl rfl rfl rfl rfl (enters_of Tryz.func135 m5 rfl) hro (fun q hq => .inr hq) fun x => JU (k := 5) rfl rfl rfl rfl rfl Jjz (hrt x) (fun q hq => .inl (List.mem_append_left _ hq)) (Jk (k := 6) rfl rfl rfl rfl rfl (fun _ hS => (JA rfl)) (Kc (DP fun w1 hs1 => ?_))))); rw [if_neg Mq]; rfl
 ·refine Da ?_
  have hp : WI x0 = true := by assumption
  obtain ⟨f1, f2, f3, f4⟩ := YM hc hp
  obtain ⟨z, hz⟩ : ∃ z, z = (JV x0).toNat := ⟨_, rfl⟩
  have hSz := Jhy hx0
  have hsz : YD x0 = (z : Int) := by unfold YD; rw [if_pos f1]; omega
  rw [hsz] at hSz
  have hnz : n * z ≤ 16384 := by
   have := Nat.mul_le_mul hn (show z ≤ 32 by omega)
   omega
  obtain ⟨C, hC⟩ : ∃ C, C = WJ items x0 := ⟨_, rfl⟩
  have hCl : C.length = items.length * z := by rw [hC]; exact ja fun v hv => by have := f4 v (hfit v hv); omega
  have hCn : C.length ≤ n * z := by rw [hCl]; exact Nat.mul_le_mul_right _ hl
  have hcn : (Wv C).length ≤ (n * z + 31) / 32 := by rw [Yb]; unfold vv; omega
  refine Dq ?_; refine LN rfl fun r2 => G1 ?_; refine HU ?_; refine Js (σ := Nat × Vn × Bool) (fun q => q.1 ≤ items.length ∧ bOk (WJ (items.take q.1) x0) q.2.1) (fun q => [(2, Vk r1), (5, Vk r2), (22, KE items.length pi), (23, .int .i64 (items.length : Int)), (24, .int .i64 (q.1 : Int))]) (fun q => X5 r2 (WJ (items.take q.1) x0) q.2.1 q.2.2 ++ [VM r1 (Ty.mk k (n : Int) p [x0])]) (fun _ _ _ => True) (fun q => items.length - q.1) (0, none, false) ⟨Nat.zero_le _, Jcj⟩ (lK rfl) (List.Sublist.refl _) (fun _ _ h => h) ?_; rintro ⟨i, row, own⟩ ⟨hi1, hb1⟩; simp only at hi1 hb1; change HC _ _ [(2, _), (5, _), (22, _), (23, _), (24, .int .i64 (i : Int))] (X5 r2 (WJ (items.take i) x0) row own ++ [VM r1 (Ty.mk k (n : Int) p [x0])]) _ _ _; refine NK ?_; refine cD (fun g => ?_) fun g => ?_
  ·refine gr ?_
   have hil : i < items.length := by omega
   have hix := VK hil
   have hpr := Zv hc hp (hfit _ hix.2)
   have hput := Jrs hx0 (hIn _ hix.2) (hw _ hix.2)
   rw [hpr.1] at hput
   have hsn := Jas (x := x0) hix.1
   have hcl := Jcy (x := x0) (l := items.take i) fun v hv => (Zv hc hp (hfit v (List.mem_of_mem_take hv))).2
   rw [List.length_take] at hcl
   have hp2 := hpr.2
   refine Dq ?_
   refine Ht fun rv => ?_; refine GA ?_; refine kU ?_; refine JR 11 m5 m5 ?_
   refine Jb rfl rfl rfl (Jw rfl rfl rfl) (Jb rfl rfl rfl (Jd (v := KE 1 p) rfl (.inl (List.mem_cons_of_mem _ (List.mem_append_right _ List.mem_cons_self))) rfl rfl) ?_)
   refine DM ?_; refine Jb rfl rfl rfl (Ji (xs := (X0 items i).cells) (n := 7) rfl (kn 0 rfl) rfl rfl (X0 items i).len) (V8 rfl rfl rfl (enters_of Tryz.func52 m5 rfl) hput oR (DB ?_)); refine GU ?_; refine VA (T := X5 r2 (WJ (items.take i) x0) row own) (L0 := _ :: [VM r1 (Ty.mk k (n : Int) p [x0])]) (Rl := []) List.perm_middle.symm rfl rfl rfl Jjw (wP hb1 (s2 := Vj (X0 items i) x0) m0) oN fun x => ?_
   obtain ⟨rowx, hbx⟩ := x
   refine kB ?_; refine ND ?_; refine jz (L' := X5 r2 (WJ (items.take (i + 1)) x0) rowx true ++ [VM r1 (Ty.mk k (n : Int) p [x0])]) (by rw [hsn]; exact (List.Sublist.refl _).append (.cons _ (List.Sublist.refl _))) ?_; exact Jm (i + 1, rowx, true) ⟨by simp only; omega, by simp only; rw [hsn]; exact hbx⟩ ml (lK rfl) (List.Sublist.refl _) (fun _ _ h => h)
  ·refine NK ?_
   obtain rfl : i = items.length := by omega
   rw [List.take_length, ← hC] at hb1; rw [List.take_length, ← hC]; refine JD [VM r1 (Ty.mk k (n : Int) p [x0])] [(0, .turn), (1, .grow (KA (jf (Wv C)) (fun x => rV x) (fun x => rL x))), (2, .pure), (3, .pure), (4, .pure), (5, .pure), (6, .pure), (7, .pure), (8, .pure), (9, .pure), (10, .pure)] 11 [2, 3, 4, 5, 6, 7, 0, 1, 8, 9, 10] m5 m5 (fun p hp => List.mem_append_right _ hp) ?_
   refine Gi ?_; refine Jk (k := 3) rfl rfl rfl rfl rfl (fun E' hS => Jd (v := .int .i64 (n : Int)) rfl (.inl (hS _ List.mem_cons_self)) rfl rfl) ?_
   refine Jk (k := 4) rfl rfl rfl rfl rfl (fun _ hS => (Jw rfl rfl rfl)) (Jk (k := 5) rfl rfl rfl rfl rfl (fun E' hS => Jd (v := KE 1 p) rfl (.inl (hS _ List.mem_cons_self)) rfl rfl) ?_)
   refine En ?_; refine Jk (k := 7) rfl rfl rfl rfl rfl (fun E' hS => Ko oR rfl hst M9 rfl rfl) (Jsm (k := 0) (T0 := X5 r2 C row own) (L0 := [VM r1 (Ty.mk k (n : Int) p [x0])]) (Rl := []) (List.Perm.refl _) rfl rfl rfl rfl rfl Jqd (Jib hb1 m0) oN (fun _ p hp => hp) fun u => JS (k := 1) rfl rfl rfl rfl rfl (enters_of Tryz.func172 m5 rfl) (Jso (s := C) m0) oN fun x => Jne (k := 8) rfl rfl rfl rfl rfl Jqj hSz (fun q hq => .inr hq) (Jk (k := 9) rfl rfl rfl rfl rfl (fun _ _ => (Ju rfl rfl rfl)) (Qw na (Vi (k := 10) rfl rfl rfl rfl rfl (enters_of Tryz.func173 m5 rfl) (Jr0 (n := n * z) m0) (Kc (Jc rfl rfl rfl Jjz (wO hcn m0 (Ke x.2 m7) (VX _)) (fun q hq => .inl (List.mem_append_left _ hq)) (DP fun w1 hs1 => ?_))))))); rw [if_pos hp]; (try rw [← hz]); (try rw [← hC]); rfl
section
variable {R : Jp} {k n : Int} {p : Pl} {ins : List Ty} {a b c d : Nat} {bits : List Bool} {pb : Pl} {items : List Vl} {pi : Pl} {pick : Int} {s : BS}
theorem J26 (h : PureR Tryz.prog 127 [Ty.val (.mk k n p ins), KE items.length pi].toArray (Jy s) R) : PureR Tryz.prog 126 [Ty.val (.mk k n p ins), Vl.val (.mk a b c d bits pb items pi pick)].toArray (Jy s) R := by
 refine Ja Tryz.func126 rfl rfl fun w => Df fun r1 r2 => ?_; refine DN ?_; refine Jc rfl rfl rfl (enters_of Tryz.func127 m5 rfl) h oR ?_; exact NS
theorem J27 (hs : Seg R items.length (KL items) pi) (h32 : s.length = 32) (hl : items.length ≤ 512) (h : PureR Tryz.prog 127 [Ty.val (.mk k n p ins), KE items.length pi].toArray (Jy s) R) : PureR Tryz.prog 128 [Ty.val (.mk k n p ins), Vl.val (.mk a b c d bits pb items pi pick)].toArray (Jy (XA s items.length)) R := by
 refine Ja Tryz.func128 rfl rfl fun w => NA fun r1 r2 => ?_; refine gL ?_; refine JU (k := 3) rfl rfl rfl rfl rfl (enters_of Tryz.func127 m5 rfl) h oR ?_; exact Eu
theorem J28 (h : PureR Tryz.prog 131 [Ty.val (.mk k n p ins), KE bits.length pb].toArray (Jy s) R) : PureR Tryz.prog 130 [Ty.val (.mk k n p ins), Vl.val (.mk a b c d bits pb items pi pick)].toArray (Jy s) R := by
 refine Ja Tryz.func130 rfl rfl fun w => Df fun r1 r2 => ?_; refine DN ?_; refine Jc rfl rfl rfl (enters_of Tryz.func131 m5 rfl) h oR ?_; exact NS
theorem J29 (hs : Seg R bits.length (Qd bits) pb) (h32 : s.length = 32) (hl : bits.length ≤ 512) (h : PureR Tryz.prog 131 [Ty.val (.mk k n p ins), KE bits.length pb].toArray (Jy s) R) : PureR Tryz.prog 132 [Ty.val (.mk k n p ins), Vl.val (.mk a b c d bits pb items pi pick)].toArray (Jy (XA s bits.length)) R := by
 refine Ja Tryz.func132 rfl rfl fun w => NA fun r1 r2 => ?_; refine gL ?_; refine JU (k := 3) rfl rfl rfl rfl rfl (enters_of Tryz.func131 m5 rfl) h oR ?_; exact Eu
theorem J3a {l : List BS} (hst : Seg R ins.length (xu ins) p) (hl : l.length ≤ ins.length) (hn : ins.length ≤ 16) (h32 : ∀ s ∈ l, s.length = 32) (h : PureT (α := Z0 l) Tryz.prog 135 [Ty.val (.mk k n p ins), KE items.length pi].toArray (fun x => rV x) [] (fun x => rL x) R) :
  PureR Tryz.prog 133 [Ty.val (.mk k n p ins), Vl.val (.mk a b c d bits pb items pi pick)].toArray (Jy (QR l ins.length)) R := by
 refine Ja Tryz.func133 rfl rfl fun w => NA fun r1 r2 => ?_; refine G5 ?_
 refine JD [] [(1, .pure), (3, .grow (KA (jf l) (fun x => rV x) (fun x => rL x))), (4, .pure), (6, .pure), (8, .pure)] 9 [0, 1, 2, 4, 5, 6, 3, 7, 8] m5 m5 m6 (NM ?_); refine JY (k := 5) rfl rfl rfl rfl rfl (Jd rfl (kn 1 rfl) rfl rfl) (Jk (k := 6) rfl rfl rfl rfl rfl (fun _ hS => (Jl rfl hst rfl)) (JS (k := 3) rfl rfl rfl rfl rfl (enters_of Tryz.func135 m5 rfl) h (fun q hq => .inr hq) fun x => JU (k := 7) rfl rfl rfl rfl rfl Jjz (wO hl m0 (Ke x.2 m7) h32) (fun q hq => .inl (List.mem_append_left _ hq)) (G3 ?_))); exact DR
theorem J3b {y : Ty} {x : Vl} (hst : Seg R ins.length (xu ins) p) (hs : Seg R items.length (KL items) pi) (hm : m ≤ 8) (hy : ins[m]? = some y) (hx : items[0]? = some x) (h32 : s.length = 32) (h : PureR Tryz.prog 85 [y.val, x.val].toArray (Jy s) R) :
  PureR Tryz.prog 136 [Ty.val (.mk k n p ins), Vl.val (.mk a b c d bits pb items pi (m : Int))].toArray (Jy (XA s m)) R := by
 have hm1 := (List.getElem?_eq_some_iff.1 hy).1
 have hm2 := (List.getElem?_eq_some_iff.1 hx).1
 refine Ja Tryz.func136 rfl rfl fun w => NA fun r1 r2 => ?_; refine G5 ?_
 refine JD [] [(0, .pure), (2, .pure), (4, .pure), (6, .pure), (8, .pure), (11, .pure), (13, .pure), (14, .pure)] 15 [0, 1, 2, 3, 4, 5, 6, 7, 8, 9, 11, 12, 10, 13, 14] m5 m5 m6 ?_
 refine NV ?_; refine JY (k := 1) rfl rfl rfl rfl rfl (Jd rfl (kn 1 rfl) rfl rfl) ?_
 refine Gi ?_; refine JY (k := 3) rfl rfl rfl rfl rfl (Jd rfl (kn 0 rfl) rfl rfl) (Jk (k := 4) rfl rfl rfl rfl rfl (fun E' hS => Jf (j := m) rfl hst rfl rfl rfl rfl hm1) (JY (k := 5) rfl rfl rfl rfl rfl (Ko oR rfl hst hy rfl rfl) ?_))
 refine Jk (k := 6) rfl rfl rfl rfl rfl (fun _ hS => (Jw rfl rfl rfl)) (JY (k := 7) rfl rfl rfl rfl rfl (Jd rfl (kn 0 rfl) rfl rfl) ?_)
 refine Jk (k := 8) rfl rfl rfl rfl rfl (fun E' hS => Jf (j := 0) rfl hs rfl rfl rfl me hm2) (JY (k := 9) rfl rfl rfl rfl rfl (KV oR rfl hs hx rfl rfl) ?_)
 refine Jk (k := 11) rfl rfl rfl rfl rfl (fun _ hS => (Jw rfl rfl rfl)) (JY (k := 12) rfl rfl rfl rfl rfl (Jd rfl (kn 0 rfl) rfl rfl) (JU (k := 10) rfl rfl rfl rfl rfl Jvk h oR (Vi (k := 13) rfl rfl rfl rfl rfl Jqh (Jro m0 m0) (Jk (k := 14) rfl rfl rfl rfl rfl (fun _ hS => (JA rfl)) (Kc ?_))))); exact DR
theorem Yv (hlk : Vm Zz (.int .i64 k) (rootM.toList.map Yx) = some (.func (.func g) #[] #[])) (eg : Enters Tryz.prog g) (hg : PureR Tryz.prog g [Ty.val (.mk k n p ins), Vl.val (.mk a b c d bits pb items pi pick)].toArray (Jy s) R) :
  PureR Tryz.prog 85 [Ty.val (.mk k n p ins), Vl.val (.mk a b c d bits pb items pi pick)].toArray (Jy s) R := by
 refine Ja Tryz.func85 rfl rfl fun w => Df fun r1 r2 => ?_; refine yC rfl rfl fun rm => Qt (q := 0) (key := .int .i64 1) (val := .func (.func 125) #[] #[]) (Yi (t := 3) m5) rfl rfl rfl rfl rfl rfl ⟨_, rfl⟩ (by intro e he; simp at he) rfl rfl ?_
 refine Qt (q := 0) (key := .int .i64 2) (val := .func (.func 125) #[] #[]) (Yi (t := 3) m5) rfl rfl rfl rfl rfl rfl ⟨_, rfl⟩ Mw rfl rfl ?_
 refine Qt (q := 0) (key := .int .i64 3) (val := .func (.func 126) #[] #[]) (Yi (t := 3) m5) rfl rfl rfl rfl rfl rfl ⟨_, rfl⟩ Mp rfl rfl ?_
 refine Qt (q := 0) (key := .int .i64 4) (val := .func (.func 128) #[] #[]) (Yi (t := 3) m5) rfl rfl rfl rfl rfl rfl ⟨_, rfl⟩ Mf rfl rfl ?_
 refine Qt (q := 0) (key := .int .i64 5) (val := .func (.func 130) #[] #[]) (Yi (t := 3) m5) rfl rfl rfl rfl rfl rfl ⟨_, rfl⟩ M3 rfl rfl ?_
 refine Qt (q := 0) (key := .int .i64 6) (val := .func (.func 132) #[] #[]) (Yi (t := 3) m5) rfl rfl rfl rfl rfl rfl ⟨_, rfl⟩ nV rfl rfl ?_
 refine Qt (q := 0) (key := .int .i64 7) (val := .func (.func 133) #[] #[]) (Yi (t := 3) m5) rfl rfl rfl rfl rfl rfl ⟨_, rfl⟩ nS rfl rfl ?_
 refine Qt (q := 0) (key := .int .i64 8) (val := .func (.func 136) #[] #[]) (Yi (t := 3) m5) rfl rfl rfl rfl rfl rfl ⟨_, rfl⟩ nP rfl rfl ?_; change HL _ _ _ ((rm, .map rootM 8) :: _) _ _ _ _; refine XO 9 [2] rfl rfl (LR rfl (Y9 (v := .func (.func g) #[] #[]) (Yi (t := 3) m5) rfl rfl (kn 0 rfl) rfl rfl ⟨_, rfl⟩ Jm1 (by show (Vm Zz (.int .i64 k) (rootM.toList.map Yx)).getD _ = _; rw [hlk]; rfl)) (LS 2 [2, 1] rfl rfl (Jc rfl rfl rfl eg hg oR ?_))); exact NS
end
theorem vG {l : List Vl} {k pick : Int} {ins : List Ty} (h : l.length = 1) : (Kf l k pick ins 0).headD [] = KD (X0 l 0) (JF k pick ins 0) := by
 match l, h with
 | [x], _ => rw [Kf]; rfl
theorem Jf2 {a : Nat} {bits : List Bool} {items : List Vl} {pick k n : Int} {p : Pl} {ins : List Ty} (hcz : Vp (.mk k n p ins) 0 = 0) (hfit : Ku (.mk a b c d bits pb items pi pick) (.mk k n p ins) = 0) (hk : k = 3 ∨ k = 4 ∨ k = 7) : (VY k n ins items (Kf items k 0 ins 0)).length = 32 := by
 obtain ⟨q1, q2, q3⟩ := qH hcz hfit
 have hrow := fun (j : Nat) x (h : items[j]? = some x) => Jcn hcz hfit m0 h
 have hrs : ∀ s ∈ Kf items k 0 ins 0, s.length = 32 := fun s hs => by
  obtain ⟨j, x, h1, rfl⟩ := Xd hs
  rw [Nat.zero_add]
  obtain ⟨_, r1, r2, r3⟩ := hrow j x h1
  exact Wa x _ 0 r2 r3
 have hrl := VG items k 0 ins 0
 unfold VY
 by_cases h7 : k = 7
 ·rw [if_pos h7]
  exact VE (by have := q3 h7; omega) hrs
 ·rw [if_neg h7]
  obtain ⟨w1, w2, w3, w4⟩ := q1 m0
  match ins, w4 with
  | [x0], _ =>
  rw [show [x0].getD 0 default = x0 from rfl]
  by_cases hp : WI x0 = true
  ·rw [if_pos hp]
   have hc0 := VZ hcz _ List.mem_cons_self
   obtain ⟨f1, f2, f3, f4⟩ := YM hc0 hp
   refine VE ?_ (VX _); rw [Yb]
   unfold vv
   have hz : ∀ v ∈ items, (Vj v x0).length = (JV x0).toNat := fun v hv => by
    obtain ⟨j, hj⟩ := List.getElem?_of_mem hv
    have hg := (hrow j v hj).2.2.2
    rw [WN h7 m0] at hg
    have := f4 v hg
    omega
   rw [ja hz]
   have hm : items.length * (JV x0).toNat ≤ n.toNat * (JV x0).toNat := Nat.mul_le_mul_right _ m0
   omega
  ·rw [if_neg hp]
   exact VE m0 hrs
set_option maxHeartbeats 1000000 in
theorem Jz3 (hv : v.In R) : ∀ (t : Ty) (dp : Nat), t.In R → Vp t (dp : Int) = 0 → Ku v t = 0 → wV v ≤ 20000 → PureR Tryz.prog 85 [t.val, v.val].toArray (Jy (KD v t)) R := by
 have hv0 := hv
 induction hv with
 | @mk a b c d bits pb items pi pick ha hb hcc hd hlb hsb hl hs hp hi ih =>
 intro t dp ht hck hfit hw
 obtain ⟨k, n, p, ins⟩ := t
 have ht0 := ht
 cases ht with
 | mk hk hn hlt hst hit =>
 obtain ⟨hk8, ho, h6, hci⟩ := QE hck
 obtain ⟨hf1, hf2, hf3⟩ := W1 hfit
 obtain ⟨m1, m2, m3, m4⟩ := qF hck hfit
 obtain ⟨q1, q2, q3⟩ := qH hck hfit
 have hcz := vw hck
 have hrow := fun (h8 : k ≠ 8) (j : Nat) x (h : items[j]? = some x) => Jcn hcz hfit h8 h
 have hwi : ∀ x ∈ items, wV x ≤ 20000 := fun x hx => Nat.le_trans (vu hx) hw
 have hrec : k ≠ 8 → ∀ (i : Nat) x, items[i]? = some x → PureR Tryz.prog 85 [(JF k 0 ins i).val, x.val].toArray (Jy (KD x (JF k 0 ins i))) R := fun h8 i x hx => by
  exact Ho
 have hlen := Wa _ _ dp hck hfit
 rw [WK] at hlen ⊢
 by_cases h1 : k = 1
 ·subst h1
  rw [if_pos (.inl rfl)]; exact Yv rfl (enters_of Tryz.func125 m5 rfl) (Jff _ hv0).toR
 by_cases h2 : k = 2
 ·subst h2
  rw [if_pos (.inr rfl)]; exact Yv rfl (enters_of Tryz.func125 m5 rfl) (Jff _ hv0).toR
 rw [if_neg m0] at hlen ⊢
 have hone : k ≠ 7 → k ≠ 8 → ∀ x0, ins = [x0] → ∀ N : Nat, n = (N : Int) → N ≤ 512 → items.length ≤ N → PureR Tryz.prog 127 [Ty.val (.mk k n p ins), KE items.length pi].toArray (Jy (VY k n ins items (Kf items k 0 ins 0))) R := fun h7 h8 x0 e N en hN hle => by
  subst e; subst en; refine Jz2 ht0 h7 h8 (VZ hcz _ List.mem_cons_self) hs hle hN (fun v hv => ?_) hwi hi fun i x hx => ?_
  ·obtain ⟨j, hj⟩ := List.getElem?_of_mem hv
   have := (hrow h8 j v hj).2.2.2
   rwa [WN h7 h8] at this
  ·have := hrec h8 i x hx
   rwa [WN h7 h8] at this
 by_cases h4 : k = 4
 ·subst h4
  obtain ⟨w1, w2, w3, w4⟩ := q1 (.inr rfl)
  rw [if_pos rfl, qG m7] at hlen ⊢
  have hrl : (VY 4 n ins items (Kf items 4 0 ins 0)).length = 32 := Jf2 hcz hfit (.inr (.inl rfl))
  obtain ⟨x0, hx0⟩ := List.length_eq_one_iff.1 w4
  exact Yv rfl (enters_of Tryz.func128 m5 rfl) (J27 hs hrl m1 (hone m7 m7 x0 hx0 n.toNat m0 m0 m0))
 rw [if_neg h4] at hlen ⊢
 by_cases h5 : k = 5
 ·subst h5
  obtain ⟨w1, w2, w3⟩ := q2 (.inl rfl)
  rw [if_pos rfl] at hlen ⊢; refine Yv rfl (enters_of Tryz.func130 m5 rfl) (J28 ?_)
  have := Jky (k := 5) (p := p) (ins := ins) (l := bits) (n := n.toNat) m0 m0 hsb
  rwa [show ((n.toNat : Nat) : Int) = n by omega] at this
 rw [if_neg h5] at hlen ⊢
 by_cases h6 : k = 6
 ·subst h6
  obtain ⟨w1, w2, w3⟩ := q2 (.inr rfl)
  rw [if_pos rfl] at hlen ⊢; refine Yv rfl (enters_of Tryz.func132 m5 rfl) (J29 hsb (VE (j6 w3) (VX _)) m2 ?_)
  have := Jky (k := 6) (p := p) (ins := ins) (l := bits) (n := n.toNat) m0 m0 hsb
  rwa [show ((n.toNat : Nat) : Int) = n by omega] at this
 rw [if_neg h6] at hlen ⊢
 by_cases h8 : k = 8
 ·subst h8
  obtain ⟨w1, w2, w3, w4⟩ := m4 rfl
  obtain ⟨m, rfl⟩ : ∃ m : Nat, pick = (m : Int) := ⟨pick.toNat, by omega⟩
  have hx8 := VK (l := items) (i := 0) m0
  have hg := Vx (j := 0) hf3 hx8.1
  have hin := Y4 (v := .mk a b c d bits pb items pi (m : Int)) (i := 0) hcz hf2 N6
  have hty := KC hin
  have hX := ih _ hx8.2 (hi _ hx8.2) _ 0 (hit _ hty.2) (VZ hcz _ hty.2) hg (hwi _ hx8.2)
  have hXl := Wa _ _ 0 (VZ hcz _ hty.2) hg
  rw [if_pos rfl, vG w1, Int.toNat_natCast]; exact Yv rfl (enters_of Tryz.func136 m5 rfl) (J3b hst hs m0 (show ins[m]? = some _ from hty.1) hx8.1 hXl hX)
 rw [if_neg h8, qG h8] at hlen ⊢
 by_cases h3 : k = 3
 ·subst h3
  obtain ⟨w1, w2, w3, w4⟩ := q1 (.inl rfl)
  obtain ⟨x0, hx0⟩ := List.length_eq_one_iff.1 w4
  exact Yv rfl (enters_of Tryz.func126 m5 rfl) (J26 (hone m7 m7 x0 hx0 n.toNat m0 m0 m0))
 have h7 : k = 7 := by omega
 subst h7
 obtain ⟨w1, w2, w3⟩ := q3 rfl
 have hM : VY 7 n ins items (Kf items 7 0 ins 0) = QR (Kf items 7 0 ins 0) ins.length := by unfold VY; rw [if_pos rfl]
 rw [hM]
 have hrl := VG items 7 0 ins 0
 refine Yv rfl (enters_of Tryz.func133 m5 rfl) (J3a hst m0 w3 (fun s hs => ?_) (Jar ht0 m7 hs m0 (fun i hi => ?_) (hrec m7)))
 ·exact HW
 ·show i < ins.length
  omega
def YV (t : Ty) (v : Vl) : BS × Int := if Vc t v ≠ 0 then ([], Vc t v) else (KD v t, 0)
theorem Jws (ht : t.In R) (hv : v.In R) (hw : wV v ≤ 20000) : PureR Tryz.prog 58 [t.val, v.val].toArray (YI (YV t v)) R := by
 have h1 := Jq4 ht hv
 have h2 := fun h => Jz3 hv t 0 ht (Xc (t := t) (v := v) h).1 (Xc h).2 hw
 unfold YV
 generalize Vc t v = e at h1 h2 ⊢
 generalize KD v t = s at h2 ⊢
 obtain ⟨k, n, p, ins⟩ := t
 obtain ⟨a, b, c, d, bits, pb, items, pi, pick⟩ := v
 refine Ja Tryz.func58 rfl rfl fun w => NA fun r1 r2 => ?_; refine XO 9 [1, 0] rfl rfl (Jc rfl rfl rfl (enters_of Tryz.func76 m5 rfl) h1 oR (HN ?_)); refine cD (fun g => ?_) fun g => ?_
 exact De
 ·refine QZ 6 [1, 0] rfl rfl (Jc rfl rfl rfl Jvk (h2 m0) oR (gt ?_)); refine NL fun w1 hs1 => ?_; rw [if_neg m0]; rfl
theorem Jkz (h : Vp x 0 = 0) : WI x = decide (¬ x.k > 2) := by
 obtain ⟨k, n, p, ins⟩ := x
 obtain ⟨hk, _, _, _⟩ := QE h
 show (decide (k = 1) || decide (k = 2)) = decide (¬ k > 2)
 by_cases h1 : k = 1
 ·subst h1; rfl
 by_cases h2 : k = 2
 ·subst h2; rfl
 rw [decide_eq_false h1, decide_eq_false h2, decide_eq_false m0]; rfl
theorem Jwt {k n : Int} (hk : 1 ≤ k ∧ k ≤ 8) (h : JM k n m = true) : 0 ≤ n := by
 unfold JM at h
 have h9 : k = 1 ∨ k = 2 ∨ k = 3 ∨ k = 4 ∨ k = 5 ∨ k = 6 ∨ k = 7 ∨ k = 8 := by omega
 rcases h9 with rfl | rfl | rfl | rfl | rfl | rfl | rfl | rfl
 all_goals simp at h
 all_goals omega
theorem Jf3 {k n : Int} {p : Pl} {ins : List Ty} {a : Nat} {bits : List Bool} {items : List Vl} {pick : Int} (ht : Ty.In R (.mk k n p ins)) (hv : Vl.In R (.mk a b c d bits pb items pi pick)) (h8 : k ≠ 8) (hl : items.length ≤ 600) (hx : ∀ i, i < items.length → VF k 0 i < ins.length)
  (hb : ∀ (i : Nat) x, items[i]? = some x → PureR Tryz.prog 59 [(JF k 0 ins i).val, x.val].toArray (Jy (KD x (JF k 0 ins i))) R) :
  PureT (α := Z0 (Kf items k 0 ins 0)) Tryz.prog 139 [Ty.val (.mk k n p ins), Vl.val (.mk a b c d bits pb items pi pick)].toArray (fun x => rV x) [] (fun x => rL x) R := by
 have hs : Seg R items.length (KL items) pi := by cases hv; assumption
 have hin := fun i (h : i < items.length) => q7 (v := .mk a b c d bits pb items pi pick) (i := i) (y := JF k 0 ins i) ht hv (fun e => absurd e h8) nZ
 have hRL := VG items k 0 ins 0
 obtain ⟨RS, hRS⟩ : ∃ x, x = Kf items k 0 ins 0 := ⟨_, rfl⟩
 have htk := fun i x (h : items[i]? = some x) => jR k ins (i := 0) h
 simp only [← hRS, Nat.zero_add] at htk; rw [← hRS] at hRL ⊢; rw [Jcx]; refine JE Tryz.func139 rfl rfl fun w => NA fun r1 r2 => ?_; refine JP 15 rfl (Js (σ := Nat × Vn) (fun q => q.1 ≤ items.length ∧ rowOk 1 q.1 (VH (RS.take q.1)) q.2) (fun q => [(2, Vk r1), (3, Vk r2), (5, J3 q.1 q.2), (6, .int .i64 (q.1 : Int))]) (fun q => WE r2 (Vl.mk a b c d bits pb items pi pick) :: VM r1 (Ty.mk k n p ins) :: JJ 9 (VH (RS.take q.1)) q.2) (fun _ _ _ => True) (fun q => items.length - q.1) (0, none) ⟨Nat.zero_le _, rfl, rfl⟩ (lK rfl) (List.Sublist.refl _) (fun _ _ h => h) ?_); rintro ⟨i, row⟩ ⟨hi1, hrow⟩; simp only at hi1 hrow; change HC _ _ [(2, _), (3, _), (5, J3 i row), (6, .int .i64 (i : Int))] ((r2, _) :: (r1, _) :: JJ _ (VH (RS.take i)) row) _ _ _; refine G8 ?_; refine cD (fun g => ?_) fun g => ?_
 ·refine J9 4 rfl ?_
  have hil : i < items.length := by omega
  have hix := VK hil
  have hini := hin i hil
  have hbi := hb i _ hix.1
  obtain ⟨sv, hsv⟩ : ∃ x, x = KD (X0 items i) (JF k 0 ins i) := ⟨_, rfl⟩
  have htki := htk i _ hix.1
  rw [← hsv] at hbi htki
  refine JD [] [(0, .pure), (3, .pure), (5, .pure), (7, .pure), (8, .pure), (11, .grow (VS (slV 1) (.cells #[Jy sv] 9 (0, 0))))] 12 [0, 1, 2, 3, 4, 5, 6, 7, 8, 9, 10, 11] m5 m5 m6 (GJ ?_); refine JY (k := 1) rfl rfl rfl rfl rfl (Ji (xs := (Ty.mk k n p ins).cells) (n := 3) rfl (kn 1 rfl) rfl rfl (Ty.mk k n p ins).len) (JY (k := 2) rfl rfl rfl rfl rfl (Ji (xs := (Vl.mk a b c d bits pb items pi pick).cells) (n := 7) rfl (kn 0 rfl) rfl rfl (Vl.mk a b c d bits pb items pi pick).len) (Jk (k := 3) rfl rfl rfl rfl rfl (fun _ hS => (Jg rfl)) (JU (k := 4) rfl rfl rfl rfl rfl Jjy hini oR ?_)))
  refine Jk (k := 5) rfl rfl rfl rfl rfl (fun _ hS => (Jw rfl rfl rfl)) (JY (k := 6) rfl rfl rfl rfl rfl (Jd rfl (kn 0 rfl) rfl rfl) (Jk (k := 7) rfl rfl rfl rfl rfl (fun _ hS => (Jg rfl)) ?_))
  refine Jk (k := 8) rfl rfl rfl rfl rfl (fun E' hS => Jf (j := i) rfl hs rfl rfl rfl me hil) (JY (k := 9) rfl rfl rfl rfl rfl (KV oR rfl hs hix.1 rfl rfl) (JU (k := 10) rfl rfl rfl rfl rfl Jve hbi oR (QS (k := 11) (n := 1) (sz := 1) (vs := [_]) (zs := [_]) (r := [Jy sv]) rfl rfl rfl rfl rfl rfl rfl rfl rfl rfl rfl mf rfl fun rv => Kc (JB (L0 := [_, _, _]) (xs := VH (RS.take i)) (row := row) (n := i) (sz := 1) (b := 16) (news := [Jy sv]) (List.perm_append_comm (l₁ := [_, _, _])) rfl rfl rfl rfl (kn 0 rfl) rfl rfl rfl rfl rfl m7 rfl rfl rfl m7 hrow m0 m0 fun ra cap sp hra => Gq ?_)))); refine ND ?_; refine Qm [2, 3, 0] (L' := [_, _, _]) m7 rfl ?_; exact Jm (i + 1, some (ra, cap, sp)) ⟨by simp only; omega, by simp only; rw [htki, Wo]; exact hra⟩ ml (lK rfl) Mc (fun _ _ h => h)
 ·refine NK ?_
  have hin2 : i = items.length := by omega
  rw [hin2, ← hRL, List.take_length] at hrow; rw [hin2, ← hRL, List.take_length]; refine KQ 6 rfl (ke fun w1 hs1 => ?_); exact ⟨⟨row, hrow⟩, rfl, hs1.weakL (.cons _ (.cons _ (List.Sublist.refl _)))⟩
set_option maxHeartbeats 1000000 in
theorem Jwu {k : Int} {n : Nat} {p : Pl} {a : Nat} {bits : List Bool} {items : List Vl} {pick : Int} (ht : Ty.In R (.mk k (n : Int) p [x0])) (hv : Vl.In R (.mk a b c d bits pb items pi pick)) (hk7 : k ≠ 7) (hk8 : k ≠ 8) (hc : Vp x0 0 = 0) (hl : items.length ≤ n) (hn : n ≤ 512)
  (hfit : ∀ v ∈ items, Ku v x0 = 0) (hw : ∀ v ∈ items, wV v ≤ 20000) (hIn : ∀ v ∈ items, v.In R)
  (hb : ∀ (i : Nat) x, items[i]? = some x → PureR Tryz.prog 59 [x0.val, x.val].toArray (Jy (KD x x0)) R) :
  PureR Tryz.prog 88 [Ty.val (.mk k (n : Int) p [x0]), Vl.val (.mk a b c d bits pb items pi pick)].toArray (Jy (VY k (n : Int) [x0] items (Kf items k 0 [x0] 0))) R := by
 have hs : Seg R items.length (KL items) pi := by cases hv; assumption
 have hro := Jf3 ht hv hk8 m0 (fun i _ => by unfold VF; rw [if_neg hk7, if_neg hk8]; exact Nat.lt_succ_self 0) (fun i x hx => by rw [WN hk7 hk8]; exact hb i x hx)
 have hrl := VG items k 0 [x0] 0
 have hr32 : ∀ s ∈ Kf items k 0 [x0] 0, s.length = 32 := fun s hs => by
  obtain ⟨j, x, h1, rfl⟩ := Xd hs
  rw [WN hk7 hk8]; exact Wa x x0 0 hc (hfit x (List.mem_of_getElem? h1))
 have hM : VY k (n : Int) [x0] items (Kf items k 0 [x0] 0) = if WI x0 = true then QR (Wv (WJ items x0)) ((n * (JV x0).toNat + 31) / 32) else QR (Kf items k 0 [x0] 0) n := by
  unfold VY
  rw [if_neg hk7]; rfl
 rw [hM, Jkz hc]
 have hx0 := ht.sub x0 List.mem_cons_self
 cases ht with
 | @mk k n p ins hk hn2 hlt hst hit =>
 refine Ja Tryz.func88 rfl rfl fun w => NA fun r1 r2 => ?_; refine Goc 11 [1] rfl rfl (JI rfl (fun h4 => ?_) (fun h4 => ?_))
 exact absurd h4 (by simpa using hk7)
 ·try simp only [ZZ] at h4
  refine QZ 7 [1] rfl rfl ?_
  refine LR rfl (Jf (j := 0) rfl hst rfl rfl rfl me (Nat.lt_succ_self 0)) (LR rfl (JW (off' := YC p) rfl rfl rfl) (LR rfl (ZK (j := 0) (v := .int .i64 x0.k) oR rfl hst (Nat.lt_succ_self 0) rfl (by cases x0; rfl)) (kU ?_))); refine cD (fun g => ?_) fun g => ?_
  refine He ?_
  refine JD [] [(2, .grow (KA (jf (Kf items k 0 [x0] 0)) (fun x => rV x) (fun x => rL x))), (3, .pure), (6, .pure)] 7 [0, 1, 3, 4, 2, 5, 6] m5 m5 m6 (JY (k := 0) rfl rfl rfl rfl rfl (Ji (xs := (Ty.mk k (n : Int) p [x0]).cells) (n := 3) rfl (kn 1 rfl) rfl rfl (Ty.mk k (n : Int) p [x0]).len) (gD ?_))
  refine JS (k := 2) rfl rfl rfl rfl rfl (enters_of Tryz.func139 m5 rfl) hro (fun q hq => by first | exact .inr hq | cases hq) fun x => ?_; refine JU (k := 5) rfl rfl rfl rfl rfl Jho (Zq (m := n) m0 m0 (Ke x.2 m7) hr32) (fun q hq => .inl (List.mem_append_left _ hq)) ?_; refine Jk (k := 6) rfl rfl rfl rfl rfl (fun _ hS => (JA rfl)) ?_; refine Kc ?_; refine DP fun w1 hs1 => ?_; rw [if_neg (by rw [decide_eq_true_eq]; omega)]; rfl
  ·refine Da ?_
   have hk2 : ¬ x0.k > 2 := by omega
   have hp : WI x0 = true := by rw [Jkz hc]; exact decide_eq_true hk2
   obtain ⟨f1, f2, f3, f4⟩ := YM hc hp
   obtain ⟨z, hz⟩ : ∃ z, z = (JV x0).toNat := ⟨_, rfl⟩
   have hSz := zr hx0
   have hsz : YD x0 = (z : Int) := by unfold YD; rw [if_pos f1]; omega
   rw [hsz] at hSz
   have hnz : n * z ≤ 16384 := by
    have := Nat.mul_le_mul hn (show z ≤ 32 by omega)
    omega
   obtain ⟨C, hC⟩ : ∃ C, C = WJ items x0 := ⟨_, rfl⟩
   have hCl : C.length = items.length * z := by rw [hC]; exact ja fun v hv => by have := f4 v (hfit v hv); omega
   have hCn : C.length ≤ n * z := by rw [hCl]; exact Nat.mul_le_mul_right _ hl
   have hcn : (Wv C).length ≤ (n * z + 31) / 32 := by rw [Yb]; unfold vv; omega
   refine J9 11 rfl (Js (σ := Nat) (fun i => i ≤ items.length) (fun i => [(2, Vk r1), (3, Vk r2), (5, Jy (WJ (items.take i) x0)), (6, .int .i64 (i : Int))]) (fun _ => [WE r2 (Vl.mk a b c d bits pb items pi pick), VM r1 (Ty.mk k (n : Int) p [x0])]) (fun _ _ _ => True) (fun i => items.length - i) 0 (Nat.zero_le _) (lK rfl) (List.Sublist.refl _) (fun _ _ h => h) ?_); intro i hi1; change HC _ _ _ ((r2, _) :: (r1, _) :: []) _ _ _; refine G8 ?_; refine cD (fun g => ?_) fun g => ?_
   ·refine J9 4 rfl ?_
    have hil : i < items.length := by omega
    have hix := VK hil
    have hpr := Zv hc hp (hfit _ hix.2)
    have hby := Jfo (hIn _ hix.2) x0 0 hx0 hc (hfit _ hix.2) (hw _ hix.2)
    have hsn := Jas (x := x0) hix.1
    have hcl := Jcy (x := x0) (l := items.take i) fun v hv => (Zv hc hp (hfit v (List.mem_of_mem_take hv))).2
    rw [List.length_take] at hcl
    have hp2 := hpr.2
    refine JR 13 m5 m5 (Nm ?_)
    refine Hq ?_
    refine DM ?_
    refine kE ?_; refine Nm ?_
    refine gW ?_; refine Jb rfl rfl rfl (KV oR rfl hs hix.1 rfl rfl) (V8 rfl rfl rfl Jvh hby oR (Jb rfl rfl rfl (Qc (a := WJ (items.take i) x0) (b := Vj (X0 items i) x0) rfl rfl m0) (Kz (show _ = Jy (WJ (items.take (i + 1)) x0) from by rw [hsn]) (ku ?_)))); refine G1 ?_; refine ND ?_; exact NC
   ·refine NK ?_
    have hie : i = items.length := by omega
    rw [hie, List.take_length, ← hC]
    refine JD [] [(0, .pure), (1, .grow (KA (jf (Wv C)) (fun x => rV x) (fun x => rL x))), (2, .pure), (4, .pure), (6, .pure), (9, .pure), (10, .pure), (11, .pure), (13, .pure)] 14 [0, 2, 3, 4, 5, 6, 7, 1, 8, 9, 10, 11, 12, 13] m5 m5 m6 (GJ ?_)
    refine Gi ?_; refine JY (k := 3) rfl rfl rfl rfl rfl (Jd rfl (kn 1 rfl) rfl rfl) ?_
    refine Jk (k := 4) rfl rfl rfl rfl rfl (fun _ hS => (Jw rfl rfl rfl)) (JY (k := 5) rfl rfl rfl rfl rfl (Jd rfl (kn 1 rfl) rfl rfl) ?_)
    refine En ?_; refine JY (k := 7) rfl rfl rfl rfl rfl (Ko oR rfl hst M9 rfl rfl) ?_
    refine JS (k := 1) rfl rfl rfl rfl rfl Jqb (Ye (s := C) m0) (fun q hq => by first | exact .inr hq | cases hq) fun x => ?_; refine JU (k := 8) rfl rfl rfl rfl rfl (enters_of Tryz.func140 m5 rfl) hSz oR ?_; refine Jk (k := 9) rfl rfl rfl rfl rfl (fun _ _ => (Ju rfl rfl rfl)) ?_; refine Qw na ?_
    refine Jk (k := 10) rfl rfl rfl rfl rfl (fun _ _ => (Ju rfl rfl rfl)) (Qw (show _ = Value.int .i64 ((n * z + 31 : Nat) : Int) from congrArg (Value.int .i64) mc) ?_)
    refine Jk (k := 11) rfl rfl rfl rfl rfl (fun _ _ => (Ju rfl rfl rfl)) (Qw (show _ = Value.int .i64 (((n * z + 31) / 32 : Nat) : Int) from congrArg (Value.int .i64) mc) (JU (k := 12) rfl rfl rfl rfl rfl Jho (Zq hcn m0 (Ke x.2 m7) (VX _)) (fun q hq => .inl (List.mem_append_left _ hq)) (Jk (k := 13) rfl rfl rfl rfl rfl (fun _ hS => (JA rfl)) (Kc (Ha ?_))))); refine Nk fun w1 hs1 => ?_; rw [if_pos (decide_eq_true hk2)]; (try rw [← hz]); (try rw [← hC]); rfl
theorem Jwv {n : Int} {p : Pl} {ins : List Ty} {a : Nat} {bits : List Bool} {items : List Vl} {pick : Int} {l : List BS} (hst : Seg R ins.length (xu ins) p) (hl : l.length ≤ ins.length) (hn : ins.length ≤ 16) (h32 : ∀ s ∈ l, s.length = 32)
  (h : PureT (α := Z0 l) Tryz.prog 139 [Ty.val (.mk 7 n p ins), Vl.val (.mk a b c d bits pb items pi pick)].toArray (fun x => rV x) [] (fun x => rL x) R) :
  PureR Tryz.prog 88 [Ty.val (.mk 7 n p ins), Vl.val (.mk a b c d bits pb items pi pick)].toArray (Jy (QR l ins.length)) R := by
 refine Ja Tryz.func88 rfl rfl fun w => NA fun r1 r2 => ?_; refine Goc 11 [1] rfl rfl (JI rfl (fun h4 => ?_) (fun h4 => ?_))
 try simp only [ZZ] at h4
 refine He ?_
 refine JD [] [(2, .grow (KA (jf l) (fun x => rV x) (fun x => rL x))), (3, .pure), (5, .pure), (7, .pure)] 8 [0, 1, 3, 4, 5, 2, 6, 7] m5 m5 m6 (JY (k := 0) rfl rfl rfl rfl rfl (Ji (xs := (Ty.mk 7 n p ins).cells) (n := 3) rfl (kn 1 rfl) rfl rfl (Ty.mk 7 n p ins).len) (gD ?_)); refine Jk (k := 5) rfl rfl rfl rfl rfl (fun _ hS => (Jl rfl hst rfl)) ?_
 refine JS (k := 2) rfl rfl rfl rfl rfl (enters_of Tryz.func139 m5 rfl) h (fun q hq => by first | exact .inr hq | cases hq) fun x => ?_; refine JU (k := 6) rfl rfl rfl rfl rfl Jho (Zq hl m0 (Ke x.2 m7) h32) (fun q hq => .inl (List.mem_append_left _ hq)) ?_; refine Jk (k := 7) rfl rfl rfl rfl rfl (fun _ hS => (JA rfl)) ?_; refine Kc ?_; exact NS
 ·exact absurd h4 m7
set_option maxHeartbeats 1000000 in
theorem J1w (hv : v.In R) : ∀ (t : Ty) (dp : Nat), t.In R → Vp t (dp : Int) = 0 → Ku v t = 0 → wV v ≤ 20000 → PureR Tryz.prog 59 [t.val, v.val].toArray (Jy (KD v t)) R := by
 have hv0 := hv
 induction hv with
 | @mk a b c d bits pb items pi pick ha hb hcc hd hlb hsb hl hs hp hi ih =>
 intro t dp ht hck hfit hw
 obtain ⟨k, n, p, ins⟩ := t
 have ht0 := ht
 cases ht with
 | mk hk hn hlt hst hit =>
 obtain ⟨hk8, ho, h6, hci⟩ := QE hck
 obtain ⟨N, rfl⟩ : ∃ N : Nat, n = (N : Int) := ⟨n.toNat, by have := Jwt hk8 ho; omega⟩
 obtain ⟨hf1, hf2, hf3⟩ := W1 hfit
 obtain ⟨m1, m2, m3, m4⟩ := qF hck hfit
 obtain ⟨q1, q2, q3⟩ := qH hck hfit
 have hcz := vw hck
 have hwd : WOk [a, b, c, d] := ⟨rfl, fun x hx => by simp at hx; rcases hx with rfl | rfl | rfl | rfl <;> assumption⟩
 have hrow := fun (h8 : k ≠ 8) (j : Nat) x (h : items[j]? = some x) => Jcn hcz hfit h8 h
 have hwi : ∀ x ∈ items, wV x ≤ 20000 := fun x hx => Nat.le_trans (vu hx) hw
 have hrec : k ≠ 8 → ∀ (i : Nat) x, items[i]? = some x → PureR Tryz.prog 59 [(JF k 0 ins i).val, x.val].toArray (Jy (KD x (JF k 0 ins i))) R := fun h8 i x hx => by
  exact Ho
 have hrw : k = 3 ∨ k = 4 ∨ k = 7 → PureR Tryz.prog 88 [Ty.val (.mk k (N : Int) p ins), Vl.val (.mk a b c d bits pb items pi pick)].toArray (Jy (VY k (N : Int) ins items (Kf items k 0 ins 0))) R := fun hk => by
  by_cases h7 : k = 7
  subst h7
  obtain ⟨w1, w2, w3⟩ := q3 rfl
  have hM : VY 7 (N : Int) ins items (Kf items 7 0 ins 0) = QR (Kf items 7 0 ins 0) ins.length := by unfold VY; rw [if_pos rfl]
  rw [hM]
  have hrl := VG items 7 0 ins 0
  refine Jwv hst m0 w3 (fun s hs => ?_) (Jf3 ht0 hv0 m7 m0 (fun i hi => ?_) (hrec m7))
  exact HW
  show i < ins.length
  omega
  obtain ⟨w1, w2, w3, w4⟩ := q1 m0
  obtain ⟨x0, hx0⟩ := List.length_eq_one_iff.1 w4
  subst hx0
  have h8 : k ≠ 8 := by omega
  refine Jwu ht0 hv0 h7 h8 (VZ hcz _ List.mem_cons_self) m0 m0 (fun v hv => ?_) hwi hi fun i x hx => ?_
  obtain ⟨j, hj⟩ := List.getElem?_of_mem hv
  have := (hrow h8 j v hj).2.2.2
  rwa [WN h7 h8] at this
  have := hrec h8 i x hx
  rwa [WN h7 h8] at this
 have hrl32 : k = 3 ∨ k = 4 ∨ k = 7 → (VY k (N : Int) ins items (Kf items k 0 ins 0)).length = 32 := fun hk => Jf2 hcz hfit hk
 obtain ⟨RM, hRM⟩ : ∃ x, x = VY k (N : Int) ins items (Kf items k 0 ins 0) := ⟨_, rfl⟩
 have hRM8 : k ≠ 8 → VY k (N : Int) ins items (Kf items k pick ins 0) = RM := fun h8 => by rw [qG h8, hRM]
 rw [← hRM] at hrw hrl32
 obtain ⟨PB, hPB⟩ : ∃ x, x = V9 bits := ⟨_, rfl⟩
 have hnb : k = 5 ∨ k = 6 → (Wv PB).length ≤ (N + 255) / 256 := fun h => by have := j6 (q2 h).2.2; rw [hPB]; simpa using this
 have hpl : PB.length ≤ 64 := by rw [hPB, WZ]; omega
 have hpk := vt (l := bits) (p := pb) m0 hsb
 rw [← hPB] at hpk; rw [WK, ← hPB]; refine Ja Tryz.func59 rfl rfl fun w => NA fun r1 r2 => ?_; refine Goc 18 [1] rfl rfl (cD (fun h6 => ?_) fun h6 => ?_)
 refine J9 2 rfl (cD (fun h7 => ?_) fun h7 => ?_)
 exact Er
 refine NK ?_; refine cD (fun g => ?_) fun g => ?_
 refine Hi ?_; refine Ev fun w1 hs1 => ?_
 exfalso; omega
 refine NK ?_; refine cD (fun g => ?_) fun g => ?_
 refine He ?_
 have hN5 := (q2 m0).2.1
 refine gO fun x => ?_; refine Ev fun w1 hs1 => ?_
 exfalso; omega
 refine NK ?_; refine cD (fun g => ?_) fun g => ?_
 refine He ?_
 have hN5 := (q2 m0).2.1
 refine Hj fun x => ?_; refine Ev fun w1 hs1 => ?_
 exfalso; omega
 refine NK ?_; refine cD (fun g => ?_) fun g => ?_
 refine He ?_
 have hk0 : k = 8 := by assumption
 obtain ⟨h81, h82, h83, h84⟩ := m4 hk0
 have hx8 := VK (l := items) (i := 0) m0
 have hin8 := Y4 (v := .mk a b c d bits pb items pi pick) (i := 0) hcz hf2 N6
 have hty8 := KC hin8
 have hix8 : VF k (Vl.pick (.mk a b c d bits pb items pi pick)) 0 = pick.toNat := by unfold VF; rw [if_neg m0, if_pos hk0]; rfl
 rw [hix8] at hty8
 have hg8 := Vx (j := 0) hf3 hx8.1
 have hrec8 := ih _ hx8.2 (hi _ hx8.2) _ 0 (hit _ hty8.2) (VZ hcz _ hty8.2) hg8 (hwi _ hx8.2)
 have hXl := Wa _ _ 0 (VZ hcz _ hty8.2) hg8
 have hro8 := vG (k := k) (pick := pick) (ins := ins) h81
 refine GR ?_; refine Kc (Ev fun w1 hs1 => ?_)
 exfalso; omega
 refine gs ?_; refine Nk fun w1 hs1 => ?_
 exfalso; omega
 ·refine gr ?_; refine cD (fun g => ?_) fun g => ?_
  exact Er
  ·refine NK ?_; refine cD (fun g => ?_) fun g => ?_
   refine Hi ?_; refine Ev fun w1 hs1 => ?_; rw [if_neg m0, if_pos m0, hRM8 m0]; rfl
   ·refine NK ?_; refine cD (fun g => ?_) fun g => ?_
    refine He ?_
    have hN5 := (q2 m0).2.1
    refine gO fun x => ?_; refine Ev fun w1 hs1 => ?_; rw [if_neg m0, if_neg m0, if_pos m0]; rfl
    ·refine NK ?_; refine cD (fun g => ?_) fun g => ?_
     refine He ?_
     have hN5 := (q2 m0).2.1
     refine Hj fun x => ?_; refine Ev fun w1 hs1 => ?_; rw [if_neg m0, if_neg m0, if_neg m0, if_pos m0]; rfl
     ·refine NK ?_; refine cD (fun g => ?_) fun g => ?_
      refine He ?_
      have hk0 : k = 8 := by assumption
      obtain ⟨h81, h82, h83, h84⟩ := m4 hk0
      have hx8 := VK (l := items) (i := 0) m0
      have hin8 := Y4 (v := .mk a b c d bits pb items pi pick) (i := 0) hcz hf2 N6
      have hty8 := KC hin8
      have hix8 : VF k (Vl.pick (.mk a b c d bits pb items pi pick)) 0 = pick.toNat := by unfold VF; rw [if_neg m0, if_pos hk0]; rfl
      rw [hix8] at hty8
      have hg8 := Vx (j := 0) hf3 hx8.1
      have hrec8 := ih _ hx8.2 (hi _ hx8.2) _ 0 (hit _ hty8.2) (VZ hcz _ hty8.2) hg8 (hwi _ hx8.2)
      have hXl := Wa _ _ 0 (VZ hcz _ hty8.2) hg8
      have hro8 := vG (k := k) (pick := pick) (ins := ins) h81
      refine GR ?_; refine Kc (Ev fun w1 hs1 => ?_); rw [if_neg m0, if_neg m0, if_neg m0, if_neg m0, if_pos m0, hro8]; rfl
      ·refine gs ?_; refine Nk fun w1 hs1 => ?_; rw [if_neg m0, if_neg m0, if_neg m0, if_neg m0, if_neg m0, hRM8 m0]; rfl
theorem Jk0 (l : List Vl) : (YN l).length = l.length := by rw [Wr, List.length_map]
theorem Jye : ∀ l : List Vl, (∀ x ∈ l, wV (Xh x) = wV x) → wL (YN l) = wL l
 | [], _ => by rw [YN]
 | x :: xs, h => by rw [YN, wL, wL, h x List.mem_cons_self, Jye xs fun y hy => h y (List.mem_cons_of_mem _ hy)]
theorem Jk1 (v : Vl) : wV (Xh v) = wV v := by
 induction v using Vl.ind with
 | h a b c d bits pb items pi pick ih => rw [Qs, wV, wV, Jye items ih]
theorem Jk2 (k pick : Int) (ins : List Ty) : ∀ (l : List Vl), (∀ x ∈ l, ∀ t, Ku (Xh x) t = Ku x t) → ∀ i : Nat, Qz (YN l) k pick ins i = Qz l k pick ins i
 | [], _, i => by rw [YN]
 | x :: xs, h, i => by rw [YN, Qz, Qz, h x List.mem_cons_self, Jk2 k pick ins xs fun y hy => h y (List.mem_cons_of_mem _ hy)]
theorem Jz4 (k n : Int) (m : Nat) (v : Vl) : xx k n m (Xh v) = xx k n m v := by
 obtain ⟨a, b, c, d, bits, pb, items, pi, pick⟩ := v
 rw [Qs]; rw [QA k n m a b c d bits none (YN items) none pick _ rfl, QA k n m a b c d bits pb items pi pick _ rfl]; simp only [Q0, Jk0]
theorem Jcz (v : Vl) : ∀ t, Ku (Xh v) t = Ku v t := by
 induction v using Vl.ind with
 | h a b c d bits pb items pi pick ih =>
 intro t
 obtain ⟨k, n, p, ins⟩ := t
 have hl := Jk0 items
 have ho := Jz4 k n ins.length (.mk a b c d bits pb items pi pick)
 rw [Qs] at ho ⊢; rw [Ku, Ku, hl, Jk2 k pick ins items ih, ho]
abbrev b8c (r3 : Nat) : Nat × Obj := (r3, .cells #[.int .i64 1, .int .i64 2, .slice none 0 0, .int .i64 6, .int .i64 8, .slice none 0 0, .int .i64 2, .int .i64 0, .slice none 0 0] 76 (0, 0))
abbrev d8c (r5 : Nat) : Nat × Obj := (r5, .cells #[.int .u64 258, .int .u64 0, .int .u64 0, .int .u64 0, .slice none 0 0, .slice none 0 0, .int .i64 0, .int .u64 0, .int .u64 0, .int .u64 0, .int .u64 0, .slice none 0 0, .slice none 0 0, .int .i64 0, .int .u64 1, .int .u64 0, .int .u64 0, .int .u64 0, .slice none 0 0, .slice none 0 0, .int .i64 0] 81 (0, 0))
structure OInv (s : BS) (H : Nat) (TY : List Ty) (i A la : Nat) (pre : List Nat) : Prop where
  le : i ≤ TY.length
  at_ : (A : Int) = Kp (TY.take i)
  off : QT s H TY 0 H false = (QT s H (TY.drop i) A la (decide (0 < pre.length))).map (pre ++ ·)
section
variable {s : BS} {H : Nat} {TY : List Ty} {i A la : Nat} {pre : List Nat} {x : Ty}
theorem OInv.start : OInv s H TY 0 0 H [] := ⟨Nat.zero_le _, rfl, by rw [List.drop_zero, show decide (0 < ([] : List Nat).length) = false from rfl]; cases QT s H TY 0 H false <;> rfl⟩
theorem OInv.bound (h : OInv s H TY i A la pre) (hx : TY[i]? = some x) (hH : Kp TY = (H : Int)) : (A : Int) + Xq x ≤ H := by
 exact gh
theorem OInv.fix (h : OInv s H TY i A la pre) (hx : TY[i]? = some x) (hf : JL x = true) (h0 : 0 ≤ JV x) : OInv s H TY (i + 1) (A + (JV x).toNat) la pre := by
 have h1 := h.off
 rw [Qh hx, QT, if_pos hf] at h1; refine ⟨(List.getElem?_eq_some_iff.1 hx).1, ?_, h1⟩; exact DS
theorem OInv.bad (h : OInv s H TY i A la pre) (hx : TY[i]? = some x) (hf : JL x = false) {v : Nat} (hv : v = Xj ((s.drop A).take 4)) (hb : (¬ 0 < pre.length ∧ v ≠ H) ∨ v < la ∨ s.length < v) : QT s H TY 0 H false = none := by
 subst hv
 rw [h.off, Qh hx, QT, if_neg (by rw [hf]; decide), if_pos (by
  rcases hb with ⟨h1, h2⟩ | h1
  ·exact .inl ⟨decide_eq_false h1, h2⟩
  ·exact .inr h1)]
 rfl
theorem OInv.var (h : OInv s H TY i A la pre) (hx : TY[i]? = some x) (hf : JL x = false) {v : Nat} (hv : v = Xj ((s.drop A).take 4)) (h1 : 0 < pre.length ∨ v = H) (h2 : la ≤ v) (h3 : v ≤ s.length) : OInv s H TY (i + 1) (A + 4) v (pre ++ [v]) := by
 have hn : ¬ JL x = true := by rw [hf]; decide
 have hlv : Xj ((s.drop A).take 4) = v := hv.symm
 have ho := h.off
 rw [Qh hx, QT, if_neg hn, hlv, if_neg (by
  rintro (⟨g1, g2⟩ | g | g)
  ·simp only [decide_eq_false_iff_not] at g1; omega
  ·omega
  ·omega), Option.map_map] at ho
 refine ⟨(List.getElem?_eq_some_iff.1 hx).1, ?_, ?_⟩
 ·exact Dw
 ·rw [ho, show decide (0 < (pre ++ [v]).length) = true by simp]
  congr 1
  funext r
  simp
theorem OInv.done (h : OInv s H TY TY.length A la pre) : QT s H TY 0 H false = if ¬ 0 < pre.length ∧ H ≠ s.length then none else some (pre ++ [s.length]) := by
 rw [h.off, List.drop_length, QT]
 by_cases hc : ¬ 0 < pre.length ∧ H ≠ s.length
 ·rw [if_pos hc, if_pos ⟨decide_eq_false hc.1, hc.2⟩]; rfl
 ·rw [if_neg hc, if_neg (by rintro ⟨g1, g2⟩; exact hc ⟨of_decide_eq_false g1, g2⟩)]; rfl
end
theorem Jk3 {s : BS} {H : Nat} : ∀ {ts : List Ty} {a la : Nat} {op : Bool} {os : List Nat}, QT s H ts a la op = some os → 0 < os.length
 | [], _, _, _, _, h => by
  rw [QT] at h
  split at h
  ·cases h
  ·cases h; exact Nat.one_pos
 | x :: xs, a, la, op, os, h => by
  rw [QT] at h
  split at h
  ·exact Jk3 h
  ·split at h
   ·cases h
   ·obtain ⟨r, h2, rfl⟩ := Option.map_eq_some_iff.1 h
    exact Nat.succ_pos _
structure RInv (s : BS) (H : Nat) (TY : List Ty) (ps : List (Ty × Nat × Nat)) (os : List Nat) (i A m : Nat) : Prop where
  le : i ≤ TY.length
  at_ : (A : Int) = Kp (TY.take i)
  tl : ps.drop i = KW (TY.drop i) A (os.drop m)
  off : ∃ la op, QT s H (TY.drop i) A la op = some (os.drop m)
section
variable {s : BS} {H : Nat} {TY : List Ty} {ps : List (Ty × Nat × Nat)} {os : List Nat} {i A m : Nat} {x : Ty}
theorem RInv.start (h : QT s H TY 0 H false = some os) : RInv s H TY (KW TY 0 os) os 0 0 0 := ⟨Nat.zero_le _, rfl, rfl, ⟨H, false, h⟩⟩
theorem Jyf {l r : List α} {q : α} (h : l.drop i = q :: r) : l[i]? = some q ∧ l.drop (i + 1) = r := by
 have h1 : (l.drop i)[0]? = some q := by rw [h]; rfl
 rw [List.getElem?_drop, Nat.add_zero] at h1; exact ⟨h1, by rw [Qh h1] at h; exact (List.cons.inj h).2⟩
theorem RInv.bound (h : RInv s H TY ps os i A m) (hx : TY[i]? = some x) (hH : Kp TY = (H : Int)) : (A : Int) + Xq x ≤ H := by
 exact gh
theorem RInv.fix (h : RInv s H TY ps os i A m) (hx : TY[i]? = some x) (hf : JL x = true) (h0 : 0 ≤ JV x) : ps[i]? = some (x, A, A + (JV x).toNat) ∧ RInv s H TY ps os (i + 1) (A + (JV x).toNat) m := by
 have h1 := h.tl
 obtain ⟨la, op, h2⟩ := h.off
 rw [Qh hx, KW, if_pos hf] at h1; rw [Qh hx, QT, if_pos hf] at h2
 obtain ⟨g1, g2⟩ := Jyf h1
 refine ⟨g1, (List.getElem?_eq_some_iff.1 hx).1, ?_, g2, ⟨la, op, h2⟩⟩; exact DS
theorem RInv.var (h : RInv s H TY ps os i A m) (hx : TY[i]? = some x) (hf : JL x = false) : m + 1 < os.length ∧ ps[i]? = some (x, os.getD m 0, os.getD (m + 1) 0) ∧ RInv s H TY ps os (i + 1) (A + 4) (m + 1) := by
 have hn : ¬ JL x = true := by rw [hf]; decide
 have h1 := h.tl
 obtain ⟨la, op, h2⟩ := h.off
 rw [Qh hx, KW, if_neg hn] at h1; rw [Qh hx, QT, if_neg hn] at h2
 split at h2
 ·cases h2
 ·obtain ⟨r, h3, h4⟩ := Option.map_eq_some_iff.1 h2
  have hp := Jk3 h3
  have hlen : (os.drop m).length = r.length + 1 := by rw [← h4]; rfl
  rw [List.length_drop] at hlen
  have ht : (os.drop m).tail = os.drop (m + 1) := by rw [List.tail_drop]
  have e0 : (os.drop m).getD 0 0 = os.getD m 0 := by rw [List.getD_eq_getElem?_getD, List.getD_eq_getElem?_getD, List.getElem?_drop, Nat.add_zero]
  have e1 : (os.drop m).getD 1 0 = os.getD (m + 1) 0 := by rw [List.getD_eq_getElem?_getD, List.getD_eq_getElem?_getD, List.getElem?_drop]
  rw [ht, e0, e1] at h1
  obtain ⟨g1, g2⟩ := Jyf h1
  refine ⟨by omega, g1, (List.getElem?_eq_some_iff.1 hx).1, ?_, g2, ⟨Xj ((s.drop A).take 4), true, ?_⟩⟩
  ·exact Dw
  ·rw [h3, ← ht, ← h4]; rfl
end
theorem Jsq (t : Ty) : (XG t).k = t.k := by cases t; rw [XG]; rfl
theorem Jyg (t : Ty) : (XG t).n = t.n := by cases t; rw [XG]; rfl
theorem Jk4 (t : Ty) : (XG t).ins = Wf t.ins := by cases t; rw [XG]; rfl
theorem erT_def : XG default = default := by show XG (.mk 0 0 none []) = .mk 0 0 none []; rw [XG, Wf]
mutual
theorem qL : ∀ (t : Ty) (d : Int), Vp (XG t) d = Vp t d
 | .mk k n p ins, d => by rw [XG, Vp, Vp, Jf4 ins, je]
theorem Jf4 : ∀ (l : List Ty) (d : Int), Xw (Wf l) d = Xw l d
 | [], _ => by rw [Wf]
 | x :: xs, d => by rw [Wf, Xw, Xw, qL x, Jf4 xs]
end
mutual
theorem Jf5 : ∀ (t : Ty), Wi (XG t) = Wi t
 | .mk k n p ins => by rw [XG, Wi, Wi, Jf6 ins]
theorem Jf6 : ∀ (l : List Ty), Zf (Wf l) = Zf l
 | [] => by rw [Wf]
 | x :: xs => by rw [Wf, Zf, Zf, Jf5 x, Jf6 xs]
end
mutual
theorem Yf : ∀ (t : Ty), JV (XG t) = JV t
 | .mk k n p ins => by rw [XG, JV, JV, Jf7 ins]
theorem Jf7 : ∀ (l : List Ty), VL (Wf l) = VL l
 | [] => by rw [Wf]
 | x :: xs => by rw [Wf, VL, VL, Yf x, Jf7 xs]
end
theorem XH (t : Ty) : JL (XG t) = JL t := by unfold JL; rw [qL, Jf5]
theorem Jsr (t : Ty) : Xq (XG t) = Xq t := by unfold Xq; rw [XH, Yf]
theorem zS : ∀ l : List Ty, Kp (l.map XG) = Kp l
 | [] => rfl
 | x :: xs => by rw [List.map_cons, Kp, Kp, Jsr, zS xs]
theorem Jf8 (ins : List Ty) (i : Nat) : (Wf ins).getD i default = XG (ins.getD i default) := by
 rw [zQ, List.getD_eq_getElem?_getD, List.getD_eq_getElem?_getD, List.getElem?_map]
 cases ins[i]? with
 | none => exact erT_def.symm
 | some x => rfl
theorem jg (k pick : Int) (ins : List Ty) (i : Nat) : JF k pick (Wf ins) i = XG (JF k pick ins i) := by unfold JF; exact Jf8 ins _
mutual
theorem Jc0 : ∀ (v : Vl) (t : Ty), Ku v (XG t) = Ku v t
 | .mk a b c d bits pb items pi pick, .mk k n p ins => by rw [XG, Ku, Ku, je, Jf9 items]
theorem Jf9 : ∀ (l : List Vl) (k pick : Int) (ins : List Ty) (i : Nat), Qz l k pick (Wf ins) i = Qz l k pick ins i
 | [], _, _, _, _ => by rw [Qz, Qz]
 | x :: xs, k, pick, ins, i => by rw [Qz, Qz, jg, Jc0 x, Jf9 xs]
end
theorem Jga (t : Ty) (v : Vl) : Vc (XG t) v = Vc t v := by unfold Vc; rw [qL, Jc0]
theorem zT (h : Nat) : ∀ (l : List (Ty × BS)) (f th : BS), XZ h (l.map fun p => (XG p.1, p.2)) f th = XZ h l f th
 | [], f, th => rfl
 | (x, s) :: l, f, th => by rw [List.map_cons, XZ, XZ, XH, zT h l, zT h l]
mutual
theorem Jc1 : ∀ (v : Vl) (t : Ty), Vj v (XG t) = Vj v t
 | .mk a b c d bits pb items pi pick, t => by
  have h1 : ((Qf items t.k pick t.ins 0).map fun p => (XG p.1, p.2)).headD (default, []) = (fun p : Ty × BS => (XG p.1, p.2)) ((Qf items t.k pick t.ins 0).headD (default, [])) := by
   cases Qf items t.k pick t.ins 0 with
   | nil => show (default, []) = (XG default, []); rw [erT_def]
   | cons x l => rfl
  have h2 : (((Qf items t.k pick t.ins 0).map fun p => (XG p.1, p.2)).map Prod.fst) = ((Qf items t.k pick t.ins 0).map Prod.fst).map XG := by rw [List.map_map, List.map_map]; rfl
  rw [Vj, Vj, Jsq, Jyg, Jk4, Jgb items, zT, h1, h2, zS]
theorem Jgb : ∀ (l : List Vl) (k pick : Int) (ins : List Ty) (i : Nat), Qf l k pick (Wf ins) i = (Qf l k pick ins i).map fun p => (XG p.1, p.2)
 | [], _, _, _, _ => by rw [Qf, Qf]; rfl
 | x :: xs, k, pick, ins, i => by rw [Qf, Qf, jg, Jc1 x, Jgb xs]; rfl
end
theorem Jss (t : Ty) (v : Vl) : ZY (XG t) v = ZY t v := by unfold ZY; rw [Jga, Jc1]
theorem Jst (k : Int) (ins : List Ty) (m : Nat) : KF k (Wf ins) m = (KF k ins m).map XG := by
 unfold KF
 rw [List.map_map]; exact List.map_congr_left fun i _ => jg k 0 ins i
theorem zU (s : BS) (h : Nat) : ∀ (l : List Ty) (a la : Nat) (op : Bool), QT s h (l.map XG) a la op = QT s h l a la op
 | [], _, _, _ => rfl
 | x :: xs, a, la, op => by rw [List.map_cons, QT, QT, XH, Yf, zU s h xs, zU s h xs]
theorem vH (s : BS) : ∀ (l : List Ty) (a : Nat) (os : List Nat), VV s (l.map XG) a os = VV s l a os
 | [], _, _ => rfl
 | x :: xs, a, os => by rw [List.map_cons, VV, VV, XH, Yf, vH s xs, vH s xs]
theorem Jsu (k n : Int) (ins : List Ty) (s : BS) : Kk k n (Wf ins) s = Kk k n ins s := by
 unfold Kk
 rw [je, jg, XH, Yf]
theorem Jsv (k n : Int) (ins : List Ty) (fs : List Gf) (s : BS) : Jcm k n (Wf ins) fs s = Jcm k n ins fs s := by
 unfold Jcm
 rw [Jsu, Jst, zS, zU]
 split
 ·rfl
 ·split
  ·rfl
  ·cases QT s (Kp (KF k ins (Kk k n ins s).1)).toNat (KF k ins (Kk k n ins s).1) 0 (Kp (KF k ins (Kk k n ins s).1)).toNat false with
   | none => rfl
   | some os => simp only [vH]
theorem Jww (k n : Int) (p : Pl) (ins : List Ty) (fs : List Gf) (s : BS) : jT k n none (Wf ins) fs s = jT k n p ins fs s := by
 have h1 : JL (.mk k n none (Wf ins)) = JL (.mk k n p ins) := by have := XH (.mk k n p ins); rw [XG] at this; exact this
 have h2 : JV (.mk k n none (Wf ins)) = JV (.mk k n p ins) := by have := Yf (.mk k n p ins); rw [XG] at this; exact this
 unfold jT
 rw [h1, h2, je, Jsv]
mutual
theorem Jk5 : ∀ (t : Ty), Qg (XG t) = Qg t
 | .mk k n p ins => by funext s; rw [XG, Qg, Qg, Jgc ins, Jww k n p]
theorem Jgc : ∀ (l : List Ty), ZB (Wf l) = ZB l
 | [] => by rw [Wf]
 | x :: xs => by rw [Wf, ZB, ZB, Jk5 x, Jgc xs]
end
theorem Jsw (t : Ty) (s : BS) : getR (XG t) s = getR t s := by unfold getR; rw [qL, Jk5]
theorem Jsx (items : List Vl) (x : Ty) : WJ items (XG x) = WJ items x := by unfold WJ; rw [List.map_congr_left fun v _ => Jc1 v x]
theorem Jsy (k n : Int) (ins : List Ty) (items : List Vl) (rs : List BS) : VY k n (Wf ins) items rs = VY k n ins items rs := by
 unfold VY WI
 rw [Jf8, je, Jsq, Jsx, Yf]
mutual
theorem zV : ∀ (v : Vl) (t : Ty), KD v (XG t) = KD v t
 | .mk a b c d bits pb items pi pick, t => by rw [KD, KD, Jsq, Jyg, Jk4, Jat items, Jsy]
theorem Jat : ∀ (l : List Vl) (k pick : Int) (ins : List Ty) (i : Nat), Kf l k pick (Wf ins) i = Kf l k pick ins i
 | [], _, _, _, _ => by rw [Kf, Kf]
 | x :: xs, k, pick, ins, i => by rw [Kf, Kf, jg, zV x, Jat xs]
end
theorem Jnf (t : Ty) (v : Vl) : YV (XG t) v = YV t v := by unfold YV; rw [Jga, zV]
def jh (x : BS × BS) : Vl := KP [wi x.1, wi x.2] 0
def acV (a : AcE) : Vl := KP [wi a.addr, .mk a.nonce 0 0 0 [] none [] none 0, .mk a.bal.a a.bal.b a.bal.c a.bal.d [] none [] none 0, wi a.code, KP (a.slots.map jh) 0] 0
def WP (l : List AcE) : Vl := KP (l.map acV) 0
theorem qM : Vp QU 0 = 0 := by decide +kernel
def VI (l : List AcE) : BS × Int := if Qn l ≠ 0 then ([], Qn l) else ZY QU (WP l)
def Yw (l : List AcE) : BS × Int := if Qn l ≠ 0 then ([], Qn l) else YV QU (WP l)
def ZD (v : Vl) : BS := v.items.map fun x => UInt8.ofNat (x.num.getD 0 0)
def qN (v : Vl) (i : Nat) : Vl := v.items.getD i v0L
def Yg (v : Vl) : BS × BS := (ZD (qN v 0), ZD (qN v 1))
def w4B (v : Vl) : W4 := ⟨v.num.getD 0 0, v.num.getD 1 0, v.num.getD 2 0, v.num.getD 3 0⟩
def acB (v : Vl) : AcE := ⟨ZD (qN v 0), (qN v 1).num.getD 0 0, w4B (qN v 2), ZD (qN v 3), (qN v 4).items.map Yg⟩
def vI (v : Vl) : List AcE := v.items.map acB
def ji (s : BS) : List AcE × Int := if (getR QU s).2 ≠ 0 then ([], (getR QU s).2) else if Qn (vI (getR QU s).1) ≠ 0 then ([], Qn (vI (getR QU s).1)) else (vI (getR QU s).1, 0)
theorem qO (hl : s.length ≤ 100000) : PureT (α := VR (wi s)) Tryz.prog 84 [Jy s].toArray (fun y => y.x.val) [] (fun y => y.L) [] := by
 refine JE Tryz.func84 rfl rfl fun w => Nl fun r1 => ?_; refine GU ?_; refine g8 ?_; refine LN rfl fun r2 => ?_
 refine kq ?_; refine HN ?_; refine Js (σ := Nat × Vn) (fun q => q.1 ≤ s.length ∧ rowOk 7 q.1 (KL ((s.take q.1).map Zu)) q.2) (fun q => [(0, Jy s), (2, Vk r1), (3, Vk r2), (4, .int .i64 (q.1 : Int))]) (fun q => (r2, .cells #[.int .u64 0, .int .u64 0, .int .u64 0, .int .u64 0, .slice none 0 0, J3 q.1 q.2, .int .i64 0] 81 (0, 0)) :: (r1, .cells #[.int .u64 0, .int .u64 0, .int .u64 0, .int .u64 0, .slice none 0 0, .slice none 0 0, .int .i64 0] 81 (0, 0)) :: JJ 81 (KL ((s.take q.1).map Zu)) q.2) (fun _ _ _ => True) (fun q => s.length - q.1) (0, none) ⟨Nat.zero_le _, rfl, rfl⟩ (lK rfl) (List.Sublist.refl _) (fun _ _ h => h) ?_; rintro ⟨i, row⟩ ⟨hi1, hrow⟩; simp only at hi1 hrow; change HC _ _ [(0, Jy s), (2, Vk r1), (3, Vk r2), (4, .int .i64 (i : Int))] ((r2, .cells #[.int .u64 0, .int .u64 0, .int .u64 0, .int .u64 0, .slice none 0 0, J3 i row, .int .i64 0] 81 (0, 0)) :: (r1, .cells #[.int .u64 0, .int .u64 0, .int .u64 0, .int .u64 0, .slice none 0 0, .slice none 0 0, .int .i64 0] 81 (0, 0)) :: JJ 81 (KL ((s.take i).map Zu)) row) _ _ _; refine gH ?_; refine kG ?_; refine kU ?_; refine cD (fun g => ?_) fun g => ?_
 ·refine J9 4 rfl ?_
  refine NF ?_; refine Jk (k := 6) rfl rfl rfl rfl rfl (fun _ hS => (J5 (r := [_, _, _, _]) rfl rfl)) (gx fun rb => ?_); refine JB (L0 := [_, _, _]) (xs := KL ((s.take i).map Zu)) (row := row) (n := i) (sz := 7) (b := 88) (news := [_, _, _, _, _, _, _]) (List.perm_append_comm (l₁ := [_, _, _])) rfl rfl rfl rfl (kn 0 rfl) rfl rfl rfl rfl rfl m7 rfl rfl rfl m7 hrow m0 m0 fun ra cap sp hra => ?_
  refine GQ ?_; refine G1 ?_; exact DH
 ·refine NK ?_
  have honeV : ([.int .u64 0, .int .u64 0, .int .u64 0, .int .u64 0, .slice none 0 0, J3 i row, .int .i64 0] : List Value).all Va = true := by cases row <;> rfl
  exact NH
def byB (x : Vl) : UInt8 := UInt8.ofNat (x.num.getD 0 0)
theorem Jz5 (v : Vl) : ZD v = v.items.map byB := rfl
theorem Jng (q : Nat) : Value.int .u8 (IntKind.u8.wrap (q : Int)) = bV (UInt8.ofNat q) := by
 rw [qm]
 congr 1
 apply UInt8.toNat_inj.1
 simp
def ofS (l : List Vl) (i : Nat) : BS := (l.take i).map byB ++ List.replicate (l.length - i) 0
theorem Jc2 (l : List Vl) (h : i ≤ l.length) : (ofS l i).length = l.length := by unfold ofS; simp; omega
theorem Jsz {l : List Vl} {x : Vl} (h : l[i]? = some x) : ((ofS l i).map bV).set i (bV (byB x)) = (ofS l (i + 1)).map bV := by
 have hlt := (List.getElem?_eq_some_iff.1 h).1
 unfold ofS
 rw [← List.map_set]
 congr 1
 rw [List.set_append_right _ _ nR, KJ h, List.map_append, List.append_assoc]
 congr 1
 rw [show (List.map byB (List.take i l)).length = i by simp; omega, Nat.sub_self, show l.length - i = (l.length - (i + 1)) + 1 by omega, List.replicate_succ, List.set_cons_zero]
 rfl
theorem Jwx (hv : v.In R) (hl : v.items.length ≤ 100000) : PureR Tryz.prog 62 [v.val].toArray (Jy (ZD v)) R := by
 obtain ⟨a, b, c, d, bits, pb, items, pi, pick⟩ := v
 have hs : Seg R items.length (KL items) pi := by cases hv; assumption
 change items.length ≤ 100000 at hl; rw [Jz5]; refine Ja Tryz.func62 rfl rfl fun w => Nl fun r1 => ?_; refine XO 7 [0] rfl rfl (NE ?_); refine Wq (n := items.length) (b := 1) rfl rfl rfl rfl rfl rfl rfl rfl rfl m0 m0 fun rm => ?_; rw [show List.replicate items.length (Value.int .u8 0) = (ofS items 0).map bV from by unfold ofS; simp [bV]]; refine XO 8 [1] rfl rfl (HU ?_); refine Js (σ := Nat) (fun i => i ≤ items.length) (fun i => [(3, .slice (some ⟨rm, 0, none⟩) items.length items.length), (11, KE items.length pi), (12, .int .i64 (items.length : Int)), (13, .int .i64 (i : Int))]) (fun i => [(rm, .cells ((ofS items i).map bV).toArray 5 (0, 0))]) (fun _ _ _ => True) (fun i => items.length - i) 0 (Nat.zero_le _) (lK rfl) (.cons_cons _ (List.nil_sublist _)) (fun _ _ h => h) ?_; intro i hi1; refine NK ?_; refine cD (fun g => ?_) fun g => ?_
 ·refine gr ?_
  obtain ⟨⟨ya, yb, yc, yd, ybits, ypb, yitems, ypi, ypick⟩, hx, hxm⟩ := QN N4
  refine kj ?_
  refine gn ?_; refine LR rfl (KV oR rfl hs hx rfl rfl) (LN rfl fun r2 => DL ?_)
  refine kq ?_; refine G1 ?_
  refine Du ?_; refine LS 2 [0] rfl rfl (Jj (show _ = bV (UInt8.ofNat ya) from Jng ya) (LR rfl (Kg (j := i) (m := 1) (off' := i) rfl rfl rfl rfl m0 m0 m0) (Ks (k := 1) (off := i) (xs := (ofS items i).map bV) (ys := (ofS items (i + 1)).map bV) rfl rfl rfl rfl rfl rfl (by rw [List.length_map, Jc2 _ m0]; omega) (Jsz hx) rfl (kB ?_)))); exact GH
 ·refine NK ?_
  obtain rfl : i = items.length := by omega
  refine kj ?_; refine LR rfl (KB (b := ofS items items.length) (row := some (rm, items.length, [])) (e := 5) (show _ = some (J3 (ofS items items.length).length _) from by rw [Jc2 _ (Nat.le_refl _)]; rfl) ⟨by rw [List.length_map]; omega, by rw [Jc2 _ (Nat.le_refl _)]; simp⟩ (fun p hp => .inl mP) rfl rfl rfl) (DP fun w1 hs1 => ?_); rw [show ofS items items.length = items.map byB from by unfold ofS; simp]; rfl
theorem J1y (hl : s.length ≤ 100000) (h : (r, Obj.cells (KL (s.map Zu)).toArray 0 (0, 0)) ∈ Lr) : Vl.In Lr (.mk 0 0 0 0 [] none (s.map Zu) (some (⟨r, 0, none⟩, s.length)) 0) :=
 .mk u0 u0 u0 u0 m7 rfl N5 ⟨by rw [List.length_map]; exact Nat.le_refl _, fun _ => ⟨rfl, _, 0, (0, 0), h, by rw [List.drop_zero, List.toList_toArray, List.take_length]⟩⟩ i0 fun x hx => by
  obtain ⟨b, _, rfl⟩ := List.mem_map.1 hx
  exact (Jsi b).mono fun q hq => absurd hq List.not_mem_nil
def Jc3 {s : BS} (hl : s.length ≤ 100000) : VR (wi s) := ⟨_, [(0, .cells (KL (s.map Zu)).toArray 0 (0, 0))], J1y hl (List.mem_singleton_self _), Jsj s _⟩
theorem Js0 {its : List Vl} {n : Nat} (h : (r, Obj.cells (KL its).toArray e (0, 0)) ∈ Lr) (hn : its.length = n) (hl : n ≤ 1000) (hi : ∀ x ∈ its, x.In Lr) : Vl.In Lr (.mk 0 0 0 0 [] none its (some (⟨r, 0, none⟩, n)) 0) :=
 .mk u0 u0 u0 u0 m7 rfl m0 ⟨Nat.le_of_eq hn, fun _ => ⟨rfl, _, e, (0, 0), h, by rw [List.drop_zero, List.toList_toArray, List.take_length]⟩⟩ i0 hi
theorem Js1 {F yL zL : Jp} {y z : Vl} (hin : ∀ x ∈ us, x.In F) (hy : y.In yL) (hz : z.In zL) {q : Vl} (hq : q ∈ us ++ [Vl.mk 0 0 0 0 [] none [y, z] (some (⟨rb, 0, none⟩, 2)) 0]) : q.In ((rb, Obj.cells (KL [y, z]).toArray e (0, 0)) :: (zL ++ (yL ++ F))) := by
 rcases List.mem_append.1 hq with hq | hq
 ·exact (hin q hq).mono fun p hp => by simp [hp]
 ·rw [List.mem_singleton.1 hq]
  refine Js0 List.mem_cons_self rfl m7 fun x hx => ?_; simp only [List.mem_cons, List.not_mem_nil, or_false] at hx
  rcases hx with rfl | rfl
  ·exact hy.mono fun p hp => by simp [hp]
  ·exact hz.mono fun p hp => by simp [hp]
theorem Js2 {k v : BS} {y z : Vl} {p : Pl} (her : us.map Xh = (slots.take j).map jh) (hx : slots[j]? = some (k, v)) (hy : Xh y = wi k) (hz : Xh z = wi v) : (us ++ [Vl.mk 0 0 0 0 [] none [y, z] p 0]).map Xh = (slots.take (j + 1)).map jh := by
 rw [List.map_append, her, KJ hx, List.map_append]
 congr 1
 show [Xh _] = [jh (k, v)]
 rw [Qs, Wr, List.map_cons, List.map_cons, List.map_nil, hy, hz]; rfl
theorem Js3 {vs : List Vl} {E F U yL zL : Jp} {y z : Vl} {nonce ba bb bc bd n : Nat} {p : Pl} (hin : ∀ x ∈ vs, x.In E) (hs : Seg U n (KL us) p) (hn : us.length = n) (hn2 : n ≤ 100000) (hin2 : ∀ x ∈ us, x.In F) (hnu : XD nonce) (hba : W4.ok ⟨ba, bb, bc, bd⟩) (hy : y.In yL) (hz : z.In zL) {q : Vl}
  (hq : q ∈ vs ++ [Vl.mk 0 0 0 0 [] none [y, .mk nonce 0 0 0 [] none [] none 0, .mk ba bb bc bd [] none [] none 0, z, .mk 0 0 0 0 [] none us p 0] (some (⟨rb, 0, none⟩, 5)) 0]) : q.In ((rb, Obj.cells (KL [y, .mk nonce 0 0 0 [] none [] none 0, .mk ba bb bc bd [] none [] none 0, z, .mk 0 0 0 0 [] none us p 0]).toArray e (0, 0)) :: (zL ++ (yL ++ (U ++ (F ++ E))))) := by
 rcases List.mem_append.1 hq with hq | hq
 ·exact (hin q hq).mono fun p hp => by simp [hp]
 ·rw [List.mem_singleton.1 hq]
  refine Js0 List.mem_cons_self rfl m7 fun x hx => ?_; simp only [List.mem_cons, List.not_mem_nil, or_false] at hx
  rcases hx with rfl | rfl | rfl | rfl | rfl
  ·exact hy.mono fun p hp => by simp [hp]
  ·exact .mk hnu u0 u0 u0 m7 rfl m7 rfl i0 (fun x hx => nomatch hx)
  ·exact .mk hba.a hba.b hba.c hba.d m7 rfl m7 rfl i0 (fun x hx => nomatch hx)
  ·exact hz.mono fun p hp => by simp [hp]
  ·refine .mk u0 u0 u0 u0 m7 rfl m0 (by rw [hn]; exact hs.mono fun p hp => by simp [hp]) i0 fun x hx => (hin2 x hx).mono fun p hp => by simp [hp]
theorem Js4  {vs : List Vl} {addr code : BS} {nonce ba bb bc bd : Nat} {ap p p2 : Pl} {y z : Vl} (her : vs.map Xh = (accts.take i).map fun a => acV a.er) (hx : accts[i]? = some ⟨addr, nonce, ⟨ba, bb, bc, bd⟩, code, slots, ap⟩) (hy : Xh y = wi addr) (hz : Xh z = wi code) (hu : us.map Xh = (slots.take slots.length).map jh) :
  (vs ++ [Vl.mk 0 0 0 0 [] none [y, .mk nonce 0 0 0 [] none [] none 0, .mk ba bb bc bd [] none [] none 0, z, .mk 0 0 0 0 [] none us p 0] p2 0]).map Xh = (accts.take (i + 1)).map fun a => acV a.er := by
 rw [List.map_append, her, KJ hx, List.map_append]
 congr 1
 show [Xh _] = [acV (AcL.er ⟨addr, nonce, ⟨ba, bb, bc, bd⟩, code, slots, ap⟩)]
 rw [List.take_length] at hu; simp only [Qs, Wr, List.map_cons, List.map_nil, hy, hz, hu]
 rfl
theorem Js5 (accts : List AcL) : Vl.mk 0 0 0 0 [] none (accts.map fun a => acV a.er) none 0 = WP (accts.map AcL.er) := by
 unfold WP KP
 rw [List.map_map]; rfl
open Classical in
theorem Jk7 (a b : α) (Z Y M U W : List α) : (a :: b :: (Z ++ (Y ++ (M ++ (U ++ W))))).Perm (U ++ (a :: b :: (M ++ (Z ++ (Y ++ W))))) := by
 exact kd
open Classical in
theorem Jk8 (a b : α) (Z Y M U F V E : List α) : (a :: b :: (Z ++ (Y ++ (M ++ (U ++ (F ++ (V ++ E))))))).Perm (V ++ (a :: b :: (M ++ (Z ++ (Y ++ (U ++ (F ++ E))))))) := by
 exact kd
open Classical in
theorem Jk9 (r a b : α) (M Z Y F W : List α) : (r :: a :: b :: (M ++ (Z ++ (Y ++ (F ++ W))))).Perm (a :: (M ++ (r :: ((b :: (Z ++ (Y ++ F))) ++ W)))) := by
 exact kd
open Classical in
theorem Jla (r a b : α) (M W : List α) : (r :: a :: b :: (M ++ W)).Perm (a :: (M ++ (r :: (b :: W)))) := by
 exact kd
def Ac1 (a : AcL) : Prop := a.addr.length ≤ 100000 ∧ a.code.length ≤ 100000 ∧ a.slots.length ≤ 100000 ∧ ∀ x ∈ a.slots, x.1.length ≤ 100000 ∧ x.2.length ≤ 100000
set_option maxHeartbeats 2000000 in
theorem Jlb {p : Pl} (hs : StL.In R ⟨accts, p⟩) (hn : accts.length ≤ 100000) (hb : ∀ a ∈ accts, Ac1 a) : PureT (α := VR (WP (accts.map AcL.er))) Tryz.prog 54 [KE accts.length p].toArray (fun y => y.x.val) [] (fun y => y.L) R := by
 have hseg : Seg R accts.length (jJ accts) p := hs.seg
 refine JE Tryz.func54 rfl rfl fun w => Nl fun r1 => ?_; refine GU ?_; refine LN rfl fun r2 => G1 ?_; refine GV ?_; refine G5 ?_; refine Js (σ := Nat × List Vl × Vn × Jp) (fun q => q.1 ≤ accts.length ∧ rowOk 7 q.1 (KL q.2.1) q.2.2.1 ∧ (∀ x ∈ q.2.1, Vl.In q.2.2.2 x) ∧ q.2.1.map Xh = (accts.take q.1).map fun a => acV a.er) (fun q => [(2, Vk r1), (3, Vk r2), (9, KE accts.length p), (10, .int .i64 (accts.length : Int)), (11, .int .i64 (q.1 : Int))]) (fun q => (r2, .cells #[.int .u64 0, .int .u64 0, .int .u64 0, .int .u64 0, .slice none 0 0, J3 q.1 q.2.2.1, .int .i64 0] 81 (0, 0)) :: (r1, .cells #[.int .u64 0, .int .u64 0, .int .u64 0, .int .u64 0, .slice none 0 0, .slice none 0 0, .int .i64 0] 81 (0, 0)) :: (JJ 81 (KL q.2.1) q.2.2.1 ++ q.2.2.2)) (fun _ _ _ => True) (fun q => accts.length - q.1) (0, [], none, []) ⟨Nat.zero_le _, ⟨rfl, rfl⟩, fun x hx => (nomatch hx), rfl⟩ (lK rfl) mN (fun _ _ h => h) ?_; rintro ⟨i, vs, row, E⟩ ⟨hi1, hrow, hin, her⟩; simp only at hi1 hrow hin her; refine NK ?_; refine cD (fun g => ?_) fun g => ?_
 ·refine gr ?_
  obtain ⟨a, ha, hma⟩ := QN (show i < accts.length by omega)
  have ha2 := hs.accts a hma
  obtain ⟨hb1, hb2, hb3, hb4⟩ := hb a hma
  obtain ⟨addr, nonce, ⟨ba, bb, bc, bd⟩, code, slots, ap⟩ := a
  have hnu : XD nonce := ha2.nonce
  have hba : W4.ok ⟨ba, bb, bc, bd⟩ := ha2.bal
  have hsg : Seg R slots.length (wq slots) ap := ha2.seg
  simp only at hb1 hb2 hb3 hb4; refine Dq ?_
  refine kV ?_; refine LN rfl fun r3 => ?_
  refine kq ?_; refine GU ?_; refine LN rfl fun r4 => XO 7 [1] rfl rfl (LR rfl (Jl rfl hsg rfl) (G5 ?_)); refine Js (σ := Nat × List Vl × Vn × Jp) (fun q => q.1 ≤ slots.length ∧ rowOk 7 q.1 (KL q.2.1) q.2.2.1 ∧ (∀ x ∈ q.2.1, Vl.In q.2.2.2 x) ∧ q.2.1.map Xh = (slots.take q.1).map jh) (fun q => [(2, Vk r1), (3, Vk r2), (5, Vk r3), (6, Vk r4), (9, KE accts.length p), (10, .int .i64 (accts.length : Int)), (11, .int .i64 (i : Int)), (16, KE slots.length ap), (17, .int .i64 (slots.length : Int)), (18, .int .i64 (q.1 : Int))]) (fun q => (r4, .cells #[.int .u64 0, .int .u64 0, .int .u64 0, .int .u64 0, .slice none 0 0, J3 q.1 q.2.2.1, .int .i64 0] 81 (0, 0)) :: (r3, .cells #[Jy addr, uV nonce, uV ba, uV bb, uV bc, uV bd, Jy code, KE slots.length ap] 34 (0, 0)) :: (r2, .cells #[.int .u64 0, .int .u64 0, .int .u64 0, .int .u64 0, .slice none 0 0, J3 i row, .int .i64 0] 81 (0, 0)) :: (r1, .cells #[.int .u64 0, .int .u64 0, .int .u64 0, .int .u64 0, .slice none 0 0, .slice none 0 0, .int .i64 0] 81 (0, 0)) :: (JJ 81 (KL q.2.1) q.2.2.1 ++ (q.2.2.2 ++ (JJ 81 (KL vs) row ++ E)))) (fun _ _ _ => True) (fun q => slots.length - q.1) (0, [], none, []) ⟨Nat.zero_le _, ⟨rfl, rfl⟩, fun x hx => (nomatch hx), rfl⟩ (lK rfl) mN (fun _ _ h => h) ?_; rintro ⟨j, us, rw2, F⟩ ⟨hj1, hrow2, hin2, her2⟩; simp only at hj1 hrow2 hin2 her2; refine NK ?_; refine cD (fun g => ?_) fun g => ?_
  ·refine gr ?_
   obtain ⟨⟨k, v⟩, hx, hmx⟩ := QN (show j < slots.length by omega)
   obtain ⟨hk1, hv1⟩ := hb4 _ hmx
   simp only at hk1 hv1; refine Dq ?_
   refine LR rfl (Jf (j := j) rfl hsg rfl rfl rfl me m0) (LR rfl (KU Ki oR rfl hsg hx rfl rfl) (LN rfl fun r5 => ?_))
   refine kq ?_; refine HY ?_
   refine JD [(r4, .cells #[.int .u64 0, .int .u64 0, .int .u64 0, .int .u64 0, .slice none 0 0, J3 j rw2, .int .i64 0] 81 (0, 0)), (r5, .cells #[Jy k, Jy v] 59 (0, 0))] [(0, .pure), (1, .pure), (2, .pure), (3, .pure), (4, .grow (KA (Jc3 hk1) (fun y => y.x.val) (fun y => y.L))), (5, .pure), (6, .pure), (7, .grow (KA (Jc3 hv1) (fun y => y.x.val) (fun y => y.L))), (8, .dep [26, 29] (jF 2 81)), (9, .pure), (10, .dep [31] (jF 1 81))] 11 [0, 1, 2, 3, 5, 6, 4, 7, 8, 9, 10] m5 m5 m6 ?_
   refine NV ?_; refine Ny ?_
   refine kF ?_; refine JS (k := 4) rfl rfl rfl rfl rfl Jvg (Jcv hk1) oN fun y => ?_
   obtain ⟨⟨ya, yb, yc, yd, ybits, ypb, yitems, ypi, ypick⟩, yL, yok, yer⟩ := y
   refine JS (k := 7) rfl rfl rfl rfl rfl Jvg (Jcv hv1) oN fun y => ?_
   obtain ⟨⟨za, zb, zc, zd, zbits, zpb, zitems, zpi, zpick⟩, zL, zok, zer⟩ := y
   refine Qe (k := 8) (dv := [_, _]) (n := 2) (sz := 7) (vs := [_, _]) (zs := [_, _, _, _, _, _, _, _, _, _, _, _, _, _]) (r := [uV ya, uV yb, uV yc, uV yd, KE ybits.length ypb, KE yitems.length ypi, .int .i64 ypick, uV za, uV zb, uV zc, uV zd, KE zbits.length zpb, KE zitems.length zpi, .int .i64 zpick]) rfl rfl rfl rfl rfl rfl rfl rfl rfl rfl rfl rfl rfl ms rfl fun rb => Jk (k := 9) rfl rfl rfl rfl rfl (fun _ hS => (J5 (r := [_, _, _, _, _, _, _]) rfl rfl)) (Qe (k := 10) (dv := [_]) (n := 1) (sz := 7) (vs := [_]) (zs := [_, _, _, _, _, _, _]) (r := [.int .u64 0, .int .u64 0, .int .u64 0, .int .u64 0, .slice none 0 0, .slice (some ⟨rb, 0, none⟩) 2 2, .int .i64 0]) rfl rfl rfl rfl rfl rfl rfl rfl rfl rfl rfl rfl rfl ms rfl fun rc => Kc (KR (Jk7 (M := [_, _, _, _, _]) ..) (JB (L0 := _) (xs := KL us) (row := rw2) (n := j) (sz := 7) (b := 88) (news := [_, _, _, _, _, _, _]) (List.Perm.refl _) rfl rfl rfl rfl (kn 0 rfl) rfl rfl rfl rfl rfl m7 rfl rfl rfl m7 hrow2 m0 m0 fun ra cap sp hra => ?_)))
   refine LS 1 [] rfl rfl (Ky (k := 4) (cs' := #[.int .u64 0, .int .u64 0, .int .u64 0, .int .u64 0, .slice none 0 0, J3 (j + 1) (some (ra, cap, sp)), .int .i64 0]) rfl rfl rfl rfl rfl rfl rfl rfl rfl rfl (kB ?_)); refine Jj mY (HG ?_)
   have hvc : KL us ++ Vl.cells (.mk 0 0 0 0 [] none [(.mk ya yb yc yd ybits ypb yitems ypi ypick), (.mk za zb zc zd zbits zpb zitems zpi zpick)] (some (⟨rb, 0, none⟩, 2)) 0) = KL (us ++ [.mk 0 0 0 0 [] none [(.mk ya yb yc yd ybits ypb yitems ypi ypick), (.mk za zb zc zd zbits zpb zitems zpi zpick)] (some (⟨rb, 0, none⟩, 2)) 0]) := by unfold KL; rw [List.flatMap_append]; simp
   refine WM (Jk9 (M := [_, _, _, _, _]) ..) ?_; exact Jm (j + 1, us ++ [.mk 0 0 0 0 [] none [(.mk ya yb yc yd ybits ypb yitems ypi ypick), (.mk za zb zc zd zbits zpb zitems zpi zpick)] (some (⟨rb, 0, none⟩, 2)) 0], some (ra, cap, sp), _ :: (zL ++ (yL ++ F))) ⟨by simp only; omega, by simp only; rw [← hvc]; exact hra, fun z hz => Js1 hin2 yok zok hz, Js2 her2 hx yer zer⟩ ml (lK rfl) nI (fun _ _ h => h)
  ·refine gr ?_
   obtain rfl : j = slots.length := by omega
   have hul : us.length = slots.length := by have := congrArg List.length her2; simpa using this
   have hvr2 : J3 slots.length rw2 = KE us.length (Qv rw2) := by rw [hul]; exact (Vw _ _ (fun h => by rw [h] at hrow2; exact hrow2.1)).symm
   rw [hvr2]
   refine JD [(r2, .cells #[.int .u64 0, .int .u64 0, .int .u64 0, .int .u64 0, .slice none 0 0, J3 i row, .int .i64 0] 81 (0, 0)), (r3, .cells #[Jy addr, uV nonce, uV ba, uV bb, uV bc, uV bd, Jy code, KE slots.length ap] 34 (0, 0)), (r4, .cells #[.int .u64 0, .int .u64 0, .int .u64 0, .int .u64 0, .slice none 0 0, KE us.length (Qv rw2), .int .i64 0] 81 (0, 0))] [(0, .pure), (1, .pure), (2, .pure), (3, .pure), (4, .grow (KA (Jc3 hb1) (fun y => y.x.val) (fun y => y.L))), (5, .pure), (6, .pure), (7, .pure), (8, .pure), (9, .pure), (10, .pure), (11, .pure), (12, .pure), (13, .pure), (14, .grow (KA (Jc3 hb2) (fun y => y.x.val) (fun y => y.L))), (15, .pure), (16, .dep [40, 44, 47, 50, 51] (jF 5 81)), (17, .pure), (18, .dep [53] (jF 1 81))] 19 [0, 1, 2, 3, 5, 6, 9, 10, 11, 12, 13, 15, 4, 7, 8, 14, 16, 17, 18] m5 m5 m6 ?_
   refine NV ?_; refine Ny ?_
   refine kF ?_
   refine NY ?_; refine JS (k := 4) rfl rfl rfl rfl rfl Jvg (Jcv hb1) oN fun y => ?_
   obtain ⟨⟨ya, yb, yc, yd, ybits, ypb, yitems, ypi, ypick⟩, yL, yok, yer⟩ := y
   refine Vi (k := 7) rfl rfl rfl rfl rfl Jp9 (YH _) (Jk (k := 8) rfl rfl rfl rfl rfl (fun _ hS => (J5 (r := [_, _, _, _, _, _, _]) rfl rfl)) (JS (k := 14) rfl rfl rfl rfl rfl Jvg (Jcv hb2) oN fun y => ?_))
   obtain ⟨⟨za, zb, zc, zd, zbits, zpb, zitems, zpi, zpick⟩, zL, zok, zer⟩ := y
   refine NB fun rb rc => ?_; refine KR (Jk8 (M := [_, _, _, _]) ..) (JB (L0 := _) (xs := KL vs) (row := row) (n := i) (sz := 7) (b := 88) (news := [_, _, _, _, _, _, _]) (List.Perm.refl _) rfl rfl rfl rfl (kn 0 rfl) rfl rfl rfl rfl rfl m7 rfl rfl rfl m7 hrow m0 m0 fun ra cap sp hra => ?_)
   refine H7 ?_; refine kB ?_; refine ND ?_
   have hvc : KL vs ++ Vl.cells (.mk 0 0 0 0 [] none [(.mk ya yb yc yd ybits ypb yitems ypi ypick), (.mk nonce 0 0 0 [] none [] none 0), (.mk ba bb bc bd [] none [] none 0), (.mk za zb zc zd zbits zpb zitems zpi zpick), .mk 0 0 0 0 [] none us (Qv rw2) 0] (some (⟨rb, 0, none⟩, 5)) 0) = KL (vs ++ [.mk 0 0 0 0 [] none [(.mk ya yb yc yd ybits ypb yitems ypi ypick), (.mk nonce 0 0 0 [] none [] none 0), (.mk ba bb bc bd [] none [] none 0), (.mk za zb zc zd zbits zpb zitems zpi zpick), .mk 0 0 0 0 [] none us (Qv rw2) 0] (some (⟨rb, 0, none⟩, 5)) 0]) := by unfold KL; rw [List.flatMap_append]; simp
   refine WM (Jla (M := [_, _, _, _]) ..) ?_; exact kg
 ·refine NK ?_
  have honeV : ([.int .u64 0, .int .u64 0, .int .u64 0, .int .u64 0, .slice none 0 0, J3 i row, .int .i64 0] : List Value).all Va = true := by cases row <;> rfl
  refine Nq fun w1 hs1 => ?_
  have hiM : i = accts.length := by omega
  have hvl : vs.length = i := by have := congrArg List.length her; simp at this; omega
  rw [hiM, List.take_length] at her; rw [← hvl] at hrow
  have hvr : J3 i row = KE vs.length (Qv row) := by rw [← hvl]; exact (Vw _ _ (fun h => by rw [h] at hrow; exact hrow.1)).symm
  exact ⟨⟨.mk 0 0 0 0 [] none vs (Qv row) 0, JJ 81 (KL vs) row ++ E, YR m0 (Ke hrow m7) hin i0, by rw [Qs, Wr, her]; exact Js5 ..⟩, congrArg (fun z => Ending.returned (Value.agg #[.int .u64 0, .int .u64 0, .int .u64 0, .int .u64 0, .slice none 0 0, z, .int .i64 0])) hvr, hs1.weakL (.cons _ (.cons _ (List.Sublist.refl _)))⟩
set_option maxHeartbeats 2000000 in
theorem Jgd {p : Pl} (hs : StL.In R ⟨accts, p⟩) (hn : accts.length ≤ 100000) (hb : ∀ a ∈ accts, Ac1 a) : PureT (α := VR (WP (accts.map AcL.er))) Tryz.prog 57 [StL.val ⟨accts, p⟩].toArray (fun y => y.x.val) [] (fun y => y.L) R := by
 have hseg : Seg R accts.length (jJ accts) p := hs.seg
 refine JE Tryz.func57 rfl rfl fun w => NA fun r1 r2 => ?_; refine GU ?_; refine g8 ?_; refine LN rfl fun r3 => ?_
 refine kq ?_; refine HN ?_; refine Js (σ := Nat × List Vl × Vn × Jp) (fun q => q.1 ≤ accts.length ∧ rowOk 7 q.1 (KL q.2.1) q.2.2.1 ∧ (∀ x ∈ q.2.1, Vl.In q.2.2.2 x) ∧ q.2.1.map Xh = (accts.take q.1).map fun a => acV a.er) (fun q => [(1, Vk r1), (2, Vk r2), (3, Vk r3), (4, .int .i64 (q.1 : Int))]) (fun q => (r3, .cells #[.int .u64 0, .int .u64 0, .int .u64 0, .int .u64 0, .slice none 0 0, J3 q.1 q.2.2.1, .int .i64 0] 81 (0, 0)) :: (r2, .cells #[.int .u64 0, .int .u64 0, .int .u64 0, .int .u64 0, .slice none 0 0, .slice none 0 0, .int .i64 0] 81 (0, 0)) :: (r1, .cells #[KE accts.length p] 24 (0, 0)) :: (JJ 81 (KL q.2.1) q.2.2.1 ++ q.2.2.2)) (fun _ _ _ => True) (fun q => accts.length - q.1) (0, [], none, []) ⟨Nat.zero_le _, ⟨rfl, rfl⟩, fun x hx => (nomatch hx), rfl⟩ (lK rfl) mN (fun _ _ h => h) ?_; rintro ⟨i, vs, row, E⟩ ⟨hi1, hrow, hin, her⟩; simp only at hi1 hrow hin her; refine QZ 6 [2] rfl rfl (GV ?_); refine kU ?_; refine cD (fun g => ?_) fun g => ?_
 ·refine gr ?_
  obtain ⟨a, ha, hma⟩ := QN (show i < accts.length by omega)
  have ha2 := hs.accts a hma
  obtain ⟨hb1, hb2, hb3, hb4⟩ := hb a hma
  obtain ⟨addr, nonce, ⟨ba, bb, bc, bd⟩, code, slots, ap⟩ := a
  have hnu : XD nonce := ha2.nonce
  have hba : W4.ok ⟨ba, bb, bc, bd⟩ := ha2.bal
  have hsg : Seg R slots.length (wq slots) ap := ha2.seg
  simp only at hb1 hb2 hb3 hb4; refine E6 ?_
  refine kV ?_; refine LN rfl fun r4 => ?_
  refine kq ?_; refine GU ?_; refine g8 ?_; refine LN rfl fun r5 => ?_
  refine kq ?_; refine HN ?_; refine Js (σ := Nat × List Vl × Vn × Jp) (fun q => q.1 ≤ slots.length ∧ rowOk 7 q.1 (KL q.2.1) q.2.2.1 ∧ (∀ x ∈ q.2.1, Vl.In q.2.2.2 x) ∧ q.2.1.map Xh = (slots.take q.1).map jh) (fun q => [(1, Vk r1), (2, Vk r2), (3, Vk r3), (4, .int .i64 (i : Int)), (5, Vk r4), (6, Vk r5), (7, .int .i64 (q.1 : Int))]) (fun q => (r5, .cells #[.int .u64 0, .int .u64 0, .int .u64 0, .int .u64 0, .slice none 0 0, J3 q.1 q.2.2.1, .int .i64 0] 81 (0, 0)) :: (r4, .cells #[Jy addr, uV nonce, uV ba, uV bb, uV bc, uV bd, Jy code, KE slots.length ap] 34 (0, 0)) :: (r3, .cells #[.int .u64 0, .int .u64 0, .int .u64 0, .int .u64 0, .slice none 0 0, J3 i row, .int .i64 0] 81 (0, 0)) :: (r2, .cells #[.int .u64 0, .int .u64 0, .int .u64 0, .int .u64 0, .slice none 0 0, .slice none 0 0, .int .i64 0] 81 (0, 0)) :: (r1, .cells #[KE accts.length p] 24 (0, 0)) :: (JJ 81 (KL q.2.1) q.2.2.1 ++ (q.2.2.2 ++ (JJ 81 (KL vs) row ++ E)))) (fun _ _ _ => True) (fun q => slots.length - q.1) (0, [], none, []) ⟨Nat.zero_le _, ⟨rfl, rfl⟩, fun x hx => (nomatch hx), rfl⟩ (lK rfl) mN (fun _ _ h => h) ?_; rintro ⟨j, us, rw2, F⟩ ⟨hj1, hrow2, hin2, her2⟩; simp only at hj1 hrow2 hin2 her2; refine QZ 6 [1] rfl rfl (LR rfl (Jl rfl hsg rfl) (kU ?_)); refine cD (fun g => ?_) fun g => ?_
  ·refine J9 4 rfl ?_
   obtain ⟨⟨k, v⟩, hx, hmx⟩ := QN (show j < slots.length by omega)
   obtain ⟨hk1, hv1⟩ := hb4 _ hmx
   simp only at hk1 hv1
   refine JD [(r5, .cells #[.int .u64 0, .int .u64 0, .int .u64 0, .int .u64 0, .slice none 0 0, J3 j rw2, .int .i64 0] 81 (0, 0)), (r4, .cells #[Jy addr, uV nonce, uV ba, uV bb, uV bc, uV bd, Jy code, KE slots.length ap] 34 (0, 0))] [(0, .pure), (1, .pure), (2, .pure), (3, .pure), (4, .pure), (5, .pure), (6, .pure), (8, .grow (KA (Jc3 hk1) (fun y => y.x.val) (fun y => y.L))), (9, .pure), (10, .pure), (11, .pure), (12, .pure), (13, .pure), (15, .grow (KA (Jc3 hv1) (fun y => y.x.val) (fun y => y.L))), (16, .dep [37, 44] (jF 2 81)), (17, .pure), (18, .dep [46] (jF 1 81))] 19 [0, 1, 2, 3, 4, 5, 6, 7, 9, 10, 11, 12, 13, 14, 8, 15, 16, 17, 18] m5 m5 m6 ?_
   refine NV ?_; refine Ny ?_; refine Eh ?_; refine Jk (k := 5) rfl rfl rfl rfl rfl (fun _ _ => Jf (j := j) rfl hsg rfl rfl rfl rfl m0) (Jk (k := 6) rfl rfl rfl rfl rfl (fun _ _ => JW (off' := YC ap + (j * 2 + 0)) rfl rfl (by show YC ap + j * 2 + 0 = _; omega)) (JY (k := 7) rfl rfl rfl rfl rfl (VB Ki (k := 0) (v := Jy k) oR rfl hsg hx rfl rfl) ?_))
   refine Jk (k := 9) rfl rfl rfl rfl rfl (fun _ hS => (Jw rfl rfl rfl)) (Jk (k := 10) rfl rfl rfl rfl rfl (fun _ hS => (Jd rfl (.inl (hS _ (Kh (n := 1) rfl))) rfl rfl)) (Jk (k := 11) rfl rfl rfl rfl rfl (fun _ hS => (Jg rfl)) (Jk (k := 12) rfl rfl rfl rfl rfl (fun _ _ => Jf (j := j) rfl hsg rfl rfl rfl rfl m0) (Jk (k := 13) rfl rfl rfl rfl rfl (fun _ _ => JW (off' := YC ap + (j * 2 + 1)) rfl rfl (by show YC ap + j * 2 + 1 = _; omega)) (JY (k := 14) rfl rfl rfl rfl rfl (VB Ki (k := 1) (v := Jy v) oR rfl hsg hx rfl rfl) (JS (k := 8) rfl rfl rfl rfl rfl Jvj (qO hk1) oN fun y => ?_))))))
   obtain ⟨⟨ya, yb, yc, yd, ybits, ypb, yitems, ypi, ypick⟩, yL, yok, yer⟩ := y
   refine JS (k := 15) rfl rfl rfl rfl rfl Jvj (qO hv1) oN fun y => ?_
   obtain ⟨⟨za, zb, zc, zd, zbits, zpb, zitems, zpi, zpick⟩, zL, zok, zer⟩ := y
   refine Qe (k := 16) (dv := [_, _]) (n := 2) (sz := 7) (vs := [_, _]) (zs := [_, _, _, _, _, _, _, _, _, _, _, _, _, _]) (r := [uV ya, uV yb, uV yc, uV yd, KE ybits.length ypb, KE yitems.length ypi, .int .i64 ypick, uV za, uV zb, uV zc, uV zd, KE zbits.length zpb, KE zitems.length zpi, .int .i64 zpick]) rfl rfl rfl rfl rfl rfl rfl rfl rfl rfl rfl rfl rfl ms rfl fun rb => Jk (k := 17) rfl rfl rfl rfl rfl (fun _ hS => (J5 (r := [_, _, _, _, _, _, _]) rfl rfl)) (Qe (k := 18) (dv := [_]) (n := 1) (sz := 7) (vs := [_]) (zs := [_, _, _, _, _, _, _]) (r := [.int .u64 0, .int .u64 0, .int .u64 0, .int .u64 0, .slice none 0 0, .slice (some ⟨rb, 0, none⟩) 2 2, .int .i64 0]) rfl rfl rfl rfl rfl rfl rfl rfl rfl rfl rfl rfl rfl ms rfl fun rc => Kc (KR (Jk7 (M := [_, _, _, _, _]) ..) (JB (L0 := _) (xs := KL us) (row := rw2) (n := j) (sz := 7) (b := 88) (news := [_, _, _, _, _, _, _]) (List.Perm.refl _) rfl rfl rfl rfl (kn 0 rfl) rfl rfl rfl rfl rfl m7 rfl rfl rfl m7 hrow2 m0 m0 fun ra cap sp hra => ?_)))
   refine LS 1 [] rfl rfl (Ky (k := 3) (cs' := #[.int .u64 0, .int .u64 0, .int .u64 0, .int .u64 0, .slice none 0 0, J3 (j + 1) (some (ra, cap, sp)), .int .i64 0]) rfl rfl rfl rfl rfl rfl rfl rfl rfl rfl (G1 ?_)); refine Jj mY (HG ?_)
   have hvc : KL us ++ Vl.cells (.mk 0 0 0 0 [] none [(.mk ya yb yc yd ybits ypb yitems ypi ypick), (.mk za zb zc zd zbits zpb zitems zpi zpick)] (some (⟨rb, 0, none⟩, 2)) 0) = KL (us ++ [.mk 0 0 0 0 [] none [(.mk ya yb yc yd ybits ypb yitems ypi ypick), (.mk za zb zc zd zbits zpb zitems zpi zpick)] (some (⟨rb, 0, none⟩, 2)) 0]) := by unfold KL; rw [List.flatMap_append]; simp
   refine WM (Jk9 (M := [_, _, _, _, _]) ..) ?_; exact Jm (j + 1, us ++ [.mk 0 0 0 0 [] none [(.mk ya yb yc yd ybits ypb yitems ypi ypick), (.mk za zb zc zd zbits zpb zitems zpi zpick)] (some (⟨rb, 0, none⟩, 2)) 0], some (ra, cap, sp), _ :: (zL ++ (yL ++ F))) ⟨by simp only; omega, by simp only; rw [← hvc]; exact hra, fun z hz => Js1 hin2 yok zok hz, Js2 her2 hx yer zer⟩ ml (lK rfl) (by simp only; rw [← hvc]; exact .cons _ (List.Sublist.refl _)) (fun _ _ h => h)
  ·refine gr ?_
   obtain rfl : j = slots.length := by omega
   have hul : us.length = slots.length := by have := congrArg List.length her2; simpa using this
   have hvr2 : J3 slots.length rw2 = KE us.length (Qv rw2) := by rw [hul]; exact (Vw _ _ (fun h => by rw [h] at hrow2; exact hrow2.1)).symm
   rw [hvr2]
   refine JD [(r3, .cells #[.int .u64 0, .int .u64 0, .int .u64 0, .int .u64 0, .slice none 0 0, J3 i row, .int .i64 0] 81 (0, 0)), (r4, .cells #[Jy addr, uV nonce, uV ba, uV bb, uV bc, uV bd, Jy code, KE slots.length ap] 34 (0, 0)), (r5, .cells #[.int .u64 0, .int .u64 0, .int .u64 0, .int .u64 0, .slice none 0 0, KE us.length (Qv rw2), .int .i64 0] 81 (0, 0))] [(0, .pure), (1, .pure), (2, .pure), (3, .pure), (4, .grow (KA (Jc3 hb1) (fun y => y.x.val) (fun y => y.L))), (5, .pure), (6, .pure), (7, .pure), (8, .pure), (9, .pure), (10, .pure), (11, .pure), (12, .pure), (13, .pure), (14, .grow (KA (Jc3 hb2) (fun y => y.x.val) (fun y => y.L))), (15, .pure), (16, .dep [54, 58, 61, 64, 65] (jF 5 81)), (17, .pure), (18, .dep [67] (jF 1 81))] 19 [0, 1, 2, 3, 5, 6, 7, 8, 9, 10, 11, 12, 13, 15, 4, 14, 16, 17, 18] m5 m5 m6 ?_
   refine NV ?_; refine Ny ?_
   refine kF ?_; refine Jk (k := 7) rfl rfl rfl rfl rfl (fun _ hS => (J5 (r := [_, _, _, _]) rfl rfl)) (Jk (k := 8) rfl rfl rfl rfl rfl (fun _ hS => (J5 (r := [_, _, _, _, _, _, _]) rfl rfl)) ?_)
   refine NY ?_; refine JS (k := 4) rfl rfl rfl rfl rfl Jvj (qO hb1) oN fun y => ?_
   obtain ⟨⟨ya, yb, yc, yd, ybits, ypb, yitems, ypi, ypick⟩, yL, yok, yer⟩ := y
   refine JS (k := 14) rfl rfl rfl rfl rfl Jvj (qO hb2) oN fun y => ?_
   obtain ⟨⟨za, zb, zc, zd, zbits, zpb, zitems, zpi, zpick⟩, zL, zok, zer⟩ := y
   refine NB fun rb rc => ?_; refine KR (Jk8 (M := [_, _, _, _, _]) ..) (JB (L0 := _) (xs := KL vs) (row := row) (n := i) (sz := 7) (b := 88) (news := [_, _, _, _, _, _, _]) (List.Perm.refl _) rfl rfl rfl rfl (kn 0 rfl) rfl rfl rfl rfl rfl m7 rfl rfl rfl m7 hrow m0 m0 fun ra cap sp hra => ?_)
   refine H7 ?_; refine G1 ?_; refine ND ?_
   have hvc : KL vs ++ Vl.cells (.mk 0 0 0 0 [] none [(.mk ya yb yc yd ybits ypb yitems ypi ypick), (.mk nonce 0 0 0 [] none [] none 0), (.mk ba bb bc bd [] none [] none 0), (.mk za zb zc zd zbits zpb zitems zpi zpick), .mk 0 0 0 0 [] none us (Qv rw2) 0] (some (⟨rb, 0, none⟩, 5)) 0) = KL (vs ++ [.mk 0 0 0 0 [] none [(.mk ya yb yc yd ybits ypb yitems ypi ypick), (.mk nonce 0 0 0 [] none [] none 0), (.mk ba bb bc bd [] none [] none 0), (.mk za zb zc zd zbits zpb zitems zpi zpick), .mk 0 0 0 0 [] none us (Qv rw2) 0] (some (⟨rb, 0, none⟩, 5)) 0]) := by unfold KL; rw [List.flatMap_append]; simp
   refine WM (Jla (M := [_, _, _, _, _]) ..) ?_; exact kg
 ·refine NK ?_
  have honeV : ([.int .u64 0, .int .u64 0, .int .u64 0, .int .u64 0, .slice none 0 0, J3 i row, .int .i64 0] : List Value).all Va = true := by cases row <;> rfl
  refine Nq fun w1 hs1 => ?_
  have hiM : i = accts.length := by omega
  have hvl : vs.length = i := by have := congrArg List.length her; simp at this; omega
  rw [hiM, List.take_length] at her; rw [← hvl] at hrow
  have hvr : J3 i row = KE vs.length (Qv row) := by rw [← hvl]; exact (Vw _ _ (fun h => by rw [h] at hrow; exact hrow.1)).symm
  exact ⟨⟨.mk 0 0 0 0 [] none vs (Qv row) 0, JJ 81 (KL vs) row ++ E, YR m0 (Ke hrow m7) hin i0, by rw [Qs, Wr, her]; exact Js5 ..⟩, congrArg (fun z => Ending.returned (Value.agg #[.int .u64 0, .int .u64 0, .int .u64 0, .int .u64 0, .slice none 0 0, z, .int .i64 0])) hvr, hs1.weakL (.cons _ (.cons _ (.cons _ (List.Sublist.refl _))))⟩
def vA (x : AcL) : Value := .agg (AcL.cells x).toArray
theorem Jc4 (x : AcL) : Pure Tryz.prog 39 [vA x].toArray (Jy (AcL.addr x)) := by
 refine Jz Tryz.func39 rfl rfl fun w => ?_; exact D4
theorem Js6 {xs : List AcL} {p : Pl} (hl : xs.length ≤ 9223372036854775807) (hs : Seg R xs.length (xs.flatMap AcL.cells) p) {pr : AcL → Bool} (eg : Enters Tryz.prog g) (hg : ∀ x ∈ xs, PureR Tryz.prog g (vA x :: caps).toArray (.bool (pr x)) R) :
  PureR Tryz.prog 34 [KE xs.length p, .func (.func g) #[] caps.toArray].toArray (.int .i64 (Zk pr xs)) R := by
 refine Ja Tryz.func34 rfl rfl fun w => kM ?_; rintro i ⟨hi1, hinv⟩; refine NK ?_; refine cD (fun h6 => ?_) fun h6 => ?_
 refine J9 11 rfl ?_
 obtain ⟨x, hx, hmx⟩ := QN nD
 refine GO ?_
 refine gn ?_; refine LR rfl (KU AcL.len oR rfl hs hx rfl rfl) (Jc rfl rfl rfl eg (hg x hmx) oR (HY ?_)); refine cD (fun h10 => ?_) fun h10 => ?_
 refine Gz fun w1 hs1 => ?_; rw [Jd8 hx m9 hinv]; rfl
 refine GX ?_
 exact Jm (i + 1) ⟨by omega, fun j hj y hy => by
  rcases Nat.lt_succ_iff_lt_or_eq.1 hj with hj | rfl
  exact hinv j hj y hy
  rw [hx] at hy; cases hy; assumption⟩ m0 (lK rfl) (List.nil_sublist _) (fun _ _ h => h)
 ·exact DQ
theorem Js7 {xs : List AcL} {p : Pl} (hl : xs.length ≤ 9223372036854775807) (hs : Seg R xs.length (xs.flatMap AcL.cells) p) :
  PureR Tryz.prog 38 [KE xs.length p, fV 39].toArray (.bool (Vd AcL.addr xs)) R := by
 refine Ja Tryz.func38 rfl rfl fun w => Hk ?_; refine Js (σ := Nat) (fun i => (i = 0 ∨ i < xs.length) ∧ ∀ j x y, j < i → xs[j]? = some x → xs[j + 1]? = some y → Op.bytesLess (AcL.addr x) (AcL.addr y) = true) (fun i => [(0, KE xs.length p), (1, fV 39), (5, .int .i64 ((i + 1 : Nat) : Int))]) (fun _ => []) (fun _ _ _ => True) (fun i => xs.length - i) 0 ⟨.inl rfl, fun j _ _ hj => absurd hj m0⟩ (lK rfl) (List.nil_sublist _) (fun _ _ h => h) ?_; rintro i ⟨hi1, hinv⟩; refine gH ?_; refine NE ?_; refine kU ?_; refine cD (fun g => ?_) fun g => ?_
 refine gr ?_
 obtain ⟨x, hx, hmx⟩ := QN nD
 obtain ⟨y, hy, hmy⟩ := QN (show i + 1 < xs.length by omega)
 refine JR 14 m5 m5 (kp ?_); refine gk ?_; refine Ww m0 m0 ?_
 refine gW ?_; refine Jb rfl rfl rfl (KU AcL.len oR rfl hs hx rfl rfl) (Qk rfl rfl rfl Jvc (Jc4 x) (kp ?_)); refine Nm ?_
 refine Jb rfl rfl rfl (Jf (j := (i + 1)) rfl hs rfl rfl rfl me m0) (Jb rfl rfl rfl (KU AcL.len oR rfl hs hy rfl rfl) (Qk rfl rfl rfl Jvc (Jc4 y) (Jb rfl rfl rfl (Jjc rfl rfl) (Kn (HY ?_))))); refine cD (fun g => ?_) fun g => ?_
 refine kT fun w1 hs1 => ?_; rw [qx hx hy mA]; rfl
 refine H8 ?_; refine Nn ?_
 exact Jm (i + 1) ⟨.inr m0, fun j u v hj hu hv => by
  rcases Nat.lt_succ_iff_lt_or_eq.1 hj with hj | rfl
  exact hinv j u v hj hu hv
  rw [hx] at hu; rw [hy] at hv; cases hu; cases hv; simp_all⟩ m0 (lK rfl) (List.nil_sublist _) (fun _ _ h => h)
 ·exact HF
def vS (x : (BS × BS)) : Value := .agg (Vq x).toArray
theorem Jc5 (x : (BS × BS)) : Pure Tryz.prog 48 [vS x].toArray (Jy (Prod.fst x)) := by
 refine Jz Tryz.func48 rfl rfl fun w => ?_; exact D4
theorem zX {p : Pl} (hl : xs.length ≤ 9223372036854775807) (hs : Seg R xs.length (xs.flatMap Vq) p) {pr : (BS × BS) → Bool} (eg : Enters Tryz.prog g) (hg : ∀ x ∈ xs, PureR Tryz.prog g (vS x :: caps).toArray (.bool (pr x)) R) :
  PureR Tryz.prog 40 [KE xs.length p, .func (.func g) #[] caps.toArray].toArray (.int .i64 (Zk pr xs)) R := by
 refine Ja Tryz.func40 rfl rfl fun w => kM ?_; rintro i ⟨hi1, hinv⟩; refine NK ?_; refine cD (fun h6 => ?_) fun h6 => ?_
 refine J9 11 rfl ?_
 obtain ⟨x, hx, hmx⟩ := QN nD
 refine GO ?_
 refine gn ?_; refine LR rfl (KU Ki oR rfl hs hx rfl rfl) (Jc rfl rfl rfl eg (hg x hmx) oR (HY ?_)); refine cD (fun h10 => ?_) fun h10 => ?_
 refine Gz fun w1 hs1 => ?_; rw [Jd8 hx m9 hinv]; rfl
 refine GX ?_
 exact Jm (i + 1) ⟨by omega, fun j hj y hy => by
  rcases Nat.lt_succ_iff_lt_or_eq.1 hj with hj | rfl
  exact hinv j hj y hy
  rw [hx] at hy; cases hy; assumption⟩ m0 (lK rfl) (List.nil_sublist _) (fun _ _ h => h)
 ·exact DQ
theorem Js8 {p : Pl} (hl : xs.length ≤ 9223372036854775807) (hs : Seg R xs.length (xs.flatMap Vq) p) :
  PureR Tryz.prog 68 [KE xs.length p, fV 48].toArray (.bool (Vd Prod.fst xs)) R := by
 refine Ja Tryz.func68 rfl rfl fun w => Hk ?_; refine Js (σ := Nat) (fun i => (i = 0 ∨ i < xs.length) ∧ ∀ j x y, j < i → xs[j]? = some x → xs[j + 1]? = some y → Op.bytesLess (Prod.fst x) (Prod.fst y) = true) (fun i => [(0, KE xs.length p), (1, fV 48), (5, .int .i64 ((i + 1 : Nat) : Int))]) (fun _ => []) (fun _ _ _ => True) (fun i => xs.length - i) 0 ⟨.inl rfl, fun j _ _ hj => absurd hj m0⟩ (lK rfl) (List.nil_sublist _) (fun _ _ h => h) ?_; rintro i ⟨hi1, hinv⟩; refine gH ?_; refine NE ?_; refine kU ?_; refine cD (fun g => ?_) fun g => ?_
 refine gr ?_
 obtain ⟨x, hx, hmx⟩ := QN nD
 obtain ⟨y, hy, hmy⟩ := QN (show i + 1 < xs.length by omega)
 refine JR 14 m5 m5 (kp ?_); refine gk ?_; refine Ww m0 m0 ?_
 refine gW ?_; refine Jb rfl rfl rfl (KU Ki oR rfl hs hx rfl rfl) (Qk rfl rfl rfl Jvd (Jc5 x) (kp ?_)); refine Nm ?_
 refine Jb rfl rfl rfl (Jf (j := (i + 1)) rfl hs rfl rfl rfl me m0) (Jb rfl rfl rfl (KU Ki oR rfl hs hy rfl rfl) (Qk rfl rfl rfl Jvd (Jc5 y) (Jb rfl rfl rfl (Jjc rfl rfl) (Kn (HY ?_))))); refine cD (fun g => ?_) fun g => ?_
 refine kT fun w1 hs1 => ?_; rw [qx hx hy mA]; rfl
 refine H8 ?_; refine Nn ?_
 exact Jm (i + 1) ⟨.inr m0, fun j u v hj hu hv => by
  rcases Nat.lt_succ_iff_lt_or_eq.1 hj with hj | rfl
  exact hinv j u v hj hu hv
  rw [hx] at hu; rw [hy] at hv; cases hu; cases hv; simp_all⟩ m0 (lK rfl) (List.nil_sublist _) (fun _ _ h => h)
 ·exact HF
theorem Jwy (a : BS) : (!decide (a = a)) = false := by simp
theorem Jlc (a : BS) : Pure Tryz.prog 158 [Jy a].toArray (.bool false) := by
 refine Jz Tryz.func158 rfl rfl fun w => G0 ?_; refine LR rfl (jp rfl rfl) (Jj (congrArg Value.bool (Jwy a)) ?_); exact NS
theorem Jau (a b : BS) : Pure Tryz.prog 106 [Jy a, Jy b].toArray (.int .i64 (ws a b)) := by
 refine Jz Tryz.func106 rfl rfl fun w => HH ?_; refine J2 rfl rfl rfl (enters_of Tryz.func158 m5 rfl) (Jlc a) (G1 ?_); refine J2 rfl rfl rfl (enters_of Tryz.func158 m5 rfl) (Jlc b) (HN ?_); refine JI rfl (fun g => ?_) (fun g => ?_)
 try exact Bool.noConfusion g
 ·try simp only [ZZ] at g
  refine J9 8 rfl (JI rfl (fun g => ?_) (fun g => ?_))
  try exact Bool.noConfusion g
  ·try simp only [ZZ] at g
   refine Jt 7 rfl (LR rfl (Juh rfl rfl) (HY ?_)); refine cD (fun g => ?_) fun g => ?_
   refine gZ fun w1 hs1 => ?_
   unfold ws
   simp_all [J6]
   ·refine Jt 7 rfl (LR rfl (Jbt rfl rfl) (HY ?_)); refine cD (fun g => ?_) fun g => ?_
    refine gZ fun w1 hs1 => ?_
    unfold ws
    simp_all [J6]
    ·refine Hx fun w1 hs1 => ?_
     unfold ws
     simp_all [J6]
theorem Js9 : Lib.repeatL [0] 32 = VJ := by decide +kernel
theorem Jie : Pure Tryz.prog 42 [].toArray (Jy VJ) := by
 rw [← Js9]; refine Jz Tryz.func42 rfl rfl fun w => JN (Jt 7 rfl (J2 rfl rfl rfl Jzc (vo (n := 32) m7) ?_)); exact NS
end Go.Proofs.YteceenlfegnigaaGreatDoor
