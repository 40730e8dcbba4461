import Derived.Test.YtckoepmdmhdepaaGreatDoorZtSpansc
set_option maxRecDepth 100000
set_option linter.all false
namespace Go.Proofs.YtckoepmdmhdepaaGreatDoor
set_option linter.all false
open Go.SL Go.RowKit Go.Shelf
open Go.Proofs (Enters enters_of)
structure SpR (xs : List ItL) (q cap : Nat) : Type where
  sp : List Value
  ok : rowOk 3 xs.length (JK xs) (some (q, cap, sp))
theorem Jn6 {l : List AxL} (hl : l.length ≤ 100000) (hsm : ∀ a ∈ l, AxS a) : Nonempty (ItN (KG ((l.map AxL.er).map j5))) := by
 have : ∀ l : List AxL, (∀ a ∈ l, AxS a) → ∃ (its : List ItL) (F : Jy), its.map ItL.er = (l.map AxL.er).map j5 ∧ its.length = l.length ∧ ∀ x ∈ its, x.In F := by
  intro l
  induction l with
  | nil => exact fun _ => ⟨[], [], rfl, rfl, fun _ h => nomatch h⟩
  | cons a l ih =>
   intro h
   obtain ⟨its, F, h1, h2, h3⟩ := ih fun b hb => h b (List.mem_cons_of_mem _ hb)
   have ha := h a List.mem_cons_self
   obtain ⟨y, yL, yh, ye⟩ := Jmh (l := a.keys) (Nat.le_trans ha.len (by decide)) ha.keys
   refine ⟨Wf 0 2 [Jj a.addr, y] :: its, (0, Obj.cells (JK [Jj a.addr, y]).toArray 91 (0, 0)) :: (yL ++ F), ?_, by simp [h2], fun x hx => ?_⟩
   ·rw [List.map_cons, h1, Xz, List.map_cons, List.map_singleton, QM, ye]; rfl
   ·rcases List.mem_cons.1 hx with rfl | hx
    ·refine Xy (r := 0) (xs := [Jj a.addr, y]) (by simp) List.mem_cons_self fun z hz => ?_
     rcases List.mem_cons.1 hz with rfl | hz
     ·exact KX ha.addr
     ·rw [List.mem_singleton.1 hz]; exact yh.mono fun q hq => List.mem_cons_of_mem _ (List.mem_append_left _ hq)
    ·exact (h3 x hx).mono fun q hq => List.mem_cons_of_mem _ (List.mem_append_right _ hq)
 obtain ⟨its, F, h1, h2, h3⟩ := this l hsm
 exact ⟨⟨Wf 0 its.length its, (0, Obj.cells (JK its).toArray 91 (0, 0)) :: F, Xy (by omega) List.mem_cons_self fun x hx => (h3 x hx).mono fun q hq => List.mem_cons_of_mem _ hq, by rw [Xz, h1]⟩⟩
theorem zG {R : Jy} {t : TxL} (ht : t.In R) (hs : TxS t) (hk : t.kind = 1 ∨ t.kind = 2) : PureT (α := FldR t.er) Tryz.prog 35 [t.val].toArray (fun y => .func (.func 105) #[] #[Kw y.q]) [] (fun y => y.L) R := by
 have hy := hs.y
 have hau := hs.au
 obtain ⟨x0⟩ := Jn6 hs.accL hs.acc
 have hfl : Qu t.er = [Qk t.chain, Qk t.nonce] ++ (if t.kind = 1 then [] else [Ks t.tip]) ++ [Ks t.price, Qk t.gas, Ki t.dest, Ks t.value, Ki t.data, KG ((t.acc.map AxL.er).map j5)] ++ [Qk t.y, Ks t.r, Ks t.s] := by
  unfold Qu; rw [if_neg (by show ¬ t.kind = 126; omega), if_neg (by show ¬ t.kind = 0; omega), if_neg (c := t.er.kind = 4) (by show ¬ t.kind = 4; omega), List.append_nil]; rfl
 refine J1 Tryz.func35 rfl rfl fun w => ?_; refine sR fun _ hK1 => ?_; refine JX (cs := List.toArray (t.cells)) rfl rfl rfl rfl fun r0 => ?_; refine Jb rfl ?_; refine nK hK1 ?_; refine sQ fun _ hK2 => ?_; refine Km [(r0, .cells (List.toArray t.cells) 33 (0, 0))] [(0, .pure), (1, .pure), (2, .pure), (3, .pure), (4, .pure), (5, .pure), (6, .pure), (7, .pure), (8, .pure), (9, .grow (QK XG (.cells #[.bool false, .string ⟨#[]⟩, .slice none 0 0] 91 (0, 0)))), (10, .grow (QK XG (.cells #[.bool false, .string ⟨#[]⟩, .slice none 0 0] 91 (0, 0)))), (11, .grow (QK XG (.cells #[.bool false, .string ⟨#[]⟩, .slice none 0 0] 91 (0, 0)))), (12, .turn), (13, .turn), (14, .turn)] 15 [0, 1, 2, 3, 4, 5, 6, 7, 8, 9, 10, 11, 12, 13, 14] (by kernel_rfl) (by kernel_rfl) (fun p hp => by rw [List.mem_singleton.1 hp]; exact List.mem_cons_self) ?_
 refine JH (k := 0) rfl rfl rfl rfl rfl (fun _ hS => (Ja rfl rfl (by first | (simp only [Nat.zero_add, Nat.reduceAdd, Nat.reduceMul, Nat.zero_mul, Nat.mul_one, Nat.add_zero]; exact rfl) | exact rfl))) ?_; refine JH (k := 1) rfl rfl rfl rfl rfl (fun _ hS => (Jc rfl (.inl (hS _ (Jw (n := 0) rfl))) rfl rfl)) ?_; refine Kf (k := 2) rfl rfl rfl rfl rfl vy (Vw ht.ok.nonce) ?_
 refine JH (k := 3) rfl rfl rfl rfl rfl (fun _ hS => (Ja rfl rfl (by first | (simp only [Nat.zero_add, Nat.reduceAdd, Nat.reduceMul, Nat.zero_mul, Nat.mul_one, Nat.add_zero]; exact rfl) | exact rfl))) ?_; refine JH (k := 4) rfl rfl rfl rfl rfl (fun _ hS => (JT (vs := [_, _, _, _]) rfl (.inl (hS _ (Jw (n := 0) rfl))) rfl rfl rfl rfl)) ?_; refine Kf (k := 5) rfl rfl rfl rfl rfl vz (WZ (x := t.price) ht.ok.price) ?_
 refine JH (k := 6) rfl rfl rfl rfl rfl (fun _ hS => (Ja rfl rfl (by first | (simp only [Nat.zero_add, Nat.reduceAdd, Nat.reduceMul, Nat.zero_mul, Nat.mul_one, Nat.add_zero]; exact rfl) | exact rfl))) ?_; refine JH (k := 7) rfl rfl rfl rfl rfl (fun _ hS => (Jc rfl (.inl (hS _ (Jw (n := 0) rfl))) rfl rfl)) ?_; refine Kf (k := 8) rfl rfl rfl rfl rfl vy (Vw ht.ok.gas) ?_; refine Q4 (k := 9) (cs := #[_, _, _]) rfl rfl rfl rfl rfl rfl fun q3 => ?_; refine Q4 (k := 10) (cs := #[_, _, _]) rfl rfl rfl rfl rfl rfl fun q4 => ?_; refine Q4 (k := 11) (cs := #[_, _, _]) rfl rfl rfl rfl rfl rfl fun q5 => ?_; refine Kl (k := 12) (q := 2) (n := 3) (ys := (Jj (KT t.nonce)).cells) rfl rfl rfl rfl rfl rfl rfl rfl rfl rfl rfl (fun p hp => by rw [List.mem_singleton.1 hp]; exact (List.mem_cons_of_mem _ (List.mem_cons_of_mem _ (List.mem_cons_of_mem _ List.mem_cons_self)))) ?_; refine Kl (k := 13) (q := 1) (n := 3) (ys := (Jj (JE t.price.l)).cells) rfl rfl rfl rfl rfl rfl rfl rfl rfl rfl rfl (fun p hp => by rw [List.mem_singleton.1 hp]; exact (List.mem_cons_of_mem _ (List.mem_cons_of_mem _ (List.mem_cons_of_mem _ List.mem_cons_self)))) ?_; refine Kl (k := 14) (q := 0) (n := 3) (ys := (Jj (KT t.gas)).cells) rfl rfl rfl rfl rfl rfl rfl rfl rfl rfl rfl (fun p hp => by rw [List.mem_singleton.1 hp]; exact (List.mem_cons_of_mem _ (List.mem_cons_of_mem _ (List.mem_cons_of_mem _ List.mem_cons_self)))) ?_; refine Qc ?_; refine nK hK2 ?_; refine sQ fun _ hK3 => ?_; refine Km [(r0, .cells (List.toArray t.cells) 33 (0, 0))] [(0, .pure), (1, .pure), (2, .pure), (3, .pure), (4, .pure), (5, .pure), (6, .pure), (7, .pure), (8, .pure), (9, .grow (QK XG (.cells #[.bool false, .string ⟨#[]⟩, .slice none 0 0] 91 (0, 0)))), (10, .grow (QK XG (.cells #[.bool false, .string ⟨#[]⟩, .slice none 0 0] 91 (0, 0)))), (11, .grow (QK XG (.cells #[.bool false, .string ⟨#[]⟩, .slice none 0 0] 91 (0, 0)))), (12, .turn), (13, .turn), (14, .turn)] 15 [0, 1, 2, 3, 4, 5, 6, 7, 8, 9, 10, 11, 12, 13, 14] (by kernel_rfl) (by kernel_rfl) (fun p hp => by rw [List.mem_singleton.1 hp]; exact (List.mem_cons_of_mem _ (List.mem_cons_of_mem _ (List.mem_cons_of_mem _ List.mem_cons_self)))) ?_
 refine JH (k := 0) rfl rfl rfl rfl rfl (fun _ hS => (Ja rfl rfl (by first | (simp only [Nat.zero_add, Nat.reduceAdd, Nat.reduceMul, Nat.zero_mul, Nat.mul_one, Nat.add_zero]; exact rfl) | exact rfl))) ?_; refine JH (k := 1) rfl rfl rfl rfl rfl (fun _ hS => (Jc rfl (.inl (hS _ (Jw (n := 0) rfl))) rfl rfl)) ?_; refine Kf (k := 2) rfl rfl rfl rfl rfl jP (Wz _) ?_
 refine JH (k := 3) rfl rfl rfl rfl rfl (fun _ hS => (Ja rfl rfl (by first | (simp only [Nat.zero_add, Nat.reduceAdd, Nat.reduceMul, Nat.zero_mul, Nat.mul_one, Nat.add_zero]; exact rfl) | exact rfl))) ?_; refine JH (k := 4) rfl rfl rfl rfl rfl (fun _ hS => (JT (vs := [_, _, _, _]) rfl (.inl (hS _ (Jw (n := 0) rfl))) rfl rfl rfl rfl)) ?_; refine Kf (k := 5) rfl rfl rfl rfl rfl vz (WZ (x := t.value) ht.ok.value) ?_
 refine JH (k := 6) rfl rfl rfl rfl rfl (fun _ hS => (Ja rfl rfl (by first | (simp only [Nat.zero_add, Nat.reduceAdd, Nat.reduceMul, Nat.zero_mul, Nat.mul_one, Nat.add_zero]; exact rfl) | exact rfl))) ?_; refine JH (k := 7) rfl rfl rfl rfl rfl (fun _ hS => (Jc rfl (.inl (hS _ (Jw (n := 0) rfl))) rfl rfl)) ?_; refine Kf (k := 8) rfl rfl rfl rfl rfl jP (Wz _) ?_; refine Q4 (k := 9) (cs := #[_, _, _]) rfl rfl rfl rfl rfl rfl fun q6 => ?_; refine Q4 (k := 10) (cs := #[_, _, _]) rfl rfl rfl rfl rfl rfl fun q7 => ?_; refine Q4 (k := 11) (cs := #[_, _, _]) rfl rfl rfl rfl rfl rfl fun q8 => ?_; refine Kl (k := 12) (q := 2) (n := 3) (ys := (Jj t.dest).cells) rfl rfl rfl rfl rfl rfl rfl rfl rfl rfl rfl (fun p hp => by rw [List.mem_singleton.1 hp]; exact (List.mem_cons_of_mem _ (List.mem_cons_of_mem _ (List.mem_cons_of_mem _ (List.mem_cons_of_mem _ (List.mem_cons_of_mem _ (List.mem_cons_of_mem _ List.mem_cons_self))))))) ?_; refine Kl (k := 13) (q := 1) (n := 3) (ys := (Jj (JE t.value.l)).cells) rfl rfl rfl rfl rfl rfl rfl rfl rfl rfl rfl (fun p hp => by rw [List.mem_singleton.1 hp]; exact (List.mem_cons_of_mem _ (List.mem_cons_of_mem _ (List.mem_cons_of_mem _ (List.mem_cons_of_mem _ (List.mem_cons_of_mem _ (List.mem_cons_of_mem _ List.mem_cons_self))))))) ?_; refine Kl (k := 14) (q := 0) (n := 3) (ys := (Jj t.data).cells) rfl rfl rfl rfl rfl rfl rfl rfl rfl rfl rfl (fun p hp => by rw [List.mem_singleton.1 hp]; exact (List.mem_cons_of_mem _ (List.mem_cons_of_mem _ (List.mem_cons_of_mem _ (List.mem_cons_of_mem _ (List.mem_cons_of_mem _ (List.mem_cons_of_mem _ List.mem_cons_self))))))) ?_; refine Qc ?_; refine nK hK3 ?_; refine sQ fun _ hK4 => ?_
 refine Km [] [(0, .pure), (2, .pure), (3, .pure), (5, .pure), (6, .dep [31, 34] (XL 2 91)), (7, .pure)] 8 [0, 1, 2, 3, 4, 5, 6, 7] (by kernel_rfl) (by kernel_rfl) (by first | exact (fun _ h => absurd h List.not_mem_nil) | simp [SubS] | (intro p hp; simp [hp])) ?_
 refine JH (k := 0) rfl rfl rfl rfl rfl (fun _ hS => (Ja rfl rfl (by first | (simp only [Nat.zero_add, Nat.reduceAdd, Nat.reduceMul, Nat.zero_mul, Nat.mul_one, Nat.add_zero]; exact rfl) | exact rfl))) ?_; refine Q5 (k := 1) rfl rfl rfl rfl rfl (JT (vs := [_, _, _, _]) rfl (kn 6 rfl) rfl rfl rfl rfl) ?_; refine Kf (k := 2) rfl rfl rfl rfl rfl vz (WZ (x := t.r) ht.ok.r) ?_
 refine JH (k := 3) rfl rfl rfl rfl rfl (fun _ hS => (Ja rfl rfl (by first | (simp only [Nat.zero_add, Nat.reduceAdd, Nat.reduceMul, Nat.zero_mul, Nat.mul_one, Nat.add_zero]; exact rfl) | exact rfl))) ?_; refine Q5 (k := 4) rfl rfl rfl rfl rfl (JT (vs := [_, _, _, _]) rfl (kn 6 rfl) rfl rfl rfl rfl) ?_; refine Kf (k := 5) rfl rfl rfl rfl rfl vz (WZ (x := t.s) ht.ok.s) ?_; refine Ku (k := 6) (dv := [_, _]) (n := 2) (sz := 3) (vs := [_, _]) (zs := [_, _, _, _, _, _]) (r := JK [(Jj (JE t.r.l)), (Jj (JE t.s.l))]) rfl rfl rfl rfl rfl rfl rfl rfl rfl rfl rfl rfl rfl (by rw [Qo]; exact rfl) (by kernel_rfl) fun qe => ?_; refine JH (k := 7) rfl rfl rfl rfl rfl (fun _ hS => (JY rfl)) ?_; refine Qc ?_; refine nK hK4 ?_; refine sR fun _ hK5 => ?_; refine LN rfl fun q10 => ?_; refine nK hK5 ?_; refine sQ fun _ hK6 => ?_; refine sR fun _ hK7 => ?_
 refine LR rfl (Ja rfl rfl (by first | (simp only [Nat.zero_add, Nat.reduceAdd, Nat.reduceMul, Nat.zero_mul, Nat.mul_one, Nat.add_zero]; exact rfl) | exact rfl)) ?_; refine LR rfl (Jc rfl (kn 8 rfl) rfl rfl) ?_; refine nK hK7 ?_; refine J3 (sR fun _ hK8 => ?_); refine J2 rfl (Jb rfl ?_); refine nK hK8 ?_; refine Jl rfl (fun h9 => ?_) (fun h9 => ?_)
 exact absurd h9 ((by intro h; have := beq_iff_eq.1 h; omega))
 ·try simp only [ZZ] at h9
  refine sR fun _ hK10 => ?_; refine J2 rfl (Jb rfl ?_); refine nK hK10 ?_; refine Jl rfl (fun h11 => ?_) (fun h11 => ?_)
  exact absurd h11 ((by intro h; have := beq_iff_eq.1 h; omega))
  ·try simp only [ZZ] at h11
   refine sQ fun _ hK12 => ?_
   refine Km [] [(0, .pure), (2, .pure), (4, .pure), (6, .pure), (12, .pure), (14, .grow (QY x0 (fun y => y.x.val) (fun y => y.L))), (15, .pure), (17, .pure), (18, .pure), (20, .pure), (21, .dep [40, 41, 44, 45, 46, 47, 48, 49, 52, 55, 58] (XL 11 91))] 22 [0, 1, 2, 3, 4, 5, 6, 7, 8, 9, 10, 11, 12, 13, 15, 16, 18, 19, 14, 17, 20, 21] (by kernel_rfl) (by kernel_rfl) (by first | exact (fun _ h => absurd h List.not_mem_nil) | simp [SubS] | (intro p hp; simp [hp])) ?_
   refine JH (k := 0) rfl rfl rfl rfl rfl (fun _ hS => (Ja rfl rfl (by first | (simp only [Nat.zero_add, Nat.reduceAdd, Nat.reduceMul, Nat.zero_mul, Nat.mul_one, Nat.add_zero]; exact rfl) | exact rfl))) ?_; refine Q5 (k := 1) rfl rfl rfl rfl rfl (Jc rfl (kn 8 rfl) rfl rfl) ?_; refine Kf (k := 2) rfl rfl rfl rfl rfl vy (Vw ht.ok.chain) ?_; refine Q5 (k := 3) rfl rfl rfl rfl rfl (Jm (xs := (Jj (KT t.nonce)).cells) (n := 3) rfl (kn 7 rfl) rfl rfl rfl) ?_
   refine JH (k := 4) rfl rfl rfl rfl rfl (fun _ hS => (Ja rfl rfl (by first | (simp only [Nat.zero_add, Nat.reduceAdd, Nat.reduceMul, Nat.zero_mul, Nat.mul_one, Nat.add_zero]; exact rfl) | exact rfl))) ?_; refine Q5 (k := 5) rfl rfl rfl rfl rfl (JT (vs := [_, _, _, _]) rfl (kn 8 rfl) rfl rfl rfl rfl) ?_; refine Kf (k := 6) rfl rfl rfl rfl rfl vz (WZ (x := t.tip) ht.ok.tip) ?_; refine Q5 (k := 7) rfl rfl rfl rfl rfl (Jm (xs := (Jj (JE t.price.l)).cells) (n := 3) rfl (kn 6 rfl) rfl rfl rfl) ?_; refine Q5 (k := 8) rfl rfl rfl rfl rfl (Jm (xs := (Jj (KT t.gas)).cells) (n := 3) rfl (kn 5 rfl) rfl rfl rfl) ?_; refine Q5 (k := 9) rfl rfl rfl rfl rfl (Jm (xs := (Jj t.dest).cells) (n := 3) rfl (kn 4 rfl) rfl rfl rfl) ?_; refine Q5 (k := 10) rfl rfl rfl rfl rfl (Jm (xs := (Jj (JE t.value.l)).cells) (n := 3) rfl (kn 3 rfl) rfl rfl rfl) ?_; refine Q5 (k := 11) rfl rfl rfl rfl rfl (Jm (xs := (Jj t.data).cells) (n := 3) rfl (kn 2 rfl) rfl rfl rfl) ?_
   refine JH (k := 12) rfl rfl rfl rfl rfl (fun _ hS => (Ja rfl rfl (by first | (simp only [Nat.zero_add, Nat.reduceAdd, Nat.reduceMul, Nat.zero_mul, Nat.mul_one, Nat.add_zero]; exact rfl) | exact rfl))) ?_; refine Q5 (k := 13) rfl rfl rfl rfl rfl (Jc rfl (kn 8 rfl) rfl rfl) ?_
   refine JH (k := 15) rfl rfl rfl rfl rfl (fun _ hS => (Ja rfl rfl (by first | (simp only [Nat.zero_add, Nat.reduceAdd, Nat.reduceMul, Nat.zero_mul, Nat.mul_one, Nat.add_zero]; exact rfl) | exact rfl))) ?_; refine Q5 (k := 16) rfl rfl rfl rfl rfl (Jc (v := Ky 0 t.auP) rfl (kn 8 rfl) rfl (by show some (Ky t.auths.length t.auP) = _; rw [hau]; rfl)) ?_
   refine JH (k := 18) rfl rfl rfl rfl rfl (fun _ hS => (Ja rfl rfl (by first | (simp only [Nat.zero_add, Nat.reduceAdd, Nat.reduceMul, Nat.zero_mul, Nat.mul_one, Nat.add_zero]; exact rfl) | exact rfl))) ?_; refine Q5 (k := 19) rfl rfl rfl rfl rfl (Jc rfl (kn 8 rfl) rfl rfl) ?_; refine VR (k := 14) rfl rfl rfl rfl rfl (enters_of Tryz.func102 (by kernel_rfl) rfl) (Ji1 hs.accL ht.accS ht.acc hs.acc) (fun q hq => .inr hq) fun y => ?_
   obtain ⟨⟨al, ab, ap, axs⟩, yL, yh, ye⟩ := y
   refine Kf (k := 17) rfl rfl rfl rfl rfl (enters_of Tryz.func103 (by kernel_rfl) rfl) (Jf1 _) ?_; refine Kf (k := 20) rfl rfl rfl rfl rfl vy (Vw ht.ok.y) ?_; refine Ku (k := 21) (dv := [_, _, _, _, _, _, _, _, _, _, _]) (n := 11) (sz := 3) (vs := [_, _, _, _, _, _, _, _, _, _, _]) (zs := [_, _, _, _, _, _, _, _, _, _, _, _, _, _, _, _, _, _, _, _, _, _, _, _, _, _, _, _, _, _, _, _, _]) (r := JK [(Jj (KT t.chain)), (Jj (KT t.nonce)), (Jj (JE t.tip.l)), (Jj (JE t.price.l)), (Jj (KT t.gas)), (Jj t.dest), (Jj (JE t.value.l)), (Jj t.data), (ItL.mk al ab ap axs), (ItL.mk true [] none []), (Jj (KT t.y))]) rfl rfl rfl rfl rfl rfl rfl rfl rfl rfl rfl rfl rfl (by rw [Qo]; exact rfl) (by kernel_rfl) fun qa => ?_; refine Qc ?_; refine Kv ((List.perm_append_comm (l₁ := yL)).cons _) ?_; change HL _ _ _ ((qa, _) :: (q10, _) :: (qe, _) :: (q8, _) :: (q7, _) :: (q6, _) :: (q5, _) :: (q4, _) :: (q3, _) :: (r0, _) :: yL) _ _ _ _; refine Ju (k := 1) (cs' := #[JO 11 (some (qa, 11, []))]) rfl rfl rfl rfl rfl rfl rfl rfl rfl rfl ?_; refine nK hK12 ?_; refine sQ fun _ hK13 => ?_; refine sR fun _ hK14 => ?_
   refine LR rfl (Ja rfl rfl (by first | (simp only [Nat.zero_add, Nat.reduceAdd, Nat.reduceMul, Nat.zero_mul, Nat.mul_one, Nat.add_zero]; exact rfl) | exact rfl)) ?_; refine LR rfl (Jc rfl (kn 9 rfl) rfl rfl) ?_; refine J2 rfl ?_; refine nK hK14 ?_; refine Jl rfl (fun h15 => ?_) (fun h15 => ?_)
   ·try simp only [ZZ] at h15
    refine Je (LR rfl (Jc rfl (kn 1 rfl) rfl rfl) (J9 (T := Kk 91 (JK [(Jj (KT t.chain)), (Jj (KT t.nonce)), (Jj (JE t.tip.l)), (Jj (JE t.price.l)), (Jj (KT t.gas)), (Jj t.dest), (Jj (JE t.value.l)), (Jj t.data), (ItL.mk al ab ap axs), (ItL.mk true [] none []), (Jj (KT t.y))]) (some (qa, 11, []))) (L0 := (q10, _) :: _) (Rl := []) (List.Perm.refl _) rfl rfl rfl (enters_of Tryz.func104 (by kernel_rfl) rfl) (yn (xs := [(Jj (KT t.chain)), (Jj (KT t.nonce)), (Jj (JE t.tip.l)), (Jj (JE t.price.l)), (Jj (KT t.gas)), (Jj t.dest), (Jj (JE t.value.l)), (Jj t.data), (ItL.mk al ab ap axs), (ItL.mk true [] none []), (Jj (KT t.y))]) (i := 9) (Nat.le_of_ble_eq_true rfl) (Nat.le_of_ble_eq_true rfl) ⟨rfl, rfl⟩) oN fun z => ?_))
    obtain ⟨z, hz⟩ := z
    change HL _ _ ((64, JO 10 (some (qa, 11, z))) :: _) ((qa, .cells (JK [(Jj (KT t.chain)), (Jj (KT t.nonce)), (Jj (JE t.tip.l)), (Jj (JE t.price.l)), (Jj (KT t.gas)), (Jj t.dest), (Jj (JE t.value.l)), (Jj t.data), (ItL.mk al ab ap axs), (Jj (KT t.y))] ++ z).toArray 91 (0, 0)) :: (q10, _) :: (qe, _) :: (q8, _) :: (q7, _) :: (q6, _) :: (q5, _) :: (q4, _) :: (q3, _) :: (r0, _) :: yL) _ _ _ _; refine Ju (k := 1) (cs' := #[JO 10 (some (qa, 11, z))]) rfl rfl rfl rfl rfl rfl rfl rfl rfl rfl ?_; refine nK hK13 ?_; refine sQ fun _ hK16 => ?_; refine sR fun _ hK17 => ?_
    refine LR rfl (Ja rfl rfl (by first | (simp only [Nat.zero_add, Nat.reduceAdd, Nat.reduceMul, Nat.zero_mul, Nat.mul_one, Nat.add_zero]; exact rfl) | exact rfl)) ?_; refine LR rfl (Jc rfl (kn 9 rfl) rfl rfl) ?_; refine J2 rfl ?_; refine nK hK17 ?_; refine cD (fun g => ?_) fun g => ?_
    ·refine Je (LR rfl (Jc rfl (kn 1 rfl) rfl rfl) (J9 (T := Kk 91 (JK [(Jj (KT t.chain)), (Jj (KT t.nonce)), (Jj (JE t.tip.l)), (Jj (JE t.price.l)), (Jj (KT t.gas)), (Jj t.dest), (Jj (JE t.value.l)), (Jj t.data), (ItL.mk al ab ap axs), (Jj (KT t.y))]) (some (qa, 11, z))) (L0 := (q10, _) :: _) (Rl := []) (List.Perm.refl _) rfl rfl rfl (enters_of Tryz.func104 (by kernel_rfl) rfl) (yn (xs := [(Jj (KT t.chain)), (Jj (KT t.nonce)), (Jj (JE t.tip.l)), (Jj (JE t.price.l)), (Jj (KT t.gas)), (Jj t.dest), (Jj (JE t.value.l)), (Jj t.data), (ItL.mk al ab ap axs), (Jj (KT t.y))]) (i := 2) (Nat.le_of_ble_eq_true rfl) (Nat.le_of_ble_eq_true rfl) hz) oN fun z2 => ?_))
     obtain ⟨z2, hz2⟩ := z2
     change HL _ _ ((69, JO 9 (some (qa, 11, z2))) :: _) ((qa, .cells (JK [(Jj (KT t.chain)), (Jj (KT t.nonce)), (Jj (JE t.price.l)), (Jj (KT t.gas)), (Jj t.dest), (Jj (JE t.value.l)), (Jj t.data), (ItL.mk al ab ap axs), (Jj (KT t.y))] ++ z2).toArray 91 (0, 0)) :: (q10, _) :: (qe, _) :: (q8, _) :: (q7, _) :: (q6, _) :: (q5, _) :: (q4, _) :: (q3, _) :: (r0, _) :: yL) _ _ _ _; refine Ju (k := 1) (cs' := #[JO 9 (some (qa, 11, z2))]) rfl rfl rfl rfl rfl rfl rfl rfl rfl rfl ?_; refine nK hK16 ?_; refine Je (LR rfl (Jc rfl (kn 1 rfl) rfl rfl) (Jb rfl ?_))
     (have hk1 : t.kind = 1 := by assumption
      refine Kh (L0 := (q10, _) :: (qe, _) :: (q8, _) :: (q7, _) :: (q6, _) :: (q5, _) :: (q4, _) :: (q3, _) :: (r0, _) :: yL) (xs := JK [(Jj (KT t.chain)), (Jj (KT t.nonce)), (Jj (JE t.price.l)), (Jj (KT t.gas)), (Jj t.dest), (Jj (JE t.value.l)), (Jj t.data), (ItL.mk al ab ap axs), (Jj (KT t.y))]) (row := some (qa, 11, z2)) (n := 9) (sz := 3) (b := 48) (news := JK [(Jj (JE t.r.l)), (Jj (JE t.s.l))]) (List.Perm.refl _) rfl rfl rfl rfl (kn 1 rfl) rfl rfl rfl rfl rfl (by decide) rfl rfl rfl (by decide) hz2 (by decide) (by decide) fun ra cap sp hra => ?_)
     (have hk1 : t.kind = 1 := by assumption
      refine Ju (k := 1) (cs' := #[JO 11 (some (ra, cap, sp))]) rfl rfl rfl rfl rfl rfl rfl rfl rfl rfl ?_)
     refine Jt ?_; refine Jo (hK6 ?_); refine sR fun _ hK19 => ?_; refine LR rfl (JQ rfl rfl) ?_; refine Jb rfl ?_; refine nK hK19 ?_; refine Jd ?_; refine pT rfl rfl rfl fun w1 hs1 => ?_
     (have hk1 : t.kind = 1 := by assumption
      exact ⟨⟨q10, [(Jj (KT t.chain)), (Jj (KT t.nonce)), (Jj (JE t.price.l)), (Jj (KT t.gas)), (Jj t.dest), (Jj (JE t.value.l)), (Jj t.data), (ItL.mk al ab ap axs), (Jj (KT t.y))] ++ [(Jj (JE t.r.l)), (Jj (JE t.s.l))], some (ra, cap, sp), (ra, .cells (JK [(Jj (KT t.chain)), (Jj (KT t.nonce)), (Jj (JE t.price.l)), (Jj (KT t.gas)), (Jj t.dest), (Jj (JE t.value.l)), (Jj t.data), (ItL.mk al ab ap axs), (Jj (KT t.y))] ++ JK [(Jj (JE t.r.l)), (Jj (JE t.s.l))] ++ sp).toArray 91 (0, 0)) :: (q10, .cells #[JO 11 (some (ra, cap, sp))] 89 (0, 0)) :: yL, List.mem_cons_of_mem _ List.mem_cons_self, hra, fun p hp => by rw [List.mem_singleton.1 hp]; exact List.mem_cons_self, fun x hx => by simp only [List.cons_append, List.nil_append, List.mem_cons, List.not_mem_nil, or_false] at hx; rcases hx with rfl | rfl | rfl | rfl | rfl | rfl | rfl | rfl | rfl | rfl | rfl <;> first | exact yh.mono (fun q hq => List.mem_cons_of_mem _ (List.mem_cons_of_mem _ hq)) | exact KX (by first | exact j9 _ | exact WH ht.ok.nonce | exact WH ht.ok.gas | exact WH ht.ok.chain | exact WH ht.ok.y | exact hs.dest | exact hs.data), by rw [hfl]; simp only [List.cons_append, List.nil_append, List.map_cons, List.map_nil, QM, ye]; first | (rw [if_pos (by assumption)]; rfl) | (rw [if_neg (by assumption)]; rfl)⟩, rfl, hs1.weakL (.cons₂ _ (.cons₂ _ (.cons _ (.cons _ (.cons _ (.cons _ (.cons _ (.cons _ (.cons _ (.cons _ (List.Sublist.refl _)))))))))))⟩)
    ·refine Jg (hK16 ?_); refine Je (LR rfl (Jc rfl (kn 1 rfl) rfl rfl) ?_); refine Jb rfl (Kh (L0 := (q10, _) :: (qe, _) :: (q8, _) :: (q7, _) :: (q6, _) :: (q5, _) :: (q4, _) :: (q3, _) :: (r0, _) :: yL) (xs := JK [(Jj (KT t.chain)), (Jj (KT t.nonce)), (Jj (JE t.tip.l)), (Jj (JE t.price.l)), (Jj (KT t.gas)), (Jj t.dest), (Jj (JE t.value.l)), (Jj t.data), (ItL.mk al ab ap axs), (Jj (KT t.y))]) (row := some (qa, 11, z)) (n := 10) (sz := 3) (b := 48) (news := JK [(Jj (JE t.r.l)), (Jj (JE t.s.l))]) (List.Perm.refl _) rfl rfl rfl rfl (kn 1 rfl) rfl rfl rfl rfl rfl (by decide) rfl rfl rfl (by decide) hz (by decide) (by decide) fun ra cap sp hra => (Ju (k := 1) (cs' := #[JO 12 (some (ra, cap, sp))]) rfl rfl rfl rfl rfl rfl rfl rfl rfl rfl ?_)); refine Jt ?_; refine Jo (hK6 ?_); refine sR fun _ hK20 => ?_; refine LR rfl (JQ rfl rfl) ?_; refine Jb rfl ?_; refine nK hK20 ?_; refine Jd ?_; refine pT rfl rfl rfl fun w1 hs1 => ?_
     exact ⟨⟨q10, [(Jj (KT t.chain)), (Jj (KT t.nonce)), (Jj (JE t.tip.l)), (Jj (JE t.price.l)), (Jj (KT t.gas)), (Jj t.dest), (Jj (JE t.value.l)), (Jj t.data), (ItL.mk al ab ap axs), (Jj (KT t.y))] ++ [(Jj (JE t.r.l)), (Jj (JE t.s.l))], some (ra, cap, sp), (ra, .cells (JK [(Jj (KT t.chain)), (Jj (KT t.nonce)), (Jj (JE t.tip.l)), (Jj (JE t.price.l)), (Jj (KT t.gas)), (Jj t.dest), (Jj (JE t.value.l)), (Jj t.data), (ItL.mk al ab ap axs), (Jj (KT t.y))] ++ JK [(Jj (JE t.r.l)), (Jj (JE t.s.l))] ++ sp).toArray 91 (0, 0)) :: (q10, .cells #[JO 12 (some (ra, cap, sp))] 89 (0, 0)) :: yL, List.mem_cons_of_mem _ List.mem_cons_self, hra, fun p hp => by rw [List.mem_singleton.1 hp]; exact List.mem_cons_self, fun x hx => by simp only [List.cons_append, List.nil_append, List.mem_cons, List.not_mem_nil, or_false] at hx; rcases hx with rfl | rfl | rfl | rfl | rfl | rfl | rfl | rfl | rfl | rfl | rfl | rfl <;> first | exact yh.mono (fun q hq => List.mem_cons_of_mem _ (List.mem_cons_of_mem _ hq)) | exact KX (by first | exact j9 _ | exact WH ht.ok.nonce | exact WH ht.ok.gas | exact WH ht.ok.chain | exact WH ht.ok.y | exact hs.dest | exact hs.data), by rw [hfl]; simp only [List.cons_append, List.nil_append, List.map_cons, List.map_nil, QM, ye]; first | (rw [if_pos (by assumption)]; rfl) | (rw [if_neg (by assumption)]; rfl)⟩, rfl, hs1.weakL (.cons₂ _ (.cons₂ _ (.cons _ (.cons _ (.cons _ (.cons _ (.cons _ (.cons _ (.cons _ (.cons _ (List.Sublist.refl _)))))))))))⟩
   ·exact absurd h15 ((by intro h; have := bne_eq_false_iff_eq.1 h; omega))
def jS (xs : List ItL) (i : Nat) : ItL := xs.getD i Jpc
theorem Jau {xs : List ItL} {i : Nat} (h : i < xs.length) : xs[i]? = some (jS xs i) := by
 unfold jS
 rw [List.getD_eq_getElem?_getD, List.getElem?_eq_getElem h]; rfl
theorem yt {xs : List ItL} {i : Nat} (h : i < xs.length) : JK (xs.take i) ++ (jS xs i).cells = JK (xs.take (i + 1)) := by
 rw [List.take_add_one, Jau h]
 simp [JK, List.flatMap_append]
theorem Jf2 {R : Jy} {xs : List ItL} {row : QH} (hl : xs.length ≤ 1000000) {q0 : Nat} (hq : (q0, Obj.cells #[JO xs.length row] 89 (0, 0)) ∈ R) (ho : rowOk 3 xs.length (JK xs) row) (hr : ∀ p ∈ Kk 91 (JK xs) row, p ∈ R) :
    jJ Tryz.prog 105 [Kw q0] R 0 (nxN (fun i => [(jS xs i).val]) xs.length) (yX xs.length) := by
  have hs : Seg R xs.length (JK xs) (Qm row) := (Qg (e := 91) ho (by decide)).mono hr
  have hv := Ql ho
  rw [hv] at hq; refine VX Tryz.func105 rfl rfl fun q xids w2 XI XF hY => ?_; refine sR fun _ hK1 => ?_; refine LR rfl (Jc rfl (Or.inr hq) rfl rfl) ?_; refine LR rfl (JJ rfl hs rfl) ?_; refine Jb rfl ?_; refine nK hK1 ?_; refine J3 (JS (σ := Nat) (fun i => i ≤ xs.length) (fun i => [(0, .func (.yield q) #[] #[]), (1, Kw q0), (5, Ky xs.length (Qm row)), (6, .int .i64 (xs.length : Int)), (7, .int .i64 (i : Int))]) (fun _ => []) (fun i => XI i) (fun i => xs.length - i) 0 (Nat.zero_le _) (lK rfl) (List.nil_sublist _) (fun _ _ h => h) ?_); intro i hi; refine sR fun _ hK2 => ?_; refine J2 rfl ?_; refine nK hK2 ?_; refine sQ fun _ hK3 => ?_; refine cD (fun g => ?_) fun g => ?_
  · refine Jg (hK3 ?_); refine sB fun _ hK5 => ?_; refine sQ fun _ hK6 => ?_
    have hil : i < xs.length := by omega
    refine Je ?_
    refine LR rfl (JB (j := i) rfl hs rfl rfl rfl (by first | rfl | omega) (by omega)) ?_; refine LR rfl (Kt ItL.len oR rfl hs (Jau hil) rfl rfl) ?_; refine LN rfl fun r4 => ?_; refine Js (k := 0) (n := 3) (ys := (jS xs i).cells) rfl rfl rfl rfl rfl (ItL.len _) rfl (ItL.one _) rfl ?_; refine nK hK6 ?_; refine sR fun _ hK7 => ?_; refine Jb rfl (LR rfl (Jm (xs := (jS xs i).cells) (n := 3) rfl (kn 0 rfl) rfl rfl (ItL.len _)) ?_); refine VV (XT := XI (i + 1)) (XF := XF) rfl rfl rfl rfl (hY i [(jS xs i).val] (i + 1) ⟨hil, rfl, rfl⟩) ?_ ?_
    all_goals (
     refine J2 rfl (Jt (hK7 ?_)); refine Jl rfl (fun g => ?_) (fun g => ?_)
     · try exact Bool.noConfusion g
       all_goals try simp only [ZZ] at g
       all_goals (
        refine Jd (Jr (Ji ?_)); refine Ji (Jr ?_); refine Jp rfl rfl .nil (fun w1 hs1 => ?_)
        obtain ⟨xs1, hx1⟩ := hs1.now
        exact ⟨⟨_, rfl⟩, hs1.keep, .inr ⟨_, hx1⟩⟩
        skip)
     · try exact Bool.noConfusion g
       all_goals try simp only [ZZ] at g
       all_goals (
        refine Jg (Jo (hK5 ?_)); refine Je ?_
        refine J2 rfl ?_; refine JA (show _ = Value.int .i64 ((i + 1 : Nat) : Int) from by rw [wrap_i64 (by omega) (by omega)]; congr 1 <;> omega) ?_; refine Jb rfl (Jt (JU ?_)); exact JN (i + 1) (by omega) (by omega) (lK rfl) (List.nil_sublist _) (fun _ _ h => h)
        skip)
     skip)
  · refine JL (Jn ?_); refine Jn (J8 ?_); refine Qf rfl rfl .nil (fun w1 hs1 => ?_)
    obtain ⟨xs1, hx1⟩ := hs1.now
    exact ⟨⟨_, rfl⟩, hs1.keep, .inl ⟨i, _, (by show i = xs.length; omega), hx1⟩⟩
theorem Jf3 {R : Jy} {t : TxL} (ht : t.In R) (hs : TxS t) (hk : K012 t.kind) : PureT (α := FldR t.er) Tryz.prog 35 [t.val].toArray (fun y => .func (.func 105) #[] #[Kw y.q]) [] (fun y => y.L) R :=
 hk.elim (Jcf ht hs) (zG ht hs)
theorem K012.not126 {k : Int} (h : K012 k) : ¬ k = 126 := by unfold K012 at h; omega
theorem Vg {P M S V : List Value} {o n : Nat} (ho : P.length = o) (hn : M.length = n) : (P ++ M ++ S).take o ++ V ++ (P ++ M ++ S).drop (o + n) = P ++ V ++ S := by
 rw [List.append_assoc P M S, Jlx ho hn, List.append_assoc]
theorem zH {R : Jy} {t : TxL} (ht : t.In R) (hs : TxS t) (hk : K012 t.kind) (hc : Wx t.er = 0) (hok : Zt 12 (KG (Qu t.er)) = true) (hsz : (KM (KG (Qu t.er))).length ≤ 65536) :
  PureR Tryz.prog 9 [t.val].toArray (.tuple #[Jq (We t.er), .int .i64 0]) R := by
 have hchk := WG ht hk
 rw [hc] at hchk
 have hn12 : (Qu t.er).length ≤ 1000 := by
  unfold Qu
  (repeat' split)
  all_goals simp
 refine Jz Tryz.func9 rfl rfl fun w => ?_; refine sR fun _ hK1 => ?_; refine JX (cs := List.toArray (t.cells)) rfl rfl rfl rfl fun r0 => ?_; refine Jb rfl (Jb rfl ?_); refine nK hK1 ?_; refine sQ fun _ hK2 => ?_; refine sR fun _ hK3 => ?_; refine LR rfl (Jm (xs := t.cells) (n := 36) rfl (kn 0 rfl) rfl rfl rfl) ?_; refine J4 rfl rfl rfl Jeu hchk oR ?_; refine Jb rfl ?_; refine nK hK3 ?_; refine sR fun _ hK4 => ?_; refine Jb rfl (J2 rfl ?_); refine nK hK4 ?_; refine Jl rfl (fun h5 => ?_) (fun h5 => ?_)
 exact absurd h5 ((by decide))
 ·try simp only [ZZ] at h5
  refine Jg (hK2 ?_); refine sR fun _ hK6 => ?_; refine JC rfl rfl rfl Jb7 (Zb none 0 0) ?_; refine LN rfl fun r5 => ?_
  refine Jv (k := 0) (n := 3) (cs' := #[_, _, _]) (vs := #[_, _, _]) rfl rfl rfl rfl rfl rfl rfl (by exact Nat.le_of_ble_eq_true rfl) rfl (by first | (simp only [List.set_cons_zero, List.set_cons_succ]; exact rfl) | exact rfl) ?_; refine nK hK6 ?_; refine sQ fun _ hK7 => ?_; refine sR fun _ hK8 => ?_; refine LR rfl (Jm (xs := t.cells) (n := 36) rfl (kn 1 rfl) rfl rfl rfl) ?_; refine Ka rfl rfl rfl (enters_of Tryz.func35 (by kernel_rfl) rfl) (Jf3 ht hs hk) (fun q hq => .inr hq) fun y => ?_
  obtain ⟨yq, ys, yrow, yL, yhq, yok, yhr, yhx, yer⟩ := y
  have hyl : ys.length ≤ 1000 := by rw [← List.length_map (f := ItL.er), yer]; exact hn12
  refine Kv List.perm_middle ?_; change HL _ _ ((16, .func (.func 105) #[] #[Kw yq]) :: _) ((r5, .cells #[.bool true, Jq [], JO 0 none] 91 (0, 0)) :: (yL ++ [(r0, _)])) _ _ _ _; refine nK hK8 ?_; refine J3 ?_; refine W9 (τ := Unit) (fun i (s : Nat × QH) => i = s.1 ∧ i ≤ ys.length ∧ rowOk 3 i (JK (ys.take i)) s.2) (fun s => (r5, .cells #[.bool true, Jq [], JO s.1 s.2] 91 (0, 0)) :: Kk 91 (JK (ys.take s.1)) s.2) (fun _ _ => False) (fun _ => []) (yL ++ [(r0, _)]) (0, none) rfl rfl (enters_of Tryz.func105 (by kernel_rfl) rfl) (Jf2 (by omega) yhq yok yhr) (by rintro _ _ _ ⟨_, rfl, _⟩; rfl) rfl (fun q hq => Or.inl (List.mem_append_left _ hq)) rfl ⟨rfl, Nat.zero_le _, ⟨rfl, rfl⟩⟩ ?_ ?_ ?_
  ·rintro q Xr Xb w3 i _ _ ⟨_, row⟩ ⟨hii, rfl, rfl⟩ ⟨rfl, him, hrow⟩ Kr hKr
   simp only at hKr ⊢; refine Je (LN rfl fun r6 => (Js (k := 0) (n := 3) (ys := (jS ys i).cells) rfl rfl rfl rfl rfl (ItL.len _) rfl (ItL.one _) rfl ?_)); refine Jt ?_; refine hKr _ _ ?_; clear hKr; refine J3 ?_
   refine wJ [] [(0, .pure), (3, .pure), (4, .grow (QK (ZI 1) (.cells #[.bool false, .string ⟨#[]⟩, .slice none 0 0] 91 (0, 0))))] 5 [0, 1, 2, 3, 4] (by kernel_rfl) (by kernel_rfl) (by first | exact (fun _ h => absurd h List.not_mem_nil) | simp [SubS] | (intro p hp; simp [hp])) ?_
   refine JH (k := 0) rfl rfl rfl rfl rfl (fun _ hS => (Ja rfl rfl (by first | (simp only [Nat.zero_add, Nat.reduceAdd, Nat.reduceMul, Nat.zero_mul, Nat.mul_one, Nat.add_zero]; exact rfl) | exact rfl))) ?_; refine Q5 (k := 1) rfl rfl rfl rfl rfl (Jc rfl (kn 1 rfl) rfl rfl) ?_; refine Q5 (k := 2) rfl rfl rfl rfl rfl (Jm (xs := (jS ys i).cells) (n := 3) rfl (kn 0 rfl) rfl rfl (ItL.len _)) ?_; refine JH (k := 3) rfl rfl rfl rfl rfl (fun _ _ => VY rfl hrow.zero rfl) ?_; refine Wy (k := 4) (n := 1) (sz := 3) (vs := [_]) (zs := [_, _, _]) (r := [_, _, _]) rfl rfl rfl rfl rfl rfl rfl rfl rfl rfl rfl (by rw [Qo]; exact rfl) rfl fun rz => ?_; refine Jaa ?_; refine KE (g := 4) (is := [5]) (by kernel_rfl) rfl (.cons ?n7_5 .nil)
   case' n7_5 =>
    refine Qa rfl rfl ?_; refine Kh (L0 := [(rz, _), (r6, _), (r5, _)]) (xs := JK (ys.take i)) (row := row) (n := i) (sz := 3) (b := 48) (news := [.bool false, .string ⟨#[]⟩, .slice none 0 0]) (List.perm_append_comm (l₁ := [_, _, _])) rfl rfl rfl rfl (kn 0 rfl) rfl rfl rfl rfl rfl (by decide) rfl rfl rfl (by decide) hrow (by omega) (by omega) fun ra cap sp hra => ?_; refine QF ?_; refine KE (g := 3) (is := [6, 8]) (by kernel_rfl) rfl (.cons ?n7_5_6 (.cons ?n7_5_8 .nil))
    case' n7_5_6 =>
     refine Qa rfl rfl ?_; refine LR rfl (QE (m := 3) (j := i) (off' := i * 3) rfl rfl rfl rfl rfl (by omega) (by omega)) ?_; refine QF ?_; refine KE (g := 2) (is := [7, 8]) (by kernel_rfl) rfl (.cons ?n7_5_6_7 (.cons ?n7_5_6_8 .nil))
     case' n7_5_6_7 =>
      refine Qa rfl rfl ?_; refine Jv (k := 0) (n := 3) (vs := (jS ys i).cells.toArray) (cs' := (JK (ys.take i) ++ (jS ys i).cells ++ sp).toArray) rfl rfl rfl rfl rfl (ItL.len _) (ItL.one _) (by show i * 3 + 3 ≤ (JK (ys.take i) ++ [Value.bool false, .string ⟨#[]⟩, .slice none 0 0] ++ sp).length; rw [List.length_append, List.length_append, hrow.len]; simp) (congrArg List.toArray (Vg hrow.len rfl)) rfl ?_; refine QF ?_; refine KE (g := 1) (is := [8]) (by kernel_rfl) rfl (.cons ?n7_5_6_7_8 .nil)
      case' n7_5_6_7_8 =>
       refine Qa rfl rfl ?_
       refine LR rfl (Ja rfl rfl (by first | (simp only [Nat.zero_add, Nat.reduceAdd, Nat.reduceMul, Nat.zero_mul, Nat.mul_one, Nat.add_zero]; exact rfl) | exact rfl)) ?_; refine QF ?_; refine KE (g := 0) (is := [9]) (by kernel_rfl) rfl (.cons ?n7_5_6_7_8_9 .nil)
       case' n7_5_6_7_8_9 =>
        refine Qa rfl rfl ?_; refine Ju (k := 3) (cs' := #[.bool true, Jq [], JO (i + 1) (some (ra, cap, sp))]) rfl rfl rfl rfl rfl rfl rfl rfl rfl rfl ?_; refine QF ?_
     case' n7_5_6_8 =>
      refine Qa rfl rfl ?_
      refine LR rfl (Ja rfl rfl (by first | (simp only [Nat.zero_add, Nat.reduceAdd, Nat.reduceMul, Nat.zero_mul, Nat.mul_one, Nat.add_zero]; exact rfl) | exact rfl)) ?_; refine QF ?_; refine KE (g := 1) (is := [7, 9]) (by kernel_rfl) rfl (.cons ?n7_5_6_8_7 (.cons ?n7_5_6_8_9 .nil))
      case' n7_5_6_8_7 =>
       refine Qa rfl rfl ?_; refine Jv (k := 0) (n := 3) (vs := (jS ys i).cells.toArray) (cs' := (JK (ys.take i) ++ (jS ys i).cells ++ sp).toArray) rfl rfl rfl rfl rfl (ItL.len _) (ItL.one _) (by show i * 3 + 3 ≤ (JK (ys.take i) ++ [Value.bool false, .string ⟨#[]⟩, .slice none 0 0] ++ sp).length; rw [List.length_append, List.length_append, hrow.len]; simp) (congrArg List.toArray (Vg hrow.len rfl)) rfl ?_; refine QF ?_; refine KE (g := 0) (is := [9]) (by kernel_rfl) rfl (.cons ?n7_5_6_8_7_9 .nil)
       case' n7_5_6_8_7_9 =>
        refine Qa rfl rfl ?_; refine Ju (k := 3) (cs' := #[.bool true, Jq [], JO (i + 1) (some (ra, cap, sp))]) rfl rfl rfl rfl rfl rfl rfl rfl rfl rfl ?_; refine QF ?_
      case' n7_5_6_8_9 =>
       refine Qa rfl rfl ?_; refine Ju (k := 3) (cs' := #[.bool true, Jq [], JO (i + 1) (some (ra, cap, sp))]) rfl rfl rfl rfl rfl rfl rfl rfl rfl rfl ?_; refine QF ?_; refine KE (g := 0) (is := [7]) (by kernel_rfl) rfl (.cons ?n7_5_6_8_9_7 .nil)
       case' n7_5_6_8_9_7 =>
        refine Qa rfl rfl ?_; refine Jv (k := 0) (n := 3) (vs := (jS ys i).cells.toArray) (cs' := (JK (ys.take i) ++ (jS ys i).cells ++ sp).toArray) rfl rfl rfl rfl rfl (ItL.len _) (ItL.one _) (by show i * 3 + 3 ≤ (JK (ys.take i) ++ [Value.bool false, .string ⟨#[]⟩, .slice none 0 0] ++ sp).length; rw [List.length_append, List.length_append, hrow.len]; simp) (congrArg List.toArray (Vg hrow.len rfl)) rfl ?_; refine QF ?_
    case' n7_5_8 =>
     refine Qa rfl rfl ?_
     refine LR rfl (Ja rfl rfl (by first | (simp only [Nat.zero_add, Nat.reduceAdd, Nat.reduceMul, Nat.zero_mul, Nat.mul_one, Nat.add_zero]; exact rfl) | exact rfl)) ?_; refine QF ?_; refine KE (g := 2) (is := [6, 9]) (by kernel_rfl) rfl (.cons ?n7_5_8_6 (.cons ?n7_5_8_9 .nil))
     case' n7_5_8_6 =>
      refine Qa rfl rfl ?_; refine LR rfl (QE (m := 3) (j := i) (off' := i * 3) rfl rfl rfl rfl rfl (by omega) (by omega)) ?_; refine QF ?_; refine KE (g := 1) (is := [7, 9]) (by kernel_rfl) rfl (.cons ?n7_5_8_6_7 (.cons ?n7_5_8_6_9 .nil))
      case' n7_5_8_6_7 =>
       refine Qa rfl rfl ?_; refine Jv (k := 0) (n := 3) (vs := (jS ys i).cells.toArray) (cs' := (JK (ys.take i) ++ (jS ys i).cells ++ sp).toArray) rfl rfl rfl rfl rfl (ItL.len _) (ItL.one _) (by show i * 3 + 3 ≤ (JK (ys.take i) ++ [Value.bool false, .string ⟨#[]⟩, .slice none 0 0] ++ sp).length; rw [List.length_append, List.length_append, hrow.len]; simp) (congrArg List.toArray (Vg hrow.len rfl)) rfl ?_; refine QF ?_; refine KE (g := 0) (is := [9]) (by kernel_rfl) rfl (.cons ?n7_5_8_6_7_9 .nil)
       case' n7_5_8_6_7_9 =>
        refine Qa rfl rfl ?_; refine Ju (k := 3) (cs' := #[.bool true, Jq [], JO (i + 1) (some (ra, cap, sp))]) rfl rfl rfl rfl rfl rfl rfl rfl rfl rfl ?_; refine QF ?_
      case' n7_5_8_6_9 =>
       refine Qa rfl rfl ?_; refine Ju (k := 3) (cs' := #[.bool true, Jq [], JO (i + 1) (some (ra, cap, sp))]) rfl rfl rfl rfl rfl rfl rfl rfl rfl rfl ?_; refine QF ?_; refine KE (g := 0) (is := [7]) (by kernel_rfl) rfl (.cons ?n7_5_8_6_9_7 .nil)
       case' n7_5_8_6_9_7 =>
        refine Qa rfl rfl ?_; refine Jv (k := 0) (n := 3) (vs := (jS ys i).cells.toArray) (cs' := (JK (ys.take i) ++ (jS ys i).cells ++ sp).toArray) rfl rfl rfl rfl rfl (ItL.len _) (ItL.one _) (by show i * 3 + 3 ≤ (JK (ys.take i) ++ [Value.bool false, .string ⟨#[]⟩, .slice none 0 0] ++ sp).length; rw [List.length_append, List.length_append, hrow.len]; simp) (congrArg List.toArray (Vg hrow.len rfl)) rfl ?_; refine QF ?_
     case' n7_5_8_9 =>
      refine Qa rfl rfl ?_; refine Ju (k := 3) (cs' := #[.bool true, Jq [], JO (i + 1) (some (ra, cap, sp))]) rfl rfl rfl rfl rfl rfl rfl rfl rfl rfl ?_; refine QF ?_; refine KE (g := 1) (is := [6]) (by kernel_rfl) rfl (.cons ?n7_5_8_9_6 .nil)
      case' n7_5_8_9_6 =>
       refine Qa rfl rfl ?_; refine LR rfl (QE (m := 3) (j := i) (off' := i * 3) rfl rfl rfl rfl rfl (by omega) (by omega)) ?_; refine QF ?_; refine KE (g := 0) (is := [7]) (by kernel_rfl) rfl (.cons ?n7_5_8_9_6_7 .nil)
       case' n7_5_8_9_6_7 =>
        refine Qa rfl rfl ?_; refine Jv (k := 0) (n := 3) (vs := (jS ys i).cells.toArray) (cs' := (JK (ys.take i) ++ (jS ys i).cells ++ sp).toArray) rfl rfl rfl rfl rfl (ItL.len _) (ItL.one _) (by show i * 3 + 3 ≤ (JK (ys.take i) ++ [Value.bool false, .string ⟨#[]⟩, .slice none 0 0] ++ sp).length; rw [List.length_append, List.length_append, hrow.len]; simp) (congrArg List.toArray (Vg hrow.len rfl)) rfl ?_; refine QF ?_
   all_goals refine Jet (by kernel_rfl) ?_
   all_goals (
    refine Jo (VW [3, 0] (L' := [_, _]) (by decide) rfl ?_); refine VZ (i + 1, some (ra, cap, sp)) ⟨rfl, by omega, by rw [← yt hii]; exact hra.same (by rw [List.length_append, List.length_append, ItL.len]; rfl)⟩ ?_; simp only [Kk, JO, yt hii]
    skip)
  rintro D i ⟨_, row⟩ hfi ⟨rfl, him, hrow⟩
  simp only at hrow ⊢
  have hfi : i = ys.length := hfi
  subst hfi; rw [List.take_length] at hrow ⊢; refine Jo (hK7 ?_); refine sR fun _ hK9 => ?_
  have hin : (ItL.mk true [] (Qm row) ys).In (Kk 91 (JK ys) row ++ yL) := Y4 (by omega) hrow (fun q h => List.mem_append_left _ h) (fun x hx => (yhx x hx).mono fun q hq => List.mem_append_right _ hq)
  have her : (ItL.mk true [] (Qm row) ys).er = KG (Qu t.er) := by rw [Y5, yer]
  have hre := qC hin (by rw [her]; exact hok) (by rw [her]; omega)
  have hr0 : V1 (KG (Qu t.er)) = 0 := by unfold V1; rw [if_neg (by omega)]
  rw [her, hr0, if_neg (by decide)] at hre; refine Kv (L' := (D, _) :: (r5, _) :: (r0, _) :: (Kk 91 (JK ys) row ++ yL)) (by rw [← List.append_assoc]; exact (List.perm_append_comm.cons _).cons _) ?_; refine LR rfl (Jm (xs := [.bool true, Jq [], JO ys.length row]) (n := 3) rfl (kn 1 rfl) rfl rfl rfl) ?_; refine JA (show _ = ItL.val (.mk true [] (Qm row) ys) from congrArg (fun z => Value.agg #[.bool true, Jq [], z]) (Ql hrow)) ?_; refine J4 rfl rfl rfl (enters_of Tryz.func36 (by kernel_rfl) rfl) hre (fun q hq => Or.inl (List.mem_cons_of_mem _ (List.mem_cons_of_mem _ (List.mem_cons_of_mem _ hq)))) ?_; refine Jb rfl (LR rfl (Jf rfl rfl) (LR rfl (Jf rfl rfl) ?_)); refine Jb rfl (Jb rfl ?_); refine nK hK9 ?_; refine sQ fun _ hK10 => ?_; refine sR fun _ hK11 => ?_
  refine LR rfl (Ja rfl rfl (by first | (simp only [Nat.zero_add, Nat.reduceAdd, Nat.reduceMul, Nat.zero_mul, Nat.mul_one, Nat.add_zero]; exact rfl) | exact rfl)) ?_; refine LR rfl (Jc rfl (kn 2 rfl) rfl rfl) ?_; refine J2 rfl ?_; refine nK hK11 ?_; refine cD (fun h12 => ?_) fun h12 => ?_
  refine Je ?_
  refine LR rfl (Ja rfl rfl (by first | (simp only [Nat.zero_add, Nat.reduceAdd, Nat.reduceMul, Nat.zero_mul, Nat.mul_one, Nat.add_zero]; exact rfl) | exact rfl)) ?_; refine LR rfl (Jc rfl (kn 2 rfl) rfl rfl) ?_; refine J2 rfl ?_; refine JA (show _ = bV (UInt8.ofNat t.kind.toNat) from by have hkk := hk; unfold K012 at hkk; have h := vd (n := t.kind.toNat) (by omega); rw [← h]; congr 2; omega) ?_; refine JV (n := 1) (sz := 1) (vs := [_]) (zs := [_]) (r := [_]) rfl rfl rfl rfl rfl rfl rfl rfl rfl (by show (madeCells #[_] _).toList = _; rw [KA]; exact rfl) rfl fun rb => ?_; refine LR rfl (Q9 (row := some (rb, 1, [])) (b := [UInt8.ofNat t.kind.toNat]) rfl ⟨rfl, rfl⟩ (fun q hq => by rw [List.mem_singleton.1 hq]; exact Vf (k := 0) rfl) rfl rfl rfl) ?_; refine Jb rfl ?_; refine LR rfl (ja rfl rfl (by simp; omega)) ?_; refine Jb rfl ?_; refine nK hK10 ?_; refine sR fun _ hK13 => ?_; refine Jb rfl (Jb rfl ?_); refine Jb rfl (Jb rfl ?_); refine nK hK13 ?_; refine Jd ?_
  (refine V8 (k := 1) rfl rfl ?_
   refine Jp rfl rfl (.cons (Jk rfl) (.cons (Jk rfl) .nil)) (fun w1 hs1 => ?_); refine ⟨congrArg (fun z => Ending.returned (Value.tuple #[Jq z, .int .i64 0])) ?_, hs1.keep⟩
   unfold We Jcd
   rw [if_neg (by assumption)]; rfl)
  refine Jg (hK10 ?_); refine sR fun _ hK14 => ?_; refine Jb rfl (Jb rfl ?_); refine Jb rfl (Jb rfl ?_); refine nK hK14 ?_; refine Jd ?_
  (refine V8 (k := 0) rfl rfl ?_
   refine Jp rfl rfl (.cons (Jk rfl) (.cons (Jk rfl) .nil)) (fun w1 hs1 => ?_); refine ⟨congrArg (fun z => Ending.returned (Value.tuple #[Jq z, .int .i64 0])) ?_, hs1.keep⟩
   unfold We Jcd
   rw [if_pos (by assumption)]; rfl)
  ·exact fun _ _ _ h => h.elim
end Go.Proofs.YtckoepmdmhdepaaGreatDoor
namespace Go.SL
set_option linter.all false
open Go Go.RowKit Go.Shelf
open Go.Proofs (Enters enters_of)
def RS {ι : Type} (P : Program) (g : FuncId) (vals : Array Value) (xs : List Nat) (w : World) (re : Value → ι → Prop) (XI : ι → XP) : Prop :=
 Calls P g vals w fun e w' => ∃ v i' xs', re v i' ∧ e = .returned v ∧ (∀ k ∈ xs', k < w'.heap.size ∧ (k ∈ xs ∨ w.heap.size ≤ k)) ∧ Keep xs w w' ∧ Xi xs' (XI i') w'
def Jav {ι : Type} (P : Program) (gf : FuncId) (caps : List Value) (T Rl : Jy) (p0 : ι) (nx : ι → List Value → ι → Prop) (ca : ι → FuncId → List Value → Prop) (re : ι → Value → ι → Prop) (dead fin : ι → Prop) : Prop :=
 ∀ (q : Nat) (xids : List Nat) (w2 : World) (XI : ι → XP) (XF : XP),
  (∀ p ∈ Rl, p.1 ∉ xids ∧ (∀ t ∈ T, p.1 ≠ t.1) ∧ w2.heap[p.1]? = some p.2) → (∀ p ∈ T, p.1 ∉ xids ∧ w2.heap[p.1]? = some p.2) → (T.Pairwise fun p q => p.1 ≠ q.1) → (∀ k ∈ xids, k < w2.heap.size) → Xi xids (XI p0) w2 →
  (∀ i xs w, dead i → ¬ XI i xs w) →
  (∀ i v i', nx i v i' → ∀ xs w, (∀ k ∈ xs, k < w.heap.size ∧ (k ∈ xids ∨ w2.heap.size ≤ k)) → Keep (KL T ++ xids) w2 w → Xi xs (XI i) w → YS P q v.toArray xs w (XI i') XF) →
  (∀ i g vs, ca i g vs → ∀ xs w, (∀ k ∈ xs, k < w.heap.size ∧ (k ∈ xids ∨ w2.heap.size ≤ k)) → Keep (KL T ++ xids) w2 w → Xi xs (XI i) w → RS P g vs.toArray xs w (re i) XI) →
  Calls P gf (.func (.yield q) #[] #[] :: caps).toArray w2 fun e w' => (∃ v, e = .returned v) ∧ Keep (KL T ++ xids) w2 w' ∧ ((∃ i xs, fin i ∧ XI i xs w') ∨ ∃ xs, XF xs w')
theorem Zv {ι : Type} {P : Program} {f : FuncId} {fn : Func} {code : Code} {caps : List Value} {T Rl : Jy} {p0 : ι} {nx : ι → List Value → ι → Prop} {ca : ι → FuncId → List Value → Prop} {re : ι → Value → ι → Prop} {dead fin : ι → Prop} (hf : P.funcs[f]? = some fn) (hb : fn.body = some code) (hlen : Nat.ble (caps.length + 1) fn.ntmps = true)
  (h : ∀ (q : Nat) (xids : List Nat) (w2 : World) (XI : ι → XP) (XF : XP), (∀ i xs w, dead i → ¬ XI i xs w) →
   (∀ i v i', nx i v i' → ∀ xs w, (∀ k ∈ xs, k < w.heap.size ∧ (k ∈ xids ∨ w2.heap.size ≤ k)) → Keep (KL T ++ xids) w2 w → Xi xs (XI i) w → YS P q v.toArray xs w (XI i') XF) →
   (∀ i g vs, ca i g vs → ∀ xs w, (∀ k ∈ xs, k < w.heap.size ∧ (k ∈ xids ∨ w2.heap.size ≤ k)) → Keep (KL T ++ xids) w2 w → Xi xs (XI i) w → RS P g vs.toArray xs w (re i) XI) →
   HC ⟨P, none, w2, KL T, xids, Rl, fn.ntmps⟩ [] (Vr 0 (.func (.yield q) #[] #[] :: caps)) T (XI p0) code
    (bodyPostM (FW none) 0 P fn (fun e w' => (∃ v, e = .returned v) ∧ Keep (KL T ++ xids) w2 w' ∧ ((∃ i xs, fin i ∧ XI i xs w') ∨ ∃ xs, XF xs w')))) : Jav P f caps T Rl p0 nx ca re dead fin :=
 fun q xids w2 XI XF hR hT hTp hlt h0 hd hY hC =>
  QP ⟨P, none, w2, KL T, xids, Rl, fn.ntmps⟩ hf hb rfl rfl rfl hlen
   ⟨Keep.refl _ _, fun p hp => ⟨.inl (List.mem_map_of_mem (f := (·.1)) hp), (hT p hp).1, (hT p hp).2⟩, hTp, fun p hp => ⟨fun hm => by obtain ⟨t, ht, e⟩ := List.mem_map.1 hm; exact (hR p hp).2.1 t ht e.symm, (hR p hp).1, (hR p hp).2.2⟩, hlt, xids, fun k hk => ⟨.inl hk, hlt k hk, fun p hp e => (hT p hp).1 (e ▸ hk)⟩, h0⟩ (h q xids w2 XI XF hd hY hC)
section
variable {c : Cx} {l : KK} {L : Jy} {X : XP} {Q : Exit → Act → World → Prop} {d : List Deferred}
variable {ops : Array Oper} {rest : List Oper} {i : Nat} {v : Value} {t : TypeId} {ps : String} {af : Array Edge} {gd : Option (Nat × Bool)} {ty : TypeId}
theorem Ji2 {ι : Type} {f : Operand} {args : Array Operand} {at_ : Array TypeId} {g : FuncId} {vs : List Value} {re : Value → ι → Prop} {XI : ι → XP}
  (hg : Kx l ops ⟨some i, .call ⟨.value f, args, at_⟩, ty, ps, af, gd⟩ = some true) (hi : Nat.ble (i + 1) c.n = true) (hca : Qe l f args = some (g, vs)) (eg : Enters c.P g)
  (hC : ∀ xs w, (∀ k ∈ xs, k < w.heap.size ∧ (k ∈ c.xids ∨ c.w1.heap.size ≤ k)) → Keep (c.ids ++ c.xids) c.w1 w → Xi xs X w → RS c.P g vs.toArray xs w re XI)
  (h : ∀ v i', re v i' → HL c d ((i, v) :: l) L (XI i') ops rest Q) : HL c d l L X ops (⟨some i, .call ⟨.value f, args, at_⟩, ty, ps, af, gd⟩ :: rest) Q :=
 Xl (α := { y : Value × ι // re y.1 y.2 }) (V := fun y => y.1.1) (L' := fun _ => L) (X' := fun y => XI y.1.2) hg hi hca eg (fun w hs => by
  obtain ⟨xs, hx1, hx2⟩ := hs.x
  refine (hC xs w (fun k hk => ⟨(hx1 k hk).2.1, (hx1 k hk).1⟩) hs.keep hx2).mono fun e w' ⟨v, i', xs', hre, he, hxs, hk, hb⟩ => ⟨⟨(v, i'), hre⟩, he, ?_⟩; refine ⟨hs.keep.glue hk fun k hm => ?_, fun p hp => ?_, hs.distinct, hs.ext, hs.xlt, xs', fun k hm => ?_, hb⟩
  ·rcases (hx1 k hm).1 with g | g
   ·exact .inl (List.mem_append_right _ g)
   ·exact .inr g
  ·obtain ⟨g1, g2, g3⟩ := hs.own p hp
   exact ⟨g1, g2, (hk.block p.1 (J6 g3) fun hm => (hx1 _ hm).2.2 p hp rfl).trans g3⟩
  ·obtain ⟨g1, g2⟩ := hxs k hm
   refine ⟨g2.elim (fun g => (hx1 k g).1) fun g => .inr (Nat.le_trans hs.keep.size g), g1, fun p hp => ?_⟩
   rcases g2 with g | g
   ·exact (hx1 k g).2.2 p hp
   ·have := J6 (hs.own p hp).2.2; omega) (fun y => h _ _ y.2)
theorem Ji3 {ι : Type} {XI : ι → XP} {dead : ι → Prop} {j : ι} {rest' : List Oper} (h : ∀ i xs w, dead i → ¬ XI i xs w) (hd : dead j) : HL c d l L (XI j) ops rest' Q := fun a w _ hs => by
 obtain ⟨xs, _, hx⟩ := hs.x
 exact (h j xs w hd (hx w fun _ _ => rfl)).elim
theorem qF {ι σ τ : Type} {f : Operand} {pp : List Nat} {assign body : Code} {gf : FuncId} {caps : List Value} {T Rl Rk : Jy} {p0 : ι} {nx : ι → List Value → ι → Prop} {ca : ι → FuncId → List Value → Prop} {re : ι → Value → ι → Prop} {dead fi : ι → Prop}
  (I : ι → σ → Prop) (LI : σ → Jy) (E : Code → τ → Prop) (LE : τ → Jy) (Lk : Jy) (s0 : σ)
  (hro : c.ro = none) (hf : Kz l f = some (.func (.func gf) #[] caps.toArray)) (eg : Enters c.P gf) (hit : Jav c.P gf caps T Rl p0 nx ca re dead fi) (hlen : ∀ i v i', nx i v i' → v.length = pp.length) (hpp : pp.all (Nat.blt · c.n) = true)
  (hRl : ∀ p ∈ Rl, p ∈ Lk ∨ p ∈ c.R) (hRk : ∀ p ∈ Rk, p ∈ Lk ∨ p ∈ c.R) (hL : L = LI s0 ++ (T ++ Lk)) (h0 : I p0 s0) (hdead : ∀ i s, dead i → ¬ I i s)
  (hread : ∀ i g vs s, ca i g vs → I i s → PureT (α := { y : Value × ι × σ // re i y.1 y.2.1 ∧ I y.2.1 y.2.2 }) c.P g vs.toArray (fun y => y.1.1) (LI s) (fun y => LI y.1.2.2) Rk)
  (hround : ∀ (q : Nat) (Xr Xb : XP) (w3 : World) (i : ι) (v : List Value) (i' : ι) (s : σ), nx i v i' → I i s → ∀ K, xy (jI c q w3 (KL (LI s)) Lk) Xr Xb body (Xn (jI c q w3 (KL (LI s)) Lk) Xb (I i') LI E LE) K →
   HC (jI c q w3 (KL (LI s)) Lk) [] (ZV pp v l) (LI s) Xr assign (Exit.then K fun _ _ _ => False))
  (hdone : ∀ D i s, fi i → I i s → HQ c (Vh D :: d) l ((D, .deferred (some [])) :: (LI s ++ Lk)) X (Q .normal))
  (hstop : ∀ D j s, E j s → HC c (Vh D :: d) l ((D, .deferred (some [])) :: (LE s ++ Lk)) X j Q) :
  HC c d l L X (.rangeFunc f pp.toArray assign body) Q := fun a w hfr hs => by
 subst hL; refine wpIn_rangeFunc ?_; intro fn _
 have e0 : (FW c.ro).round = none := by rw [hro]; rfl
 rw [e0]
 obtain ⟨r, hr⟩ : ∃ r : Loop, r = { state := .ready, pending := none, fn, tmps := a.tmps, params := pp.toArray, assign, body, defers := w.heap.size } := ⟨_, rfl⟩
 obtain ⟨w2, hw2⟩ : ∃ w2, (w.alloc (.deferred (some []))).alloc (.loop r) = w2 := ⟨_, rfl⟩
 have hq : (w.alloc (.deferred (some []))).heap.size = w.heap.size + 1 := World.size_alloc _ _
 have hs2 : St c ((w.heap.size + 1, .loop r) :: (w.heap.size, .deferred (some [])) :: (LI s0 ++ (T ++ Lk))) X w2 := by
  have := (hs.alloc (.deferred (some []))).alloc (.loop r)
  rw [hq, hw2] at this; exact this
 have hq2 : w2.heap[w.heap.size + 1]? = some (.loop r) := (hs2.own _ List.mem_cons_self).2.2
 have hrr : ({ r with state := .ready, pending := none } : Loop) = r := by rw [hr]
 obtain ⟨M, hM⟩ : ∃ M, KL (LI s0) = M := ⟨_, rfl⟩
 refine ⟨w.heap.size + 1, [Vh w.heap.size], w2, { target := .fn (.func gf) caps.toArray, args := #[.func (.yield (w.heap.size + 1)) #[] #[]] }, w2, gf, (.func (.yield (w.heap.size + 1)) #[] #[] :: caps).toArray, w2, ?_, ?_, fun _ _ => trivial, ?_, fun hdep => (by cases hdep), ?_⟩
 rw [← hw2, hr]; exact run_enterLoop_outer _ _ _ _ _
 have := hfr.eval hf
 simp only [resolve, this]
 simp [Deferred.ofValue]
 rfl
 have := eg (#[.func (.yield (w.heap.size + 1)) #[] #[]] ++ caps.toArray) w2
 have e1 : (#[Value.func (.yield (w.heap.size + 1)) #[] #[]] ++ caps.toArray) = (Value.func (.yield (w.heap.size + 1)) #[] #[] :: caps).toArray := by apply Array.toList_inj.1; simp
 rw [e1] at this
 simpa [invoke] using this
 ·-- the iterator's contract at our invariant
  have hown := hs2.distinct
  have hLkm : ∀ p ∈ Lk, p ∈ LI s0 ++ (T ++ Lk) := fun p hp => List.mem_append_right _ (List.mem_append_right _ hp)
  have hTm : ∀ p ∈ T, p ∈ LI s0 ++ (T ++ Lk) := fun p hp => List.mem_append_right _ (List.mem_append_left _ hp)
  have hin : ∀ {k : Nat}, k ∈ KL T → ∃ p ∈ T, p.1 = k := fun {k} hk => by obtain ⟨p, hp, e⟩ := List.mem_map.1 hk; exact ⟨p, hp, e⟩
  have hMown : ∀ k ∈ M, ∃ o, (k, o) ∈ LI s0 := fun k hk => by
   rw [← hM] at hk
   obtain ⟨p, hp, rfl⟩ := List.mem_map.1 hk
   exact ⟨p.2, hp⟩
  have hpw := List.pairwise_cons.1 hown
  have hpw2 := List.pairwise_cons.1 hpw.2
  have hpw3 := List.pairwise_append.1 hpw2.2
  have hsz2 : w2.heap.size = w.heap.size + 2 := by rw [← hw2, World.size_alloc, World.size_alloc]
  have hLk2 : ∀ p ∈ Lk, p.1 < w2.heap.size := fun p hp => J6 (hs2.own p (List.mem_cons_of_mem _ (List.mem_cons_of_mem _ (hLkm p hp)))).2.2
  have hMk : ∀ p ∈ Lk, p.1 ∉ M ∧ p.1 ≠ w.heap.size + 1 := fun p hp => ⟨fun hm => by
   obtain ⟨o, ho⟩ := hMown _ hm
   exact hpw3.2.2 _ ho _ (List.mem_append_right _ hp) rfl, fun e => hpw.1 p (List.mem_cons_of_mem _ (hLkm p hp)) e.symm⟩
  have hpwT := List.pairwise_append.1 hpw3.2.1
  have hTk : ∀ p ∈ Lk, p.1 ∉ KL T := fun p hp hm => by
   obtain ⟨t, ht, e⟩ := hin hm
   exact hpwT.2.2 _ ht _ hp e
  have hTM : ∀ p ∈ T, p.1 ∉ M ∧ p.1 ≠ w.heap.size + 1 ∧ p.1 ≠ w.heap.size ∧ p.1 < w2.heap.size := fun p hp => ⟨fun hm => by
   obtain ⟨o, ho⟩ := hMown _ hm
   exact hpw3.2.2 _ ho _ (List.mem_append_left _ hp) rfl, fun e => hpw.1 p (List.mem_cons_of_mem _ (hTm p hp)) e.symm, fun e => hpw2.1 p (hTm p hp) e.symm, J6 (hs2.own p (List.mem_cons_of_mem _ (List.mem_cons_of_mem _ (hTm p hp)))).2.2⟩
  have hMq : w.heap.size + 1 ∉ M := fun hm => by
   obtain ⟨o, ho⟩ := hMown _ hm
   exact hpw.1 _ (List.mem_cons_of_mem _ (List.mem_append_left _ ho)) rfl
  have hMD : w.heap.size ∉ M := fun hm => by
   obtain ⟨o, ho⟩ := hMown _ hm
   exact hpw2.1 _ (List.mem_append_left _ ho) rfl
  have hMlt : ∀ k ∈ M, k < w2.heap.size := fun k hk => by
   obtain ⟨o, ho⟩ := hMown _ hk
   exact J6 (hs2.own _ (List.mem_cons_of_mem _ (List.mem_cons_of_mem _ (List.mem_append_left _ ho)))).2.2
  -- what a place of one's own is apart from
  have apart : ∀ {k : Nat}, (k ∈ M ∨ w2.heap.size ≤ k) → k ≠ w.heap.size + 1 ∧ k ≠ w.heap.size ∧ (∀ p ∈ Lk, p.1 ≠ k) := fun {k} hk => by
   rcases hk with hk | hk
   exact ⟨fun e => hMq (e ▸ hk), fun e => hMD (e ▸ hk), fun p hp e => (hMk p hp).1 (e ▸ hk)⟩
   exact ⟨by omega, by omega, fun p hp e => by have := hLk2 p hp; omega⟩
  have apartR : ∀ {k : Nat}, (k ∈ M ∨ w2.heap.size ≤ k) → ∀ p ∈ c.R, p.1 ≠ k := fun {k} hk p hp e => by
   obtain ⟨e1, _, e3⟩ := hs2.ext p hp
   have h1 := J6 e3
   have h2 := hs.keep.size
   rcases hk with hk | hk
   obtain ⟨o, ho⟩ := hMown _ hk
   rcases (hs2.own _ (List.mem_cons_of_mem _ (List.mem_cons_of_mem _ (List.mem_append_left _ ho)))).1 with g | g
   exact e1 (e ▸ g)
   simp only at g; omega
   omega
  have hTR : ∀ p ∈ c.R, p.1 ∉ KL T := fun p hp hm => by
   obtain ⟨t, ht, e⟩ := hin hm
   obtain ⟨e1, _, e3⟩ := hs2.ext p hp
   have h1 := J6 e3
   have h2 := hs.keep.size
   rcases (hs2.own _ (List.mem_cons_of_mem _ (List.mem_cons_of_mem _ (hTm t ht)))).1 with g | g
   exact e1 (e ▸ g)
   rw [e] at g; omega
  have hcalls := hit (w.heap.size + 1) ((w.heap.size + 1) :: M) w2 (fun i => wc (w.heap.size + 1) w2.heap.size M r (I i) LI)
   (fun xs w' => ∃ j, wc (w.heap.size + 1) w2.heap.size M { r with state := .done, pending := some j } (E j) LE xs w')
   (fun p hp => by
    rcases hRl p hp with hL | hR
    ·refine ⟨fun hm => ?_, fun t ht e => hTk p hL (e ▸ List.mem_map_of_mem (f := (·.1)) ht), (hs2.own p (List.mem_cons_of_mem _ (List.mem_cons_of_mem _ (hLkm p hL)))).2.2⟩
     obtain ⟨h1, h2⟩ := hMk p hL
     rcases List.mem_cons.1 hm with hm | hm
     exact h2 hm
     exact h1 hm
    ·refine ⟨fun hm => ?_, fun t ht e => hTR p hR (e ▸ List.mem_map_of_mem (f := (·.1)) ht), hs2.readR hR⟩
     rcases List.mem_cons.1 hm with hm | hm
     have h1 := J6 (hs2.ext p hR).2.2
     have h2 := hs.keep.size
     omega
     exact apartR (.inl hm) p hR rfl)
   (fun p hp => by
    obtain ⟨g1, g2, _, _⟩ := hTM p hp
    exact ⟨fun hm => (List.mem_cons.1 hm).elim g2 g1, (hs2.own p (List.mem_cons_of_mem _ (List.mem_cons_of_mem _ (hTm p hp)))).2.2⟩)
   hpwT.1
   (fun k hk => by
    rcases List.mem_cons.1 hk with rfl | hk
    exact J6 hq2
    exact hMlt k hk)
   (by
    have := Vi (q := w.heap.size + 1) (B := w2.heap.size) (M := M) (rec := r) (I := I p0) (LI := LI) s0 h0 hpw3.1 (fun p hp => .inl (by rw [← hM]; exact List.mem_map_of_mem (f := (·.1)) hp)) (fun p hp => (hs2.own _ (List.mem_cons_of_mem _ (List.mem_cons_of_mem _ (List.mem_append_left _ hp)))).2.2) hq2
    rw [hM] at this
    exact this)
   (fun i xs w' hd hx => by
    obtain ⟨⟨s, h1, _⟩, _⟩ := hx
    exact hdead i s hd h1)
   ?_ ?_
  ·refine CallsIn.mono (show CallsIn (FW c.ro) (0 - 1) c.P gf _ w2 _ from callsIn_wide (n := 0) |>.2 hcalls) ?_
   rintro e w' ⟨⟨v, rfl⟩, hk, hfin⟩
   have fin : ∀ (st : LoopState) (pe : Option Code) (LL : Jy), st ≠ .busy → LL.Pairwise (fun p q => p.1 ≠ q.1) → (∀ p ∈ LL, p.1 ∈ M ∨ w2.heap.size ≤ p.1) → YI LL w' → w'.heap[w.heap.size + 1]? = some (.loop { r with state := st, pending := pe }) →
     (Instr.endLoop (w.heap.size + 1)).run c.P w' = .ok pe (w'.putObj (w.heap.size + 1) (.loop { r with state := .exhausted, pending := pe })) ∧
     St c ((w.heap.size, .deferred (some [])) :: (LL ++ Lk)) X (w'.putObj (w.heap.size + 1) (.loop { r with state := .exhausted, pending := pe })) := by
    intro st pe LL hst hpwL hLM hLL hl; refine ⟨run_endLoop hl hst, ?_⟩
    have hk2 : Keep (KL T ++ (w.heap.size + 1) :: M) w2 (w'.putObj (w.heap.size + 1) (.loop { r with state := .exhausted, pending := pe })) :=
     hk.trans ((Keep.putObj _ _).weak fun k hm => by simp at hm; subst hm; exact List.mem_append_right _ List.mem_cons_self)
    have hput : ∀ k, k ≠ w.heap.size + 1 → (w'.putObj (w.heap.size + 1) (.loop { r with state := .exhausted, pending := pe })).heap[k]? = w'.heap[k]? := fun k hne => World.putObj_heap_other hne
    refine hs2.jump hk2 (fun k hm => ?_) ?_ (fun p hp => ?_)
    rcases List.mem_append.1 hm with hm | hm
    obtain ⟨t, ht, rfl⟩ := hin hm
    exact ⟨t.2, List.mem_cons_of_mem _ (List.mem_cons_of_mem _ (hTm t ht))⟩
    rcases List.mem_cons.1 hm with rfl | hm
    exact ⟨_, List.mem_cons_self⟩
    obtain ⟨o, ho⟩ := hMown k hm
    exact ⟨o, List.mem_cons_of_mem _ (List.mem_cons_of_mem _ (List.mem_append_left _ ho))⟩
    refine List.pairwise_cons.2 ⟨fun p hp => ?_, List.pairwise_append.2 ⟨hpwL, hpwT.2.1, fun p hp p' hp' => ?_⟩⟩
    rcases List.mem_append.1 hp with hp | hp
    exact fun e => (apart (hLM p hp)).2.1 e.symm
    exact hpw2.1 p (hLkm p hp)
    exact fun e => (apart (hLM p hp)).2.2 p' hp' e.symm
    rcases List.mem_cons.1 hp with rfl | hp
    refine ⟨.inl ⟨_, List.mem_cons_of_mem _ List.mem_cons_self⟩, ?_⟩
    rw [hput _ (by simp)]; refine (hk.block w.heap.size (J6 (hs2.own _ (List.mem_cons_of_mem _ List.mem_cons_self)).2.2) ?_).trans (hs2.own _ (List.mem_cons_of_mem _ List.mem_cons_self)).2.2; simp only [List.mem_append, List.mem_cons, not_or]; exact ⟨fun hm => by obtain ⟨t, ht, e⟩ := hin hm; exact (hTM t ht).2.2.1 e, by omega, hMD⟩
    rcases List.mem_append.1 hp with hp | hp
    refine ⟨?_, ?_⟩
    rcases hLM p hp with g | g
    obtain ⟨o, ho⟩ := hMown _ g
    exact .inl ⟨o, List.mem_cons_of_mem _ (List.mem_cons_of_mem _ (List.mem_append_left _ ho))⟩
    exact .inr g
    rw [hput _ (apart (hLM p hp)).1]
    exact hLL p hp
    have hmem := List.mem_cons_of_mem (w.heap.size + 1, Obj.loop r) (List.mem_cons_of_mem (w.heap.size, Obj.deferred (some [])) (hLkm p hp))
    refine ⟨.inl ⟨p.2, hmem⟩, ?_⟩
    obtain ⟨g1, g2⟩ := hMk p hp
    rw [hput _ g2]; refine (hk.block p.1 (J6 (hs2.own _ hmem).2.2) ?_).trans (hs2.own _ hmem).2.2; simp only [List.mem_append, List.mem_cons, not_or]; exact ⟨hTk p hp, g2, g1⟩
   have hfr2 : Fr c.n (Vh w.heap.size :: d) l { tmps := a.tmps, defers := [Vh w.heap.size] ++ a.defers } := ⟨hfr.size, by simp [hfr.defers], hfr.slots⟩
   rcases hfin with ⟨i, xs, hi, ⟨s, h1, h2, h3, h4, _⟩, h5⟩ | ⟨xs, j, ⟨s, h1, h2, h3, h4, _⟩, h5⟩
   obtain ⟨g1, g2⟩ := fin .ready none (LI s) (by simp) h2 h3 h4 (by rw [hrr]; exact h5)
   exact ⟨none, _, g1, hdone _ i s hi h1 _ _ hfr2 g2⟩
   ·obtain ⟨g1, g2⟩ := fin .done (some j) (LE s) (by simp) h2 h3 h4 h5
    exact ⟨some j, _, g1, hstop _ j s h1 _ _ hfr2 g2⟩
  ·-- a round
   rintro i v i' hi xs w3 hxs hk3 hfoot
   obtain ⟨⟨s, h1, hpwS, hMS, h2, rfl⟩, h3⟩ := hfoot w3 fun _ _ => rfl
   have hargs : v.toArray.size = r.params.size := by rw [hr]; simpa using hlen i v i' hi
   have hy := run_yield (P := c.P) (args := v.toArray) h3 hargs
   refine ⟨_, _, _, _, hy, ?_⟩
   obtain ⟨c3, hc3⟩ : ∃ c3, jI c (w.heap.size + 1) w3 (KL (LI s)) Lk = c3 := ⟨_, rfl⟩
   have hc3x : c3.xids = [w.heap.size + 1] := by rw [← hc3]; rfl
   have hc3i : c3.ids = KL (LI s) := by rw [← hc3]; rfl
   have hc3w : c3.w1 = w3 := by rw [← hc3]; rfl
   have hmemS : ∀ p ∈ LI s, p.1 ∈ KL (LI s) := fun p hp => List.mem_map_of_mem (f := (·.1)) hp
   have hidS : ∀ {k : Nat}, k ∈ KL (LI s) → k ∈ M ∨ w2.heap.size ≤ k := fun {k} hk => by
    obtain ⟨p, hp, rfl⟩ := List.mem_map.1 hk
    exact hMS p hp
   have hst3 : St c3 (LI s) (W8 (w.heap.size + 1) r) w3 := by
    subst hc3; refine ⟨Keep.refl _ _, fun p hp => ⟨.inl (hmemS p hp), ?_, h2 p hp⟩, hpwS, ?_, ?_, [w.heap.size + 1], fun k hk => ?_, fun w' hw' => (hw' _ (by simp)).trans h3⟩
    simp only [jI, List.mem_singleton]; exact (apart (hMS p hp)).1
    intro p hp
    simp only [jI] at hp ⊢
    rcases List.mem_append.1 hp with hp | hp
    obtain ⟨g1, g2⟩ := hMk p hp
    refine ⟨fun hm => (apart (hidS hm)).2.2 p hp rfl, by simpa using g2, ?_⟩
    have hmem := List.mem_cons_of_mem (w.heap.size + 1, Obj.loop r) (List.mem_cons_of_mem (w.heap.size, Obj.deferred (some [])) (hLkm p hp))
    exact (hk3.block p.1 (J6 (hs2.own _ hmem).2.2) (by simp only [List.mem_append, List.mem_cons, not_or]; exact ⟨hTk p hp, g2, g1⟩)).trans (hs2.own _ hmem).2.2
    have e3 := hs2.readR hp
    have hlt := J6 (hs2.ext p hp).2.2
    have hsz := hs.keep.size
    have hnq : p.1 ≠ w.heap.size + 1 := fun e => by omega
    refine ⟨fun hm => apartR (hidS hm) p hp rfl, by simpa using hnq, ?_⟩; exact (hk3.block p.1 (J6 e3) (by simp only [List.mem_append, List.mem_cons, not_or]; exact ⟨hTR p hp, hnq, fun hm => apartR (.inl hm) p hp rfl⟩)).trans e3
    intro k hk; simp only [jI, List.mem_singleton] at hk; subst hk; exact J6 h3
    simp only [List.mem_singleton] at hk
    subst hk; exact ⟨.inl (by simp [jI]), J6 h3, fun p hp => (apart (hMS p hp)).1⟩
   have hbusy : ∀ {LL : Jy} {w' : World}, St c3 LL (W8 (w.heap.size + 1) r) w' →
     St c3 LL (W8 (w.heap.size + 1) { r with state := .busy, pending := none }) (w'.putObj (w.heap.size + 1) (.loop { r with state := .busy, pending := none })) := by
    intro LL w' hst
    have hlt : w.heap.size + 1 < w'.heap.size := J6 hst.recd
    refine ⟨hst.keep.trans ((Keep.putObj _ _).weak fun k hm => by simp at hm; subst hm; rw [hc3x]; simp), fun p hp => ?_, hst.distinct, hst.ext, hst.xlt, [w.heap.size + 1], fun k hk => ?_, fun w'' hw'' => (hw'' _ (by simp)).trans (World.putObj_heap_same hlt)⟩
    obtain ⟨g1, g2, g3⟩ := hst.own p hp
    refine ⟨g1, g2, (World.putObj_heap_other ?_).trans g3⟩; intro e; exact g2 (by rw [e, hc3x]; simp)
    simp only [List.mem_singleton] at hk
    subst hk; exact ⟨.inl (by rw [hc3x]; simp), Nat.lt_of_lt_of_le hlt (Keep.putObj _ _).size, fun p hp e => (hst.own p hp).2.1 (by rw [hc3x, e]; simp)⟩
   have hfr3 : Fr c3.n [] (ZV pp v l) { tmps := (r.params.zip v.toArray).foldl (fun (t : Array Value) (pv : Nat × Value) => t.setIfInBounds pv.1 pv.2) r.tmps, defers := [] } := by
    have h5 := yY (n := c.n) pp v l a.tmps (fun p hp => by have := List.all_eq_true.1 hpp p hp; simpa using this) ⟨hfr.size, rfl, hfr.slots⟩
    rw [hr, ← hc3]; simp only [List.zip_toArray, List.foldl_toArray']; exact h5
   have key : ∀ RR : Ending → World → Prop,
     (∀ s' w', I i' s' → St c3 (LI s') (W8 (w.heap.size + 1) { r with state := .busy, pending := none }) w' → RR (.returned (.bool true)) (w'.putObj (w.heap.size + 1) (.loop { r with state := .ready, pending := none }))) →
     (∀ j s' w', E j s' → St c3 (LE s') (W8 (w.heap.size + 1) { r with state := .busy, pending := none }) w' → RR (.returned (.bool false)) (w'.putObj (w.heap.size + 1) (.loop { r with state := .done, pending := some j }))) →
     RoundIn (FW none) 0 c.P (w.heap.size + 1) r.fn ((r.params.zip v.toArray).foldl (fun (t : Array Value) (pv : Nat × Value) => t.setIfInBounds pv.1 pv.2) r.tmps) r.assign r.body w3 RR := by
    intro RR g1 g2; refine roundIn_of_wpIn (F := FW none) trivial ?_
    have hround' := hround (w.heap.size + 1) (W8 (w.heap.size + 1) r) (W8 (w.heap.size + 1) { r with state := .busy, pending := none }) w3 i v i' s hi h1
     (fun a₁ w₁ => ∃ w₂, (Instr.beginRound (w.heap.size + 1)).run c.P w₁ = .ok () w₂ ∧ body.wpIn ((FW none).inRound (w.heap.size + 1)) 0 c.P (roundPost c.P (w.heap.size + 1) RR) a₁ w₂)
    rw [hc3] at hround'
    have hround'' := hround' (fun l' L' hb a₁ w₁ hf₁ hs₁ => ?_) _ w3 hfr3 hst3
    have e1 : r.assign = assign := by rw [hr]
    have e2 : r.body = body := by rw [hr]
    have e3 : c3.P = c.P := by rw [← hc3]; rfl
    have e4 : c3.ro = some (w.heap.size + 1) := by rw [← hc3]; rfl
    rw [e3, e4] at hround''; rw [e1, e2]; exact hround''
    have hx1 : w₁.heap[w.heap.size + 1]? = some (.loop r) := hs₁.recd
    refine ⟨_, run_beginRound hx1 (by rw [hr]), ?_⟩
    have hb2 := hb a₁ _ hf₁ (hbusy hs₁)
    have hb3 : ({ r with state := .busy } : Loop) = { r with state := .busy, pending := none } := by rw [hr]
    rw [hb3]
    have e3 : c3.P = c.P := by rw [← hc3]; rfl
    have e4 : c3.ro = some (w.heap.size + 1) := by rw [← hc3]; rfl
    rw [e3, e4] at hb2; refine wpIn_mono (show body.wpIn ((FW none).inRound (w.heap.size + 1)) 0 c.P _ a₁ _ from hb2) ?_
    have := Zk (c3 := c3) (q := w.heap.size + 1) (r := { r with pending := none }) (R := RR) g1 g2
    rw [e3] at this; exact this
   have turn : ∀ (st : LoopState) (pe : Option Code) (LL : Jy) (w' : World), St c3 LL (W8 (w.heap.size + 1) { r with state := .busy, pending := none }) w' →
     (∀ k ∈ (w.heap.size + 1) :: KL LL, k < (w'.putObj (w.heap.size + 1) (.loop { r with state := st, pending := pe })).heap.size ∧ (k ∈ (w.heap.size + 1) :: KL (LI s) ∨ w3.heap.size ≤ k)) ∧
     Keep ((w.heap.size + 1) :: KL (LI s)) w3 (w'.putObj (w.heap.size + 1) (.loop { r with state := st, pending := pe })) ∧ (∀ p ∈ LL, p.1 ∈ M ∨ w2.heap.size ≤ p.1) ∧ YI LL (w'.putObj (w.heap.size + 1) (.loop { r with state := st, pending := pe })) ∧
     (w'.putObj (w.heap.size + 1) (.loop { r with state := st, pending := pe })).heap[w.heap.size + 1]? = some (.loop { r with state := st, pending := pe }) := by
    intro st pe LL w' hst'
    have hlt : w.heap.size + 1 < w'.heap.size := J6 hst'.recd
    have hk' := hst'.keep
    rw [hc3x, hc3i, hc3w] at hk'
    have hown' : ∀ p ∈ LL, (p.1 ∈ KL (LI s) ∨ w3.heap.size ≤ p.1) ∧ p.1 ≠ w.heap.size + 1 ∧ w'.heap[p.1]? = some p.2 := fun p hp => by
     have := hst'.own p hp
     rw [hc3x, hc3i, hc3w] at this
     simpa using this
    refine ⟨fun k hk => ?_, ?_, fun p hp => ?_, fun p hp => (World.putObj_heap_other (hown' p hp).2.1).trans (hown' p hp).2.2, World.putObj_heap_same hlt⟩
    rcases List.mem_cons.1 hk with rfl | hk
    exact ⟨Nat.lt_of_lt_of_le hlt (Keep.putObj _ _).size, .inl List.mem_cons_self⟩
    obtain ⟨p, hp, rfl⟩ := List.mem_map.1 hk
    obtain ⟨e1, e2, e3⟩ := hown' p hp
    exact ⟨Nat.lt_of_lt_of_le (J6 e3) (Keep.putObj _ _).size, e1.imp (List.mem_cons_of_mem _) id⟩
    refine (hk'.weak fun k hm => ?_).trans ((Keep.putObj _ _).weak fun k hm => by simp at hm; subst hm; exact List.mem_cons_self)
    rcases List.mem_append.1 hm with hm | hm
    exact List.mem_cons_of_mem _ hm
    simp only [List.mem_singleton] at hm; subst hm; exact List.mem_cons_self
    rcases (hown' p hp).1 with g | g
    exact hidS g
    exact .inr (Nat.le_trans hk3.size g)
   refine key _ ?_ ?_
   intro s' w' hI' hst'
   obtain ⟨t1, t2, t3, t4, t5⟩ := turn .ready none (LI s') w' hst'
   refine ⟨true, _, rfl, t1, t2, ?_⟩; rw [if_pos rfl]; exact Vi s' hI' hst'.distinct t3 t4 (by rw [hrr] at t5 ⊢; exact t5)
   ·intro j s' w' hE' hst'
    obtain ⟨t1, t2, t3, t4, t5⟩ := turn .done (some j) (LE s') w' hst'
    refine ⟨false, _, rfl, t1, t2, ?_⟩; rw [if_neg (by simp)]; exact fun w'' hw'' => ⟨j, Vi s' hE' hst'.distinct t3 t4 t5 w'' hw''⟩
  ·-- a call on our blocks
   rintro i g vs hca xs w3 hxs hk3 hfoot
   obtain ⟨⟨s, h1, hpwS, hMS, h2, rfl⟩, h3⟩ := hfoot w3 fun _ _ => rfl
   have hk4 : ∀ p, (p ∈ Lk ∨ p ∈ c.R) → (∀ t ∈ LI s, p.1 ≠ t.1) ∧ w3.heap[p.1]? = some p.2 := fun p hp => by
    rcases hp with hp | hp
    obtain ⟨g1, g2⟩ := hMk p hp
    have hmem := List.mem_cons_of_mem (w.heap.size + 1, Obj.loop r) (List.mem_cons_of_mem (w.heap.size, Obj.deferred (some [])) (hLkm p hp))
    exact ⟨fun t ht e => (apart (hMS t ht)).2.2 p hp e, (hk3.block p.1 (J6 (hs2.own _ hmem).2.2) (by simp only [List.mem_append, List.mem_cons, not_or]; exact ⟨hTk p hp, g2, g1⟩)).trans (hs2.own _ hmem).2.2⟩
    have e3 := hs2.readR hp
    have hlt := J6 (hs2.ext p hp).2.2
    have hsz := hs.keep.size
    have hnq : p.1 ≠ w.heap.size + 1 := fun e => by omega
    exact ⟨fun t ht e => apartR (hMS t ht) p hp e, (hk3.block p.1 (J6 e3) (by simp only [List.mem_append, List.mem_cons, not_or]; exact ⟨hTR p hp, hnq, fun hm => apartR (.inl hm) p hp rfl⟩)).trans e3⟩
   refine ((hread i g vs s hca h1).run w3 h2 (fun p hp => (hk4 p (hRk p hp)).2) hpwS fun p hp t ht => (hk4 p (hRk p hp)).1 t ht).mono fun e w' ⟨y, he, hkk, hL, hpw'⟩ => ?_
   obtain ⟨⟨v, i', s'⟩, hre, hI'⟩ := y
   have hlt3 := J6 h3
   have hsz := hkk.size
   refine ⟨v, i', (w.heap.size + 1) :: KL (LI s'), hre, he, fun k hk => ?_, hkk.weak fun k hk => List.mem_cons_of_mem _ hk, ?_⟩
   rcases List.mem_cons.1 hk with rfl | hk
   exact ⟨by omega, .inl List.mem_cons_self⟩
   obtain ⟨p, hp, rfl⟩ := List.mem_map.1 hk
   exact ⟨J6 (hL p hp).2, (hL p hp).1.imp (List.mem_cons_of_mem _) id⟩
   ·refine Vi s' hI' hpw' (fun p hp => ?_) (fun p hp => (hL p hp).2) ((hkk.block _ hlt3 fun hm => ?_).trans h3)
    rcases (hL p hp).1 with g | g
    obtain ⟨t, ht, e⟩ := List.mem_map.1 g
    exact e ▸ hMS t ht
    exact .inr (Nat.le_trans hk3.size g)
    ·obtain ⟨t, ht, e⟩ := List.mem_map.1 hm
     exact (apart (hMS t ht)).1 e
end
section
variable {c : Cx} {l : KK} {L : Jy} {X : XP} {i : Nat} {t t2 ty : TypeId} {ps : String} {af : Array Edge} {gd : Option (Nat × Bool)} {d : List Deferred}
theorem Jky {x y : Operand} {m n : Nat} {b : Int} (hx : Kz l x = some (.int .i64 (m : Int))) (hy : Kz l y = some (.int .i64 (n : Int))) (hm : m < 9223372036854775808) (hn : n < 9223372036854775808) (hb : ((m ||| n : Nat) : Int) = b) :
  JP c d l L X ⟨some i, .binOp .or t x y t2, ty, ps, af, gd⟩ (.int .i64 b) := fun a' w hfr _ => by
 subst hb
 have e1 : (BitVec.ofInt 64 (m : Int)).toNat = m := by simp [BitVec.toNat_ofInt]; omega
 have e2 : (BitVec.ofInt 64 (n : Int)).toNat = n := by simp [BitVec.toNat_ofInt]; omega
 have hm' : m < 2 ^ 63 := hm
 have hn' : n < 2 ^ 63 := hn
 have h3 := Nat.or_lt_two_pow hm' hn'
 have wr : IntKind.i64.wrap ((m ||| n : Nat) : Int) = ((m ||| n : Nat) : Int) := wrap_i64 (by omega) (by omega)
 simp only [execOp]; rw [hfr.eval hx, hfr.eval hy]
 have e3 : (BitVec.ofInt 64 (m : Int) ||| BitVec.ofInt 64 (n : Int)).toNat = m ||| n := by rw [BitVec.toNat_or, e1, e2]
 show Sem.run c.P (pure (Next.value (Value.int .i64 (IntKind.i64.wrap (((BitVec.ofInt 64 (m : Int) ||| BitVec.ofInt 64 (n : Int)).toNat : Nat) : Int))))) w = _
 rw [e3, wr]; rfl
end
end Go.SL
namespace Go.Proofs.YtckoepmdmhdepaaGreatDoor
open Go.SL Go.RowKit Go.Shelf
open Go.Proofs (Enters enters_of)
def Jn7 (p n : Nat) (l : Bool) : Value := .agg #[.int .i64 (p : Int), .int .i64 (n : Int), .bool l]
theorem Jkz {a b : Nat} (hb : b < 256) : a * 256 ||| b = a * 256 + b := by
 have := Nat.two_pow_add_eq_or_of_lt (i := 8) (b := b) (by omega) a
 rw [show 2 ^ 8 * a = a * 256 from by omega] at this; exact this.symm
theorem Jf4 (s : BS) : W7 s < 256 ^ s.length := by
 induction s with
 | nil => simp [W7]
 | cons b r ih =>
  rw [wS, List.length_cons, Nat.pow_succ]
  have hb := WA b
  have h1 : b.toNat * 256 ^ r.length ≤ 255 * 256 ^ r.length := Nat.mul_le_mul_right _ (by omega)
  omega
theorem Jmi {s : BS} {m : Nat} (hm : m ≤ 3) : W7 (s.take m) < 16777216 := by
 have h1 := Jf4 (s.take m)
 have h2 : 256 ^ (s.take m).length ≤ 256 ^ 3 := Nat.pow_le_pow_right (by decide) (by rw [List.length_take]; omega)
 omega
theorem yu {s : BS} {p i : Nat} (h : p + i < s.length) : W7 ((s.drop p).take (i + 1)) = W7 ((s.drop p).take i) * 256 + (s.getD (p + i) 0).toNat := by
 have e : (s.drop p)[i]? = some (s.getD (p + i) 0) := by rw [List.getElem?_drop, List.getD_eq_getElem?_getD, List.getElem?_eq_getElem h]; rfl
 rw [List.take_add_one, e, Option.toList_some, Je9]
theorem Jf5 {s : BS} {a m : Nat} (hs : s.length ≤ 1000000) (ha : a < s.length) (hm : m ≤ 10) (h1 : 1 ≤ m) : Pure Tryz.prog 238 [Jq s, .int .i64 (a : Int), .int .i64 (m : Int)].toArray (.tuple #[Jn7 (Xj s a m).2.1 (Xj s a m).2.2 false, .int .i64 (Xj s a m).1]) := by
  refine JF Tryz.func238 rfl rfl fun w => ?_; refine sR fun _ hK1 => ?_; refine LN rfl fun r1 => ?_; refine Jb rfl ?_; refine nK hK1 ?_; refine sQ fun _ hK2 => ?_; refine sR fun _ hK3 => ?_; refine Jb rfl (J2 rfl ?_); refine nK hK3 ?_; refine cD (fun g => ?_) fun g => ?_
  refine sR fun _ hK5 => ?_; refine LR rfl (J7 (r := [_, _, _]) rfl rfl) ?_
  refine Jv (k := 0) (n := 3) (cs' := #[_, _, _]) (vs := #[_, _, _]) rfl rfl rfl rfl rfl rfl rfl (by exact Nat.le_of_ble_eq_true rfl) rfl (by first | (simp only [List.set_cons_zero, List.set_cons_succ]; exact rfl) | exact rfl) ?_; refine Jb rfl ?_; refine nK hK5 ?_; refine Jd (Ji ?_); refine Jp rfl rfl (.cons (J0 (vs := [_, _, _]) rfl (kn 0 rfl) rfl rfl) (.cons (Jk rfl) .nil)) (fun w1 hs1 => ?_); refine ⟨?_, hs1.keep⟩
  unfold Xj
  rw [if_pos (by omega)]; rfl
  · refine Jg (hK2 ?_); refine sQ fun _ hK6 => ?_; refine sR fun _ hK7 => ?_; refine Jb rfl (Jb rfl (LR rfl (JI rfl rfl) ?_)); refine Jb rfl ?_
    refine J2 rfl ?_; refine JA (show _ = Value.int .i64 ((s.length - a : Nat) : Int) from by rw [wrap_i64 (by omega) (by omega)]; congr 1 <;> omega) ?_
    refine J2 rfl ?_; refine JA (show _ = Value.int .i64 ((s.length - a - 1 : Nat) : Int) from by rw [wrap_i64 (by omega) (by omega)]; congr 1 <;> omega) ?_; refine J2 rfl ?_; refine nK hK7 ?_; refine cD (fun g => ?_) fun g => ?_
    refine sR fun _ hK9 => ?_; refine LR rfl (J7 (r := [_, _, _]) rfl rfl) ?_
    refine Jv (k := 0) (n := 3) (cs' := #[_, _, _]) (vs := #[_, _, _]) rfl rfl rfl rfl rfl rfl rfl (by exact Nat.le_of_ble_eq_true rfl) rfl (by first | (simp only [List.set_cons_zero, List.set_cons_succ]; exact rfl) | exact rfl) ?_; refine Jb rfl ?_; refine nK hK9 ?_; refine Jd (Ji ?_); refine Jp rfl rfl (.cons (J0 (vs := [_, _, _]) rfl (kn 0 rfl) rfl rfl) (.cons (Jk rfl) .nil)) (fun w1 hs1 => ?_); refine ⟨?_, hs1.keep⟩
    unfold Xj
    rw [if_neg (by omega), if_pos (by omega)]; rfl
    · refine Jg (hK6 ?_); refine sR fun _ hK10 => ?_; refine Jb rfl ?_; refine nK hK10 ?_; refine sQ fun _ hK11 => ?_; refine sR fun _ hK12 => ?_; refine Jb rfl (Jb rfl ?_); refine nK hK12 ?_; refine J3 (JS (σ := Nat) (fun i => i ≤ m) (fun i => [(0, Jq s), (1, .int .i64 (a : Int)), (2, .int .i64 (m : Int)), (6, Kw r1), (8, .int .i64 ((W7 ((s.drop (a + 1)).take i) : Nat) : Int)), (21, .int .i64 (m : Int)), (22, .int .i64 (i : Int))]) (fun i => [(r1, .cells #[.int .i64 0, .int .i64 0, .bool false] 283 (0, 0))]) (fun _ _ _ => True) (fun i => m - i) 0 (Nat.zero_le _) (lK rfl) (List.Sublist.refl _) (fun _ _ h => h) ?_); intro i hi; refine sR fun _ hK13 => ?_; refine J2 rfl ?_; refine nK hK13 ?_; refine sQ fun _ hK14 => ?_; refine cD (fun g => ?_) fun g => ?_
      · refine Jg (hK14 ?_); refine sB fun _ hK16 => ?_; refine sR fun _ hK17 => ?_; refine Jb rfl (Jb rfl ?_); refine nK hK17 ?_; refine Je (Jb rfl ?_); refine LR rfl (xC (n := 8) (b := ((W7 ((s.drop (a + 1)).take i) * 256 : Nat) : Int)) rfl rfl rfl (show 8 ≤ 64 from by decide) (by have := Jmi (s := s.drop (a + 1)) (m := i) (by omega); rw [wrap_i64 (by omega) (by omega)]; omega)) ?_; refine Jb rfl (Jb rfl ?_)
        refine J2 rfl ?_; refine JA (show _ = Value.int .i64 ((a + 1 : Nat) : Int) from by rw [wrap_i64 (by omega) (by omega)]; congr 1 <;> omega) ?_; refine Jb rfl ?_
        refine J2 rfl ?_; refine JA (show _ = Value.int .i64 ((a + 1 + i : Nat) : Int) from by rw [wrap_i64 (by omega) (by omega)]; congr 1 <;> omega) ?_; refine LR rfl (Kp (j := a + 1 + i) rfl rfl rfl rfl (by omega) rfl) ?_; refine J2 rfl ?_; refine JA (show _ = Value.int .i64 ((s.getD (a + 1 + i) 0).toNat : Int) from by rw [wrap_i64 (by have := WA (s.getD (a + 1 + i) 0); omega) (by have := WA (s.getD (a + 1 + i) 0); omega)]) ?_; refine LR rfl (Jky (b := ((W7 ((s.drop (a + 1)).take (i + 1)) : Nat) : Int)) rfl rfl (by have := Jmi (s := s.drop (a + 1)) (m := i) (by omega); omega) (by have := WA (s.getD (a + 1 + i) 0); omega) (by rw [yu (by omega), Jkz (WA _)])) ?_; refine Jb rfl (Jt ?_); refine Jo (hK16 ?_); refine Je ?_
        refine J2 rfl ?_; refine JA (show _ = Value.int .i64 ((i + 1 : Nat) : Int) from by rw [wrap_i64 (by omega) (by omega)]; congr 1 <;> omega) ?_; refine Jb rfl (Jt (JU ?_)); exact JN (i + 1) (by omega) (by omega) (lK rfl) (List.Sublist.refl _) (fun _ _ h => h)
      · refine JL (Jn ?_); refine Jn (J8 (hK11 ?_)); refine sQ fun _ hK18 => ?_; refine sQ fun _ hK19 => ?_
        have him : i = m := by omega
        subst him; refine Je (Jb rfl (Jb rfl ?_))
        refine J2 rfl ?_; refine JA (show _ = Value.int .i64 ((a + 1 : Nat) : Int) from by rw [wrap_i64 (by omega) (by omega)]; congr 1 <;> omega) ?_; refine LR rfl (Kp (j := a + 1) rfl rfl rfl rfl (by omega) rfl) ?_; refine J2 rfl (Jb rfl ?_)
        refine JM 41 rfl (fun gb => ?_) (fun gb => ?_) <;> (try simp only [ZZ] at gb) <;> first | (refine Jb rfl ?_) | (refine LK rfl ?_)
        all_goals first | refine J2 rfl ?_ | refine LK rfl ?_
        all_goals first | refine LR rfl (Jx rfl rfl) ?_ | refine LR rfl (J5 rfl rfl) ?_
        all_goals (
         refine Jt (hK19 ?_); refine Jl rfl (fun g => ?_) (fun g => ?_)
         try simp only [ZZ] at g
         refine sR fun _ hK23 => ?_; refine LR rfl (J7 (r := [_, _, _]) rfl rfl) ?_
         refine Jv (k := 0) (n := 3) (cs' := #[_, _, _]) (vs := #[_, _, _]) rfl rfl rfl rfl rfl rfl rfl (by exact Nat.le_of_ble_eq_true rfl) rfl (by first | (simp only [List.set_cons_zero, List.set_cons_succ]; exact rfl) | exact rfl) ?_; refine Jb rfl ?_; refine nK hK23 ?_; refine Jd (Ji ?_); refine Jp rfl rfl (.cons (J0 (vs := [_, _, _]) rfl (kn 0 rfl) rfl rfl) (.cons (Jk rfl) .nil)) (fun w1 hs1 => ?_); refine ⟨?_, hs1.keep⟩
         unfold Xj
         rw [if_neg (by omega), if_neg (by omega), if_pos (by omega)]; rfl
         · try exact Bool.noConfusion g
           all_goals try simp only [ZZ] at g
           all_goals (
            refine Jg (hK18 ?_); refine sR fun _ hK24 => ?_; refine Jb rfl ?_
            refine J2 rfl ?_; refine JA (show _ = Value.int .i64 ((a + 1 : Nat) : Int) from by rw [wrap_i64 (by omega) (by omega)]; congr 1 <;> omega) ?_; refine Jb rfl ?_
            refine J2 rfl ?_; refine JA (show _ = Value.int .i64 ((a + 1 + i : Nat) : Int) from by rw [wrap_i64 (by omega) (by omega)]; congr 1 <;> omega) ?_; refine Jb rfl (LR rfl (J7 (r := [_, _, _]) rfl rfl) ?_)
            refine Jv (k := 0) (n := 3) (cs' := #[_, _, _]) (vs := #[_, _, _]) rfl rfl rfl rfl rfl rfl rfl (by exact Nat.le_of_ble_eq_true rfl) rfl (by first | (simp only [List.set_cons_zero, List.set_cons_succ]; exact rfl) | exact rfl) ?_; refine Jb rfl ?_; refine nK hK24 ?_; refine Jd ?_; refine Jp rfl rfl (.cons (J0 (vs := [_, _, _]) rfl (kn 0 rfl) rfl rfl) (.cons (Jk rfl) .nil)) (fun w1 hs1 => ?_); refine ⟨?_, hs1.keep⟩
            unfold Xj
            rw [if_neg (by omega), if_neg (by omega), if_neg (by omega)]; rfl
            skip)
         skip)
theorem ZO {s : BS} {a m : Nat} (ha : a < s.length) (h : (Xj s a m).1 = 0) : (Xj s a m).2.1 ≤ s.length ∧ a + 1 ≤ (Xj s a m).2.1 ∧ 56 ≤ (Xj s a m).2.2 ∧ (Xj s a m).2.2 < 16777216 := by
 unfold Xj at h ⊢
 by_cases h1 : m > 3
 ·rw [if_pos h1] at h; cases h
 rw [if_neg h1] at h ⊢
 by_cases h2 : m > s.length - a - 1
 ·rw [if_pos h2] at h; cases h
 rw [if_neg h2] at h ⊢
 by_cases h3 : (s.getD (a + 1) 0).toNat = 0 ∨ W7 ((s.drop (a + 1)).take m) < 56
 ·rw [if_pos h3] at h; cases h
 rw [if_neg h3] at h ⊢
 have := Jmi (s := s.drop (a + 1)) (m := m) (by omega)
 refine ⟨?_, ?_, ?_, ?_⟩ <;> simp only <;> omega
theorem Jf6 {s : BS} {a : Nat} (hs : s.length ≤ 1000000) (ha : a ≤ s.length) : Pure Tryz.prog 201 [Jq s, .int .i64 (a : Int)].toArray (.tuple #[Jn7 (lookE s a).2.1 (lookE s a).2.2.1 (lookE s a).2.2.2, .int .i64 (lookE s a).1]) := by
  refine JF Tryz.func201 rfl rfl fun w => ?_
  have hc := WA (s.getD a 0)
  refine sR fun _ hK1 => ?_; refine LN rfl fun r1 => ?_; refine Jb rfl ?_; refine nK hK1 ?_; refine sB fun _ hK2 => ?_; refine sR fun _ hK3 => ?_; refine Jb rfl (J2 rfl ?_); refine Jb rfl (Jb rfl ?_); refine Jb rfl (LR rfl (JI rfl rfl) ?_); refine J2 rfl (LR rfl (J5 rfl rfl) (Jb rfl ?_)); refine nK hK3 ?_; refine cD (fun g => ?_) fun g => ?_
  refine sR fun _ hK9 => ?_; refine LR rfl (J7 (r := [_, _, _]) rfl rfl) ?_
  refine Jv (k := 0) (n := 3) (cs' := #[_, _, _]) (vs := #[_, _, _]) rfl rfl rfl rfl rfl rfl rfl (by exact Nat.le_of_ble_eq_true rfl) rfl (by first | (simp only [List.set_cons_zero, List.set_cons_succ]; exact rfl) | exact rfl) ?_; refine Jb rfl ?_; refine nK hK9 ?_; refine Jd (Jr (Ji ?_)); refine Jp rfl rfl (.cons (J0 (vs := [_, _, _]) rfl (kn 0 rfl) rfl rfl) (.cons (Jk rfl) .nil)) (fun w1 hs1 => ?_)
  (exfalso; omega)
  · refine sR fun _ hK10 => ?_; refine Jb rfl (Jb rfl (LR rfl (JI rfl rfl) ?_)); refine J2 rfl (Jb rfl ?_); refine nK hK10 ?_; refine cD (fun g => ?_) fun g => ?_
    refine sR fun _ hK12 => ?_; refine LR rfl (J7 (r := [_, _, _]) rfl rfl) ?_
    refine Jv (k := 0) (n := 3) (cs' := #[_, _, _]) (vs := #[_, _, _]) rfl rfl rfl rfl rfl rfl rfl (by exact Nat.le_of_ble_eq_true rfl) rfl (by first | (simp only [List.set_cons_zero, List.set_cons_succ]; exact rfl) | exact rfl) ?_; refine Jb rfl ?_; refine nK hK12 ?_; refine Jd (Jr (Ji ?_)); refine Jp rfl rfl (.cons (J0 (vs := [_, _, _]) rfl (kn 0 rfl) rfl rfl) (.cons (Jk rfl) .nil)) (fun w1 hs1 => ?_); refine ⟨?_, hs1.keep⟩; unfold lookE; rw [if_pos (by omega)]; rfl
    · refine sR fun _ hK13 => ?_; refine Jb rfl (Jb rfl (LR rfl (Kp (j := a) rfl rfl rfl rfl (by omega) rfl) ?_)); refine J2 rfl (Jb rfl ?_); refine nK hK13 ?_; refine cD (fun g => ?_) fun g => ?_
      refine sR fun _ hK15 => ?_; refine Jb rfl (LR rfl (J7 (r := [_, _, _]) rfl rfl) ?_)
      refine Jv (k := 0) (n := 3) (cs' := #[_, _, _]) (vs := #[_, _, _]) rfl rfl rfl rfl rfl rfl rfl (by exact Nat.le_of_ble_eq_true rfl) rfl (by first | (simp only [List.set_cons_zero, List.set_cons_succ]; exact rfl) | exact rfl) ?_; refine Jb rfl ?_; refine nK hK15 ?_; refine Jd (Jr (Ji ?_)); refine Jp rfl rfl (.cons (J0 (vs := [_, _, _]) rfl (kn 0 rfl) rfl rfl) (.cons (Jk rfl) .nil)) (fun w1 hs1 => ?_); refine ⟨?_, hs1.keep⟩; unfold lookE; rw [if_neg (by omega), if_pos (by omega)]; rfl
      · refine Jg (Jo (hK2 ?_)); refine sR fun _ hK16 => ?_; refine Jb rfl (Jb rfl (LR rfl (Kp (j := a) rfl rfl rfl rfl (by omega) rfl) ?_)); refine J2 rfl (JA (show _ = Value.int .i64 (((s.getD a 0).toNat : Nat) : Int) from by rw [wrap_i64 (by omega) (by omega)]) (Jb rfl ?_)); refine nK hK16 ?_; refine sR fun _ hK17 => ?_; refine Jb rfl ?_
        refine J2 rfl ?_; refine JA (show _ = Value.int .i64 (((s.getD a 0).toNat - 128 : Nat) : Int) from by rw [wrap_i64 (by omega) (by omega)]; congr 1 <;> omega) ?_; refine J2 rfl ?_; refine JA (show _ = Value.int .i64 ((((s.getD a 0).toNat - 128) % 64 : Nat) : Int) from by rw [Int.tmod_eq_emod_of_nonneg (by omega)]; congr 1) ?_; refine Jb rfl ?_; refine nK hK17 ?_; refine sR fun _ hK18 => ?_; refine Jb rfl ?_
        refine J2 rfl ?_; refine JA (show _ = Value.int .i64 ((a + 1 : Nat) : Int) from by rw [wrap_i64 (by omega) (by omega)]; congr 1 <;> omega) ?_; refine Jb rfl (LR rfl (J7 (r := [_, _, _]) rfl rfl) (LN rfl fun r2 => ?_))
        refine Jv (k := 0) (n := 3) (cs' := #[_, _, _]) (vs := #[_, _, _]) rfl rfl rfl rfl rfl rfl rfl (by exact Nat.le_of_ble_eq_true rfl) rfl (by first | (simp only [List.set_cons_zero, List.set_cons_succ]; exact rfl) | exact rfl) ?_; refine Jb rfl ?_; refine nK hK18 ?_; refine sQ fun _ hK19 => ?_; refine sR fun _ hK20 => ?_; refine Jb rfl (J2 rfl ?_); refine nK hK20 ?_; refine cD (fun g => ?_) fun g => ?_
        · refine Je (Jb rfl ?_); refine Jb rfl (Jb rfl ?_)
          refine J2 rfl ?_; refine JA (show _ = Value.int .i64 ((((s.getD a 0).toNat - 128) % 64 - 56 : Nat) : Int) from by rw [wrap_i64 (by omega) (by omega)]; congr 1 <;> omega) ?_
          refine J2 rfl ?_; refine JA (show _ = Value.int .i64 ((((s.getD a 0).toNat - 128) % 64 - 55 : Nat) : Int) from by rw [wrap_i64 (by omega) (by omega)]; congr 1 <;> omega) ?_
          have hlk : ZC s a (s.getD a 0).toNat = Xj s a (((s.getD a 0).toNat - 128) % 64 - 55) := by unfold ZC; rw [if_pos (by omega)]
          refine JC rfl rfl rfl (enters_of Tryz.func238 (by kernel_rfl) rfl) (Jf5 hs (by omega) (by omega) (by omega)) ?_; refine Jb rfl (LR rfl (Jf rfl rfl) (LR rfl (Jf rfl rfl) ?_))
          refine Jv (k := 0) (n := 3) (cs' := #[_, _, _]) (vs := #[_, _, _]) rfl rfl rfl rfl rfl rfl rfl (by exact Nat.le_of_ble_eq_true rfl) rfl (by first | (simp only [List.set_cons_zero, List.set_cons_succ]; exact rfl) | exact rfl) ?_; refine Jb rfl ?_; refine nK hK19 ?_; refine sB fun _ hK22 => ?_; refine sR fun _ hK23 => ?_; refine Jb rfl (J2 rfl (Jb rfl ?_)); refine nK hK23 ?_; refine cD (fun g => ?_) fun g => ?_
          refine sR fun _ hK25 => ?_; refine LR rfl (J7 (r := [_, _, _]) rfl rfl) ?_; refine Jb rfl ?_
          refine Jv (k := 1) (n := 3) (cs' := #[_, _, _]) (vs := #[_, _, _]) rfl rfl rfl rfl rfl rfl rfl (by exact Nat.le_of_ble_eq_true rfl) rfl (by first | (simp only [List.set_cons_zero, List.set_cons_succ]; exact rfl) | exact rfl) ?_; refine Jb rfl ?_; refine nK hK25 ?_; refine Jd (Jr (Ji ?_)); refine Jp rfl rfl (.cons (J0 (vs := [_, _, _]) rfl (kn 1 rfl) rfl rfl) (.cons (Jk rfl) .nil)) (fun w1 hs1 => ?_)
          refine ⟨?_, hs1.keep⟩; unfold lookE; rw [if_neg (by omega), if_neg (by omega), hlk, if_pos (by first | omega | (simp only; omega))]; rfl
          · refine sR fun _ hK26 => ?_
            refine LR rfl (Ja rfl rfl (by first | (simp only [Nat.zero_add, Nat.reduceAdd, Nat.reduceMul, Nat.zero_mul, Nat.mul_one, Nat.add_zero]; exact rfl) | exact rfl)) ?_; refine LR rfl (Jc rfl (kn 0 rfl) rfl rfl) ?_; refine Jb rfl (LR rfl (JI rfl rfl) ?_)
            refine LR rfl (Ja rfl rfl (by first | (simp only [Nat.zero_add, Nat.reduceAdd, Nat.reduceMul, Nat.zero_mul, Nat.mul_one, Nat.add_zero]; exact rfl) | exact rfl)) ?_; refine LR rfl (Jc rfl (kn 0 rfl) rfl rfl) ?_
            refine J2 rfl ?_; first | (have hok := ZO (s := s) (a := a) (m := ((s.getD a 0).toNat - 128) % 64 - 55) (by omega) (by omega); refine JA (show _ = Value.int .i64 ((s.length - (Xj s a (((s.getD a 0).toNat - 128) % 64 - 55)).2.1 : Nat) : Int) from by rw [wrap_i64 (by omega) (by omega)]; congr 1 <;> omega) ?_) | (have hlk : ZC s a (s.getD a 0).toNat = (0, a + 1, ((s.getD a 0).toNat - 128) % 64) := (by unfold ZC; rw [if_neg (by omega)]); refine JA (show _ = Value.int .i64 ((s.length - (a + 1) : Nat) : Int) from by rw [wrap_i64 (by omega) (by omega)]; congr 1 <;> omega) ?_)
            refine J2 rfl (Jb rfl ?_); refine nK hK26 ?_; refine cD (fun g => ?_) fun g => ?_
            refine sR fun _ hK28 => ?_; refine LR rfl (J7 (r := [_, _, _]) rfl rfl) ?_
            refine Jv (k := 1) (n := 3) (cs' := #[_, _, _]) (vs := #[_, _, _]) rfl rfl rfl rfl rfl rfl rfl (by exact Nat.le_of_ble_eq_true rfl) rfl (by first | (simp only [List.set_cons_zero, List.set_cons_succ]; exact rfl) | exact rfl) ?_; refine Jb rfl ?_; refine nK hK28 ?_; refine Jd (Jr (Ji ?_)); refine Jp rfl rfl (.cons (J0 (vs := [_, _, _]) rfl (kn 1 rfl) rfl rfl) (.cons (Jk rfl) .nil)) (fun w1 hs1 => ?_)
            refine ⟨?_, hs1.keep⟩; unfold lookE; rw [if_neg (by omega), if_neg (by omega), hlk, if_neg (by first | omega | (simp only; omega)), if_pos (by first | omega | (simp only; omega))]; rfl
            · refine sR fun _ hK29 => ?_; refine Jb rfl (J2 rfl (Jb rfl ?_))
              refine JM 73 rfl (fun gb => ?_) (fun gb => ?_) <;> (try simp only [ZZ] at gb) <;> first | (refine Jb rfl ?_) | (refine LK rfl ?_)
              all_goals first | refine Jb rfl ?_ | refine LK rfl ?_
              all_goals first | (refine J2 rfl ?_; refine JA (show _ = Value.int .i64 ((a + 1 : Nat) : Int) from by rw [wrap_i64 (by omega) (by omega)]; congr 1 <;> omega) ?_) | refine LK rfl ?_
              all_goals first | (refine LR rfl (Kp (j := a + 1) rfl rfl rfl rfl (by omega) rfl) ?_) | refine LK rfl ?_
              all_goals first | refine J2 rfl ?_ | refine LK rfl ?_
              all_goals first | refine LR rfl (Jx rfl rfl) ?_ | refine LR rfl (J5 rfl rfl) ?_
              all_goals (
               refine Jb rfl (Jt (hK29 ?_)); refine Jl rfl (fun g => ?_) (fun g => ?_)
               · try exact Bool.noConfusion g
                 all_goals try simp only [ZZ] at g
                 all_goals (
                  refine sR fun _ hK36 => ?_; refine LR rfl (J7 (r := [_, _, _]) rfl rfl) ?_
                  refine Jv (k := 1) (n := 3) (cs' := #[_, _, _]) (vs := #[_, _, _]) rfl rfl rfl rfl rfl rfl rfl (by exact Nat.le_of_ble_eq_true rfl) rfl (by first | (simp only [List.set_cons_zero, List.set_cons_succ]; exact rfl) | exact rfl) ?_; refine Jb rfl ?_; refine nK hK36 ?_; refine Jd (Jr (Ji ?_)); refine Jp rfl rfl (.cons (J0 (vs := [_, _, _]) rfl (kn 1 rfl) rfl rfl) (.cons (Jk rfl) .nil)) (fun w1 hs1 => ?_)
                  (exfalso; omega)
                  skip)
               try simp only [ZZ] at g
               refine Jg (Jo (hK22 ?_)); refine sR fun _ hK37 => ?_; refine Jb rfl (J2 rfl ?_)
               refine LR rfl (Ja rfl rfl (by first | (simp only [Nat.zero_add, Nat.reduceAdd, Nat.reduceMul, Nat.zero_mul, Nat.mul_one, Nat.add_zero]; exact rfl) | exact rfl)) ?_
               refine Ju (k := 0) rfl rfl rfl rfl rfl rfl rfl rfl (by first | (simp only [List.setIfInBounds_toArray, List.set_cons_zero, List.set_cons_succ]; exact rfl) | exact rfl) (by first | (simp only [List.set_cons_zero, List.set_cons_succ]; exact rfl) | exact rfl) ?_; refine nK hK37 ?_; refine sR fun _ hK38 => ?_; refine LR rfl (JT (vs := [_, _, _]) rfl (kn 0 rfl) rfl rfl rfl rfl) ?_
               refine Jv (k := 1) (n := 3) (cs' := #[_, _, _]) (vs := #[_, _, _]) rfl rfl rfl rfl rfl rfl rfl (by exact Nat.le_of_ble_eq_true rfl) rfl (by first | (simp only [List.set_cons_zero, List.set_cons_succ]; exact rfl) | exact rfl) ?_; refine Jb rfl ?_; refine nK hK38 ?_; refine Jd ?_; refine Jp rfl rfl (.cons (J0 (vs := [_, _, _]) rfl (kn 1 rfl) rfl rfl) (.cons (Jk rfl) .nil)) (fun w1 hs1 => ?_)
               first | ((exfalso; omega)) | (refine ⟨?_, hs1.keep⟩; unfold lookE; rw [if_neg (by omega), if_neg (by omega), hlk, if_neg (by first | omega | (simp only; omega)), if_neg (by first | omega | (simp only; omega)), if_neg (by omega)]; have hdec : decide (((s.getD a 0).toNat : Int) ≥ 192) = decide (192 ≤ (s.getD a 0).toNat) := decide_eq_decide.2 (by omega); rw [hdec]; rfl)
               skip)
        · refine Jg (hK19 ?_); refine sB fun _ hK39 => ?_; refine sR fun _ hK40 => ?_; refine Jb rfl (J2 rfl (Jb rfl ?_)); refine nK hK40 ?_; refine Jl rfl (fun g => ?_) (fun g => ?_)
          try exact Bool.noConfusion g
          · try simp only [ZZ] at g
            refine sR fun _ hK43 => ?_
            refine LR rfl (Ja rfl rfl (by first | (simp only [Nat.zero_add, Nat.reduceAdd, Nat.reduceMul, Nat.zero_mul, Nat.mul_one, Nat.add_zero]; exact rfl) | exact rfl)) ?_; refine LR rfl (Jc rfl (kn 0 rfl) rfl rfl) ?_; refine Jb rfl (LR rfl (JI rfl rfl) ?_)
            refine LR rfl (Ja rfl rfl (by first | (simp only [Nat.zero_add, Nat.reduceAdd, Nat.reduceMul, Nat.zero_mul, Nat.mul_one, Nat.add_zero]; exact rfl) | exact rfl)) ?_; refine LR rfl (Jc rfl (kn 0 rfl) rfl rfl) ?_
            refine J2 rfl ?_; first | (have hok := ZO (s := s) (a := a) (m := ((s.getD a 0).toNat - 128) % 64 - 55) (by omega) (by omega); refine JA (show _ = Value.int .i64 ((s.length - (Xj s a (((s.getD a 0).toNat - 128) % 64 - 55)).2.1 : Nat) : Int) from by rw [wrap_i64 (by omega) (by omega)]; congr 1 <;> omega) ?_) | (have hlk : ZC s a (s.getD a 0).toNat = (0, a + 1, ((s.getD a 0).toNat - 128) % 64) := (by unfold ZC; rw [if_neg (by omega)]); refine JA (show _ = Value.int .i64 ((s.length - (a + 1) : Nat) : Int) from by rw [wrap_i64 (by omega) (by omega)]; congr 1 <;> omega) ?_)
            refine J2 rfl (Jb rfl ?_); refine nK hK43 ?_; refine cD (fun g => ?_) fun g => ?_
            refine sR fun _ hK45 => ?_; refine LR rfl (J7 (r := [_, _, _]) rfl rfl) ?_
            refine Jv (k := 1) (n := 3) (cs' := #[_, _, _]) (vs := #[_, _, _]) rfl rfl rfl rfl rfl rfl rfl (by exact Nat.le_of_ble_eq_true rfl) rfl (by first | (simp only [List.set_cons_zero, List.set_cons_succ]; exact rfl) | exact rfl) ?_; refine Jb rfl ?_; refine nK hK45 ?_; refine Jd (Jr (Ji ?_)); refine Jp rfl rfl (.cons (J0 (vs := [_, _, _]) rfl (kn 1 rfl) rfl rfl) (.cons (Jk rfl) .nil)) (fun w1 hs1 => ?_)
            refine ⟨?_, hs1.keep⟩; unfold lookE; rw [if_neg (by omega), if_neg (by omega), hlk, if_neg (by first | omega | (simp only; omega)), if_pos (by first | omega | (simp only; omega))]; rfl
            · refine sR fun _ hK46 => ?_; refine Jb rfl (J2 rfl (Jb rfl ?_))
              refine JM 73 rfl (fun gb => ?_) (fun gb => ?_) <;> (try simp only [ZZ] at gb) <;> first | (refine Jb rfl ?_) | (refine LK rfl ?_)
              all_goals first | refine Jb rfl ?_ | refine LK rfl ?_
              all_goals first | (refine J2 rfl ?_; refine JA (show _ = Value.int .i64 ((a + 1 : Nat) : Int) from by rw [wrap_i64 (by omega) (by omega)]; congr 1 <;> omega) ?_) | refine LK rfl ?_
              all_goals first | (refine LR rfl (Kp (j := a + 1) rfl rfl rfl rfl (by omega) rfl) ?_) | refine LK rfl ?_
              all_goals first | refine J2 rfl ?_ | refine LK rfl ?_
              all_goals first | refine LR rfl (Jx rfl rfl) ?_ | refine LR rfl (J5 rfl rfl) ?_
              all_goals (
               refine Jb rfl (Jt (hK46 ?_)); refine Jl rfl (fun g => ?_) (fun g => ?_)
               · try exact Bool.noConfusion g
                 all_goals try simp only [ZZ] at g
                 all_goals (
                  refine sR fun _ hK53 => ?_; refine LR rfl (J7 (r := [_, _, _]) rfl rfl) ?_
                  refine Jv (k := 1) (n := 3) (cs' := #[_, _, _]) (vs := #[_, _, _]) rfl rfl rfl rfl rfl rfl rfl (by exact Nat.le_of_ble_eq_true rfl) rfl (by first | (simp only [List.set_cons_zero, List.set_cons_succ]; exact rfl) | exact rfl) ?_; refine Jb rfl ?_; refine nK hK53 ?_; refine Jd (Jr (Ji ?_)); refine Jp rfl rfl (.cons (J0 (vs := [_, _, _]) rfl (kn 1 rfl) rfl rfl) (.cons (Jk rfl) .nil)) (fun w1 hs1 => ?_)
                  refine ⟨?_, hs1.keep⟩; unfold lookE; rw [if_neg (by omega), if_neg (by omega), hlk, if_neg (by first | omega | (simp only; omega)), if_neg (by first | omega | (simp only; omega)), if_pos (by first | omega | (simp only; omega))]; rfl
                  skip)
               try simp only [ZZ] at g
               refine Jg (Jo (hK39 ?_)); refine sR fun _ hK54 => ?_; refine Jb rfl (J2 rfl ?_)
               refine LR rfl (Ja rfl rfl (by first | (simp only [Nat.zero_add, Nat.reduceAdd, Nat.reduceMul, Nat.zero_mul, Nat.mul_one, Nat.add_zero]; exact rfl) | exact rfl)) ?_
               refine Ju (k := 0) rfl rfl rfl rfl rfl rfl rfl rfl (by first | (simp only [List.setIfInBounds_toArray, List.set_cons_zero, List.set_cons_succ]; exact rfl) | exact rfl) (by first | (simp only [List.set_cons_zero, List.set_cons_succ]; exact rfl) | exact rfl) ?_; refine nK hK54 ?_; refine sR fun _ hK55 => ?_; refine LR rfl (JT (vs := [_, _, _]) rfl (kn 0 rfl) rfl rfl rfl rfl) ?_
               refine Jv (k := 1) (n := 3) (cs' := #[_, _, _]) (vs := #[_, _, _]) rfl rfl rfl rfl rfl rfl rfl (by exact Nat.le_of_ble_eq_true rfl) rfl (by first | (simp only [List.set_cons_zero, List.set_cons_succ]; exact rfl) | exact rfl) ?_; refine Jb rfl ?_; refine nK hK55 ?_; refine Jd ?_; refine Jp rfl rfl (.cons (J0 (vs := [_, _, _]) rfl (kn 1 rfl) rfl rfl) (.cons (Jk rfl) .nil)) (fun w1 hs1 => ?_)
               refine ⟨?_, hs1.keep⟩; unfold lookE; rw [if_neg (by omega), if_neg (by omega), hlk, if_neg (by first | omega | (simp only; omega)), if_neg (by first | omega | (simp only; omega)), if_neg (by omega)]; have hdec : decide (((s.getD a 0).toNat : Int) ≥ 192) = decide (192 ≤ (s.getD a 0).toNat) := decide_eq_decide.2 (by omega); rw [hdec]; rfl
               skip)
set_option linter.all false
def Xh (r : Nat) (a : Nat) : Nat × Obj := (r, .cells #[.int .i64 (a : Int)] 3 (0, 0))
def Jaw (r : Nat) (g : FuncId) (caps : List Value) : Nat × Obj := (r, .cells #[.func (.func g) #[] caps.toArray] 330 (0, 0))
def nxP (n : Nat) : Bool × Nat × Nat → List Value → Bool × Nat × Nat → Prop := fun z v z' => z.1 = false ∧ z.2.2 < n ∧ v = [.int .i64 (z.2.1 : Int), .int .i64 (z.2.2 : Int)] ∧ z' = (true, z.2.1, z.2.2)
def caP (g : FuncId) (caps : List Value) : Bool × Nat × Nat → FuncId → List Value → Prop := fun z g' vs => z.1 = true ∧ g' = g ∧ vs = .int .i64 (z.2.2 : Int) :: caps
def reP : Bool × Nat × Nat → Value → Bool × Nat × Nat → Prop := fun z v z' => ∃ p : Nat, p ≤ 1000000 ∧ v = .int .i64 (p : Int) ∧ z' = (false, z.2.1 + 1, p)
def Jk0 : Bool × Nat × Nat → Prop := fun z => z.1 = true ∧ 512 ≤ z.2.1
def Jn8 (n : Nat) : Bool × Nat × Nat → Prop := fun z => z.1 = false ∧ n ≤ z.2.2
def Jax (rf re rr : Nat) : List Value := [Kw rf, Kw re, Kw rr]
theorem Jf7 {a n : Nat} {g : FuncId} {caps : List Value} : PureT (α := Nat × Nat × Nat) Tryz.prog 241 [.int .i64 (a : Int), .int .i64 (n : Int), .func (.func g) #[] caps.toArray].toArray (fun y => .func (.func 271) #[] (Jax y.1 y.2.1 y.2.2).toArray) [] (fun y => [Xh y.1 a, Xh y.2.1 n, Jaw y.2.2 g caps]) [] := by
 refine J1 Tryz.func241 rfl rfl fun w => ?_; refine sR fun _ hK1 => ?_; refine LN rfl fun r1 => ?_; refine LN rfl fun r2 => ?_; refine LN rfl fun r3 => ?_; refine Jb rfl ?_; refine nK hK1 ?_; refine sR fun _ hK2 => ?_; refine LR rfl (JQ rfl rfl) ?_; refine Jb rfl ?_; refine nK hK2 ?_; refine Jd ?_; refine pT rfl rfl rfl fun w1 hs1 => ?_; exact ⟨(_, _, _), rfl, hs1.perm (List.reverse_perm [_, _, _])⟩
theorem Jf8 {a n : Nat} {g : FuncId} {caps : List Value} (eg : Enters Tryz.prog g) (ha : a ≤ 1000000) (rf re rr : Nat) : Jav Tryz.prog 271 (Jax rf re rr) [Xh rf a] [Xh re n, Jaw rr g caps] (false, 0, a) (nxP n) (caP g caps) reP Jk0 (Jn8 n) := by
  refine Zv Tryz.func271 rfl rfl fun q xids w2 XI XF hdd hY hC => ?_; refine sR fun _ hK1 => ?_; refine Jb rfl ?_; refine nK hK1 ?_; refine J3 (JS (σ := Nat × Nat) (fun z => z.1 ≤ 512 ∧ z.2 ≤ 1000000) (fun z => [(0, .func (.yield q) #[] #[]), (1, Kw rf), (2, Kw re), (3, Kw rr), (5, .int .i64 (z.1 : Int))]) (fun z => [Xh rf z.2]) (fun z => XI (false, z.1, z.2)) (fun z => 513 - z.1) (0, a) ⟨Nat.zero_le _, ha⟩ (lK rfl) (List.Sublist.refl _) (fun _ _ h => h) ?_); rintro ⟨i, p⟩ ⟨hi, hp⟩; simp only at hi hp; refine sQ fun _ hK2 => ?_; refine sR fun _ hK3 => ?_; refine LR rfl (Jc rfl (kn 0 rfl) rfl rfl) ?_; refine LR rfl (Jc rfl (Kg (k := 0) rfl) rfl rfl) ?_; refine J2 rfl ?_; refine nK hK3 ?_; refine cD (fun h4 => ?_) fun h4 => ?_
  · refine Jg (hK2 ?_); refine sB fun _ hK5 => ?_; refine sQ fun _ hK6 => ?_; refine sR fun _ hK7 => ?_; refine Jb rfl (Jb rfl (LR rfl (Jc rfl (kn 0 rfl) rfl rfl) ?_)); refine VV (XT := XI (true, i, p)) (XF := XF) rfl rfl rfl rfl (hY (false, i, p) [.int .i64 (i : Int), .int .i64 (p : Int)] (true, i, p) ⟨rfl, by simp only; omega, rfl, rfl⟩) ?_ ?_
    all_goals first | (rcases Nat.lt_or_ge i 512 with hi5 | hi5; rotate_left; exact Ji3 hdd ⟨rfl, hi5⟩) | skip
    all_goals (
     refine J2 rfl (Jt (hK7 ?_)); refine Jl rfl (fun h8 => ?_) (fun h8 => ?_)
     · try exact Bool.noConfusion h8
       all_goals try simp only [ZZ] at h8
       all_goals (
        refine Jd (Ji ?_); refine Jr (Ji ?_); refine Ji (Jr ?_); refine Jp rfl rfl .nil (fun w1 hs1 => ?_)
        obtain ⟨xs1, hx1⟩ := hs1.now
        exact ⟨⟨_, rfl⟩, hs1.keep, .inr ⟨_, hx1⟩⟩
        skip)
     · try exact Bool.noConfusion h8
       all_goals try simp only [ZZ] at h8
       all_goals (
        refine Jg (hK6 ?_); refine Je (LR rfl (Jc rfl (Kg (k := 1) rfl) rfl rfl) (LR rfl (Jc rfl (kn 0 rfl) rfl rfl) ?_)); refine Ji2 (re := reP (true, i, p)) (XI := XI) rfl rfl rfl eg (hC (true, i, p) g (.int .i64 (p : Int) :: caps) ⟨rfl, rfl, rfl⟩) fun v z hz => ?_
        obtain ⟨p2, hp2, rfl, rfl⟩ := hz
        refine Ju (k := 0) rfl rfl rfl rfl rfl rfl rfl rfl (by first | (simp only [List.setIfInBounds_toArray, List.set_cons_zero, List.set_cons_succ]; exact rfl) | exact rfl) (by first | (simp only [List.set_cons_zero, List.set_cons_succ]; exact rfl) | exact rfl) ?_; refine Jt ?_; refine Jo (hK5 ?_); refine Je (Jb rfl ?_)
        refine J2 rfl ?_; refine JA (show _ = Value.int .i64 ((i + 1 : Nat) : Int) from by rw [wrap_i64 (by omega) (by omega)]; congr 1 <;> omega) ?_; refine Jb rfl (Jt (JU ?_)); exact JN (i + 1, p2) ⟨by simp only; omega, hp2⟩ (by simp only; omega) (lK rfl) (List.Sublist.refl _) (fun _ _ h => h)
        skip)
     skip)
  · refine JL (Jn ?_); refine Jn (J8 ?_); refine Qf rfl rfl .nil (fun w1 hs1 => ?_)
    obtain ⟨xs1, hx1⟩ := hs1.now
    exact ⟨⟨_, rfl⟩, hs1.keep, .inl ⟨(false, i, p), _, ⟨rfl, (by simp only; omega)⟩, hx1⟩⟩
end Go.Proofs.YtckoepmdmhdepaaGreatDoor
namespace Go.SL
set_option linter.all false
open Go Go.RowKit Go.Shelf
open Go.Proofs (Enters enters_of)
section
variable {c : Cx} {l : KK} {L : Jy} {X : XP} {Q : Exit → Act → World → Prop} {d : List Deferred}
variable {ops : Array Oper} {rest : List Oper} {i : Nat} {v : Value} {t : TypeId} {ps : String} {af : Array Edge} {gd : Option (Nat × Bool)} {ty : TypeId}
def Ze (l : KK) (f : Operand) (args : Array Operand) : Option (FuncId × List Value) :=
 match Kz l f with
 | some (.func (.func g) first caps) => match evs l args.toList with
  | some vs => some (g, first.toList ++ (vs ++ caps.toList))
  | none => none
 | _ => none
theorem jT {n : Nat} {a : Act} {f : Operand} {args : Array Operand} {at_ : Array TypeId} {g : FuncId} {vs : List Value} (hf : Fr n d l a) (h : Ze l f args = some (g, vs))
  (P : Program) (w : World) (o : Oper) (ho : o.op = .call ⟨.value f, args, at_⟩) (eg : Enters P g) : (execOp a.eval o).run P w = .ok (.enter g vs.toArray) w := by
 unfold Ze at h
 split at h
 ·rename_i g' first caps hfv
  split at h
  ·rename_i us hargs
   simp only [Option.some.injEq, Prod.mk.injEq] at h
   obtain ⟨rfl, rfl⟩ := h
   have h2 := hf.evals hargs
   have h3 : args.map a.eval = us.toArray := by
    apply Array.toList_inj.1; rw [Array.toList_map]; simpa using h2
   have h4 : a.eval f = .func (.func g') first caps := hf.eval hfv
   simp only [execOp, ho, Sem.run_bind]
   have h5 : first ++ us.toArray ++ caps = (first.toList ++ (us ++ caps.toList)).toArray := by apply Array.toList_inj.1; simp
   have h6 := eg (first ++ us.toArray ++ caps) w
   rw [← h5]
   simpa [resolve, h3, h4, Deferred.ofValue, Result.andThen, invoke] using h6
  ·cases h
 ·cases h
theorem qG {α : Type} {T L0 Rl : Jy} {f : Operand} {args : Array Operand} {at_ : Array TypeId} {g : FuncId} {vs : List Value} {V : α → Value} {LL : α → Jy}
  (hp : L.Perm (T ++ L0)) (hg : Kx l ops ⟨some i, .call ⟨.value f, args, at_⟩, ty, ps, af, gd⟩ = some true) (hi : Nat.ble (i + 1) c.n = true) (hca : Ze l f args = some (g, vs)) (eg : Enters c.P g)
  (hpt : PureT c.P g vs.toArray V T LL Rl) (hR : ∀ p ∈ Rl, known c L0 p.1 p.2) (h : ∀ x, HL c d ((i, V x) :: l) (LL x ++ L0) X ops rest Q) : HL c d l L X ops (⟨some i, .call ⟨.value f, args, at_⟩, ty, ps, af, gd⟩ :: rest) Q := fun a w hf hs => by
 have hr : ∀ w, St c L X w → Calls c.P g vs.toArray w fun e w' => ∃ x, e = .returned (V x) ∧ St c (LL x ++ L0) X w' := fun w hs => by
  have hs := hs.perm hp
  obtain ⟨hd1, _, hd3⟩ := List.pairwise_append.1 hs.distinct
  refine (hpt.run w (fun p hp => (hs.own p (List.mem_append_left _ hp)).2.2) (fun p hp => ?_) hd1 (fun p hp q hq => ?_)).mono fun _ _ ⟨x, he, hk, h1, h2⟩ => ⟨x, he, hs.turnT hk h1 h2⟩
  ·exact (hR p hp).elim (fun h => (hs.own _ (List.mem_append_right _ h)).2.2) hs.readR
  ·rcases hR p hp with h | h
   ·exact fun e => hd3 q hq _ h e.symm
   ·rintro e
    obtain ⟨h1, _, h3⟩ := hs.ext _ h
    have h3 := J6 h3
    rcases (hs.own q (List.mem_append_left _ hq)).1 with h4 | h4
    ·exact h1 (e ▸ h4)
    ·simp only at h3 e; omega
 refine Q0 (JW hf hg) rfl ?_; rw [jT hf hca c.P w _ rfl eg, Oper.uponIn_enter]; refine ⟨fun hdep => (by cases hdep), ?_⟩
 have hc := callsIn_wide (n := 0) |>.2 (hr w hs)
 refine CallsIn.mono (R := fun e w' => ∃ x, e = .returned (V x) ∧ St c (LL x ++ L0) X w') (show CallsIn (FW c.ro) 0 c.P g vs.toArray w _ from hc) ?_; rintro e w' ⟨x, rfl, hs'⟩; exact h x _ w' (hf.put (Nat.le_of_ble_eq_true hi)) hs'
end
end Go.SL
namespace Go.Proofs.YtckoepmdmhdepaaGreatDoor
open Go.SL Go.RowKit Go.Shelf
open Go.Proofs (Enters enters_of)
def vH (q de : Nat) (e : Int) : Nat × Obj := (q, .cells #[.int .i64 (de : Int), .int .i64 e] 202 (0, 0))
structure ItD (z : Int × It × Nat) where
  x : ItL
  L : Jy
  dest : Nat
  e : Int
  inn : x.In L
  he : e = z.1
  ok : e = 0 → x.er = z.2.1 ∧ dest = z.2.2
  le : dest ≤ 1000000
def qH (f : Nat) : Prop := ∀ (de : Nat) (s : BS) (a q : Nat), de + f = 12 → s.length ≤ 65536 → a ≤ s.length →
 PureT (α := ItD (KH f s a)) Tryz.prog 112 [Kw q, Jq s, .int .i64 (a : Int)].toArray (fun y => .tuple #[y.x.val, .int .i64 (y.dest : Int)]) [vH q de 0] (fun y => vH q de y.e :: y.L) []
def fnB (r q : Nat) : Nat × Obj := (r, .cells #[.func (.func 112) #[Kw q] #[]] 204 (0, 0))
def stB (r : Nat) (s : BS) : Nat × Obj := (r, .cells #[Jq s] 9 (0, 0))
def itC (n : Nat) (row : QH) : Array Value := #[.bool true, Jq [], JO n row]
def itB (r n : Nat) (row : QH) : Nat × Obj := (r, .cells (itC n row) 91 (0, 0))
structure ReD (z : Int × It × Nat) (its : List ItL) where
  x : ItL
  row : QH
  F : Jy
  dest : Nat
  e : Int
  inn : ∀ y ∈ its ++ [x], y.In F
  he : e = z.1
  ok : e = 0 → x.er = z.2.1 ∧ dest = z.2.2
  le : dest ≤ 1000000
  ro : rowOk 3 (its.length + 1) (JK (its ++ [x])) row
theorem Ji4 {α : Type} [DecidableEq α] (ra a b c d : α) (Z : List α) : (ra :: a :: b :: c :: d :: Z).Perm (c :: d :: ra :: (Z ++ [a, b])) := by
 rw [List.perm_iff_count]; intro x; simp only [List.count_append, List.count_cons, List.count_nil]; omega
theorem Ji5 {α : Type} [DecidableEq α] (a d : α) (Y P F : List α) : (a :: (Y ++ (d :: (P ++ F)))).Perm (a :: d :: (P ++ (Y ++ F))) := by
 rw [List.perm_iff_count]; intro x; simp only [List.count_append, List.count_cons]; omega
open Classical in
theorem Jmj {f de p n q r8 r4 r7 : Nat} {s : BS} {row : QH} {its : List ItL} {F : Jy} (hT : qH f) (hd : de + f = 12) (hsl : s.length ≤ 65536) (hp : p ≤ s.length) (hn : its.length = n) (hn5 : n ≤ 512) (hrow : rowOk 3 n (JK its) row) (hF : ∀ x ∈ its, x.In F) :
  PureT (α := ReD (KH f s p) its) Tryz.prog 240 [.int .i64 (p : Int), Kw r8, Kw r4, Kw r7].toArray (fun y => .int .i64 (y.dest : Int)) (vH q de 0 :: itB r7 n row :: (Kk 91 (JK its) row ++ F)) (fun y => vH q de y.e :: itB r7 (n + 1) y.row :: (Kk 91 (JK (its ++ [y.x])) y.row ++ y.F)) [fnB r8 q, stB r4 s] := by
 refine J1 Tryz.func240 rfl rfl fun w => ?_; refine sR fun _ hK1 => ?_; refine Jb rfl ?_; refine nK hK1 ?_; refine sR fun _ hK2 => ?_; refine LR rfl (Jc rfl (Kg (k := 0) rfl) rfl rfl) ?_; refine LR rfl (Jc rfl (Kg (k := 1) rfl) rfl rfl) ?_; refine Jb rfl (qG (T := [vH q de 0]) (L0 := itB r7 n row :: (Kk 91 (JK its) row ++ F)) (Rl := []) (List.Perm.refl _) rfl rfl rfl (enters_of Tryz.func112 (by kernel_rfl) rfl) (hT de s p q hd hsl hp) oN fun y => ?_)
 obtain ⟨x, yL, dest, ye, yin, yhe, yok, yle⟩ := y
 refine Kv (Ji5 _ _ _ _ _) ?_; change HL _ _ _ ((q, .cells #[.int .i64 (de : Int), .int .i64 ye] 202 (0, 0)) :: (r7, .cells #[.bool true, Jq [], JO n row] 91 (0, 0)) :: (Kk 91 (JK its) row ++ (yL ++ F))) _ _ _ _; refine Jb rfl (LR rfl (Jf rfl rfl) (LR rfl (Jf rfl rfl) ?_)); refine LN rfl fun rx => ?_; refine Js (k := 0) (n := 3) (ys := x.cells) rfl rfl rfl rfl rfl (ItL.len _) rfl (ItL.one _) rfl ?_; refine Jb rfl ?_; refine nK hK2 ?_; refine sQ fun _ hK3 => ?_
 refine wJ [] [(0, .pure), (3, .pure), (4, .grow (QK (ZI 1) (.cells #[.bool false, .string ⟨#[]⟩, .slice none 0 0] 91 (0, 0))))] 5 [0, 1, 2, 3, 4] (by kernel_rfl) (by kernel_rfl) (by first | exact (fun _ h => absurd h List.not_mem_nil) | simp [SubS] | (intro p hp; simp [hp])) ?_
 refine JH (k := 0) rfl rfl rfl rfl rfl (fun _ hS => (Ja rfl rfl (by first | (simp only [Nat.zero_add, Nat.reduceAdd, Nat.reduceMul, Nat.zero_mul, Nat.mul_one, Nat.add_zero]; exact rfl) | exact rfl))) ?_; refine Q5 (k := 1) rfl rfl rfl rfl rfl (Jc rfl (kn 2 rfl) rfl rfl) ?_; refine Q5 (k := 2) rfl rfl rfl rfl rfl (Jm (xs := x.cells) (n := 3) rfl (kn 0 rfl) rfl rfl (ItL.len _)) ?_; refine JH (k := 3) rfl rfl rfl rfl rfl (fun _ _ => VY rfl hrow.zero rfl) ?_; refine Wy (k := 4) (n := 1) (sz := 3) (vs := [_]) (zs := [_, _, _]) (r := [_, _, _]) rfl rfl rfl rfl rfl rfl rfl rfl rfl rfl rfl (by rw [Qo]; exact rfl) rfl fun rz => ?_; refine Jaa ?_; refine KE (g := 4) (is := [5]) (by kernel_rfl) rfl (.cons ?n2_5 .nil)
 case' n2_5 =>
  refine Qa rfl rfl ?_; refine Kh (L0 := (rz, _) :: (rx, _) :: (q, _) :: (r7, _) :: (yL ++ F)) (xs := JK its) (row := row) (n := n) (sz := 3) (b := 48) (news := [.bool false, .string ⟨#[]⟩, .slice none 0 0]) (List.perm_append_comm_assoc [_, _, _, _] _ _) rfl rfl rfl rfl (kn 0 rfl) rfl rfl rfl rfl rfl (by decide) rfl rfl rfl (by decide) hrow (by omega) (by omega) fun ra cap sp hra => ?_; refine QF ?_; refine KE (g := 3) (is := [6, 8]) (by kernel_rfl) rfl (.cons ?n2_5_6 (.cons ?n2_5_8 .nil))
  case' n2_5_6 =>
   refine Qa rfl rfl ?_; refine LR rfl (QE (m := 3) (j := n) (off' := n * 3) rfl rfl rfl rfl rfl (by omega) (by omega)) ?_; refine QF ?_; refine KE (g := 2) (is := [7, 8]) (by kernel_rfl) rfl (.cons ?n2_5_6_7 (.cons ?n2_5_6_8 .nil))
   case' n2_5_6_7 =>
    refine Qa rfl rfl ?_; refine Jv (k := 0) (n := 3) (vs := x.cells.toArray) (cs' := (JK its ++ x.cells ++ sp).toArray) rfl rfl rfl rfl rfl (ItL.len _) (ItL.one _) (by show n * 3 + 3 ≤ (JK its ++ [Value.bool false, .string ⟨#[]⟩, .slice none 0 0] ++ sp).length; rw [List.length_append, List.length_append, hrow.len]; simp) (congrArg List.toArray (Vg hrow.len rfl)) rfl ?_; refine QF ?_; refine KE (g := 1) (is := [8]) (by kernel_rfl) rfl (.cons ?n2_5_6_7_8 .nil)
    case' n2_5_6_7_8 =>
     refine Qa rfl rfl ?_
     refine LR rfl (Ja rfl rfl (by first | (simp only [Nat.zero_add, Nat.reduceAdd, Nat.reduceMul, Nat.zero_mul, Nat.mul_one, Nat.add_zero]; exact rfl) | exact rfl)) ?_; refine QF ?_; refine KE (g := 0) (is := [9]) (by kernel_rfl) rfl (.cons ?n2_5_6_7_8_9 .nil)
     case' n2_5_6_7_8_9 =>
      refine Qa rfl rfl ?_; refine Ju (k := 4) (cs' := #[.bool true, Jq [], JO (n + 1) (some (ra, cap, sp))]) rfl rfl rfl rfl rfl rfl rfl rfl rfl rfl ?_; refine QF ?_
   case' n2_5_6_8 =>
    refine Qa rfl rfl ?_
    refine LR rfl (Ja rfl rfl (by first | (simp only [Nat.zero_add, Nat.reduceAdd, Nat.reduceMul, Nat.zero_mul, Nat.mul_one, Nat.add_zero]; exact rfl) | exact rfl)) ?_; refine QF ?_; refine KE (g := 1) (is := [7, 9]) (by kernel_rfl) rfl (.cons ?n2_5_6_8_7 (.cons ?n2_5_6_8_9 .nil))
    case' n2_5_6_8_7 =>
     refine Qa rfl rfl ?_; refine Jv (k := 0) (n := 3) (vs := x.cells.toArray) (cs' := (JK its ++ x.cells ++ sp).toArray) rfl rfl rfl rfl rfl (ItL.len _) (ItL.one _) (by show n * 3 + 3 ≤ (JK its ++ [Value.bool false, .string ⟨#[]⟩, .slice none 0 0] ++ sp).length; rw [List.length_append, List.length_append, hrow.len]; simp) (congrArg List.toArray (Vg hrow.len rfl)) rfl ?_; refine QF ?_; refine KE (g := 0) (is := [9]) (by kernel_rfl) rfl (.cons ?n2_5_6_8_7_9 .nil)
     case' n2_5_6_8_7_9 =>
      refine Qa rfl rfl ?_; refine Ju (k := 4) (cs' := #[.bool true, Jq [], JO (n + 1) (some (ra, cap, sp))]) rfl rfl rfl rfl rfl rfl rfl rfl rfl rfl ?_; refine QF ?_
    case' n2_5_6_8_9 =>
     refine Qa rfl rfl ?_; refine Ju (k := 4) (cs' := #[.bool true, Jq [], JO (n + 1) (some (ra, cap, sp))]) rfl rfl rfl rfl rfl rfl rfl rfl rfl rfl ?_; refine QF ?_; refine KE (g := 0) (is := [7]) (by kernel_rfl) rfl (.cons ?n2_5_6_8_9_7 .nil)
     case' n2_5_6_8_9_7 =>
      refine Qa rfl rfl ?_; refine Jv (k := 0) (n := 3) (vs := x.cells.toArray) (cs' := (JK its ++ x.cells ++ sp).toArray) rfl rfl rfl rfl rfl (ItL.len _) (ItL.one _) (by show n * 3 + 3 ≤ (JK its ++ [Value.bool false, .string ⟨#[]⟩, .slice none 0 0] ++ sp).length; rw [List.length_append, List.length_append, hrow.len]; simp) (congrArg List.toArray (Vg hrow.len rfl)) rfl ?_; refine QF ?_
  case' n2_5_8 =>
   refine Qa rfl rfl ?_
   refine LR rfl (Ja rfl rfl (by first | (simp only [Nat.zero_add, Nat.reduceAdd, Nat.reduceMul, Nat.zero_mul, Nat.mul_one, Nat.add_zero]; exact rfl) | exact rfl)) ?_; refine QF ?_; refine KE (g := 2) (is := [6, 9]) (by kernel_rfl) rfl (.cons ?n2_5_8_6 (.cons ?n2_5_8_9 .nil))
   case' n2_5_8_6 =>
    refine Qa rfl rfl ?_; refine LR rfl (QE (m := 3) (j := n) (off' := n * 3) rfl rfl rfl rfl rfl (by omega) (by omega)) ?_; refine QF ?_; refine KE (g := 1) (is := [7, 9]) (by kernel_rfl) rfl (.cons ?n2_5_8_6_7 (.cons ?n2_5_8_6_9 .nil))
    case' n2_5_8_6_7 =>
     refine Qa rfl rfl ?_; refine Jv (k := 0) (n := 3) (vs := x.cells.toArray) (cs' := (JK its ++ x.cells ++ sp).toArray) rfl rfl rfl rfl rfl (ItL.len _) (ItL.one _) (by show n * 3 + 3 ≤ (JK its ++ [Value.bool false, .string ⟨#[]⟩, .slice none 0 0] ++ sp).length; rw [List.length_append, List.length_append, hrow.len]; simp) (congrArg List.toArray (Vg hrow.len rfl)) rfl ?_; refine QF ?_; refine KE (g := 0) (is := [9]) (by kernel_rfl) rfl (.cons ?n2_5_8_6_7_9 .nil)
     case' n2_5_8_6_7_9 =>
      refine Qa rfl rfl ?_; refine Ju (k := 4) (cs' := #[.bool true, Jq [], JO (n + 1) (some (ra, cap, sp))]) rfl rfl rfl rfl rfl rfl rfl rfl rfl rfl ?_; refine QF ?_
    case' n2_5_8_6_9 =>
     refine Qa rfl rfl ?_; refine Ju (k := 4) (cs' := #[.bool true, Jq [], JO (n + 1) (some (ra, cap, sp))]) rfl rfl rfl rfl rfl rfl rfl rfl rfl rfl ?_; refine QF ?_; refine KE (g := 0) (is := [7]) (by kernel_rfl) rfl (.cons ?n2_5_8_6_9_7 .nil)
     case' n2_5_8_6_9_7 =>
      refine Qa rfl rfl ?_; refine Jv (k := 0) (n := 3) (vs := x.cells.toArray) (cs' := (JK its ++ x.cells ++ sp).toArray) rfl rfl rfl rfl rfl (ItL.len _) (ItL.one _) (by show n * 3 + 3 ≤ (JK its ++ [Value.bool false, .string ⟨#[]⟩, .slice none 0 0] ++ sp).length; rw [List.length_append, List.length_append, hrow.len]; simp) (congrArg List.toArray (Vg hrow.len rfl)) rfl ?_; refine QF ?_
   case' n2_5_8_9 =>
    refine Qa rfl rfl ?_; refine Ju (k := 4) (cs' := #[.bool true, Jq [], JO (n + 1) (some (ra, cap, sp))]) rfl rfl rfl rfl rfl rfl rfl rfl rfl rfl ?_; refine QF ?_; refine KE (g := 1) (is := [6]) (by kernel_rfl) rfl (.cons ?n2_5_8_9_6 .nil)
    case' n2_5_8_9_6 =>
     refine Qa rfl rfl ?_; refine LR rfl (QE (m := 3) (j := n) (off' := n * 3) rfl rfl rfl rfl rfl (by omega) (by omega)) ?_; refine QF ?_; refine KE (g := 0) (is := [7]) (by kernel_rfl) rfl (.cons ?n2_5_8_9_6_7 .nil)
     case' n2_5_8_9_6_7 =>
      refine Qa rfl rfl ?_; refine Jv (k := 0) (n := 3) (vs := x.cells.toArray) (cs' := (JK its ++ x.cells ++ sp).toArray) rfl rfl rfl rfl rfl (ItL.len _) (ItL.one _) (by show n * 3 + 3 ≤ (JK its ++ [Value.bool false, .string ⟨#[]⟩, .slice none 0 0] ++ sp).length; rw [List.length_append, List.length_append, hrow.len]; simp) (congrArg List.toArray (Vg hrow.len rfl)) rfl ?_; refine QF ?_
 all_goals refine Jet (by kernel_rfl) ?_
 all_goals (
  refine hK3 ?_; refine sR fun _ hK4 => ?_; refine Jb rfl (Jb rfl ?_); refine nK hK4 ?_; refine Jd ?_; refine pT rfl rfl rfl fun w1 hs1 => ?_
  have hcat : JK its ++ x.cells = JK (its ++ [x]) := by rw [XD]; simp [JK]
  rw [hcat] at hs1
  exact ⟨⟨x, some (ra, cap, sp), yL ++ F, dest, ye, fun z hz => by
   rcases List.mem_append.1 hz with hz | hz
   exact (hF z hz).mono fun q hq => List.mem_append_right _ hq
   rw [List.mem_singleton.1 hz]; exact yin.mono fun q hq => List.mem_append_left _ hq, yhe, yok, yle, (by rw [hn]; exact hra.same (by rw [← hcat, List.length_append, List.length_append, ItL.len]; rfl))⟩, rfl, (hs1.perm (Ji4 _ _ _ _ _ _)).weakL (.cons_cons _ (.cons_cons _ (.cons_cons _ (List.sublist_append_left _ _))))⟩
  skip)
set_option linter.all false
def ptB (r q : Nat) : Nat × Obj := (r, .cells #[Kw q] 200 (0, 0))
theorem Jpi (r3 q de : Nat) (e : Int) (w : World) (hde : de ≤ 1000) (hT : YI [vH q (de + 1) e] w) (hR : YI [ptB r3 q] w) (hne : r3 ≠ q) : CallsDIn (FW none) 0 Tryz.prog 239 [Kw r3].toArray .returning w (fun e' u' w' => (∃ x, e' = .returned x) ∧ settle u' = .returning ∧ Keep [q] w w' ∧ YI [vH q de e] w') := by
 refine VM (wy Tryz.prog w [vH q (de + 1) e] [ptB r3 q] Tryz.f239.ntmps) Tryz.func239 rfl rfl rfl rfl (L := [vH q (de + 1) e]) (X := fun _ _ => True) (St.startT hT hR (List.pairwise_singleton _ _) (fun p hp z hz => by rw [List.mem_singleton.1 hp, List.mem_singleton.1 hz]; exact hne)) fun c₀ cs hu => ?_; refine vw rfl ?_
 have hc0 : c₀ :: cs = { c₀ with mode := .returning } :: cs := by cases c₀; simp only at hu; rw [hu]
 refine Je (LR rfl (Jc rfl (Kg (k := 0) rfl) rfl rfl) (J2 rfl ?_))
 refine LR rfl (Ja rfl rfl (by first | (simp only [Nat.zero_add, Nat.reduceAdd, Nat.reduceMul, Nat.zero_mul, Nat.mul_one, Nat.add_zero]; exact rfl) | exact rfl)) ?_; refine LR rfl (Jc rfl (kn 0 rfl) rfl rfl) ?_
 refine J2 rfl ?_; refine JA (show _ = Value.int .i64 (de : Int) from by rw [wrap_i64 (by omega) (by omega)]; congr 1 <;> omega) ?_; refine J2 rfl ?_
 refine LR rfl (Ja rfl rfl (by first | (simp only [Nat.zero_add, Nat.reduceAdd, Nat.reduceMul, Nat.zero_mul, Nat.mul_one, Nat.add_zero]; exact rfl) | exact rfl)) ?_; refine Ju (k := 0) (cs' := #[.int .i64 (de : Int), .int .i64 e]) rfl rfl rfl rfl rfl rfl rfl rfl rfl rfl ?_; refine Jt ?_; refine X9 (u' := .returning) rfl hc0 rfl .nil (fun w1 hs1 => ?_); exact ⟨⟨_, rfl⟩, rfl, by have := hs1.keep; simpa [wy, vH] using this, fun p hp => (hs1.own p hp).2.2⟩
section
variable {c : Cx} {l : KK} {L L' : Jy} {X : XP} {d : List Deferred} {fn : Func} {R : Ending → World → Prop}
theorem Job {r3 q de k m : Nat} {e : Int} (hP : c.P = Tryz.prog) (hde : de ≤ 1000) (hk : L[k]? = some (vH q (de + 1) e)) (hL : L.set k (vH q de e) = L') (hm : L[m]? = some (ptB r3 q)) (hkm : k ≠ m) (h : HQ c d l L' X (bodyPostM (FW none) 0 Tryz.prog fn R .ret)) :
  HQ c (dF 239 [Kw r3] :: d) l L X (bodyPostM (FW none) 0 Tryz.prog fn R .ret) :=
 zt (enters_of Tryz.func239 (by kernel_rfl) rfl) (fun w hs => CallsDIn.mono (Jpi r3 q de e w hde (fun p hp => by rw [List.mem_singleton.1 hp]; exact hs.get hk) (fun p hp => by rw [List.mem_singleton.1 hp]; exact hs.get hm) (WO hs.distinct hm hk (Ne.symm hkm))) fun _ _ _ ⟨h1, h2, h3, h4⟩ => ⟨h1, h2, hL ▸ hs.set hk h3 (h4 _ List.mem_cons_self)⟩) h
end
theorem Jmk {s : BS} {a : Nat} (ha : a < s.length) (h : (ZC s a (s.getD a 0).toNat).1 = 0) : (ZC s a (s.getD a 0).toNat).2.1 ≤ s.length ∧ a + 1 ≤ (ZC s a (s.getD a 0).toNat).2.1 := by
 unfold ZC at h ⊢
 by_cases h1 : ((s.getD a 0).toNat - 128) % 64 ≥ 56
 ·rw [if_pos h1] at h ⊢
  exact ⟨(ZO ha h).1, (ZO ha h).2.1⟩
 ·rw [if_neg h1] at h ⊢
  exact ⟨ha, Nat.le_refl _⟩
theorem Y7 {s : BS} {a : Nat} (h : (lookE s a).1 = 0) : a < s.length ∧ a + 1 ≤ (lookE s a).2.1 + (lookE s a).2.2.1 ∧ (lookE s a).2.1 + (lookE s a).2.2.1 ≤ s.length := by
 unfold lookE at h ⊢
 by_cases h1 : s.length ≤ a
 ·rw [if_pos h1] at h; cases h
 rw [if_neg h1] at h ⊢
 by_cases h2 : (s.getD a 0).toNat < 128
 ·rw [if_pos h2] at h ⊢; simp only; omega
 rw [if_neg h2] at h ⊢
 by_cases h3 : (ZC s a (s.getD a 0).toNat).1 ≠ 0
 ·rw [if_pos h3] at h; exact absurd h h3
 rw [if_neg h3] at h ⊢
 by_cases h4 : (ZC s a (s.getD a 0).toNat).2.2 > s.length - (ZC s a (s.getD a 0).toNat).2.1
 ·rw [if_pos h4] at h; cases h
 rw [if_neg h4] at h ⊢
 by_cases h5 : (s.getD a 0).toNat = 129 ∧ (s.getD (a + 1) 0).toNat < 128
 ·rw [if_pos h5] at h; cases h
 rw [if_neg h5] at h ⊢
 have := Jmk (s := s) (a := a) (by omega) (by omega)
 simp only; omega
theorem Ji6 : ∀ {f : Nat} {s : BS} {a : Nat}, (KH f s a).1 = 0 → a < (KH f s a).2.2 ∧ (KH f s a).2.2 ≤ s.length
 | 0, s, a, h => by
  unfold KH at h ⊢
  by_cases h1 : a < s.length ∧ 192 ≤ (s.getD a 0).toNat
  ·rw [if_pos h1] at h; cases h
  rw [if_neg h1] at h ⊢
  by_cases h2 : (lookE s a).1 ≠ 0
  ·rw [if_pos h2] at h; exact absurd h h2
  rw [if_neg h2]
  have := Y7 (s := s) (a := a) (by omega)
  simp only; omega
 | f + 1, s, a, h => by
  unfold KH at h ⊢
  by_cases h2 : (lookE s a).1 ≠ 0
  ·rw [if_pos h2] at h; exact absurd h h2
  rw [if_neg h2]
  have := Y7 (s := s) (a := a) (by omega)
  split <;> simp only <;> omega
abbrev ItS := Int × QH × List ItL × Jy
structure InvI (Z : Int × List It) (rd : Nat → Int × It × Nat) (len : Nat) (z : Bool × Nat × Nat) (s : ItS) : Prop where
  n : s.2.2.1.length = z.2.1
  row : rowOk 3 s.2.2.1.length (JK s.2.2.1) s.2.1
  inn : ∀ x ∈ s.2.2.1, x.In s.2.2.2
  le : z.2.1 ≤ 512
  go : s.1 = 0 → z.2.2 ≤ len ∧ ∃ g, len < z.2.2 + g ∧ Wq rd len g z.2.1 (s.2.2.1.map ItL.er) z.2.2 = Z
  st : s.1 ≠ 0 → s.1 = Z.1
  ph : z.1 = true → z.2.1 < 512 ∧ s.1 = 0 ∧ z.2.2 < len
theorem InvI.fin {Z : Int × List It} {rd : Nat → Int × It × Nat} {len : Nat} {z : Bool × Nat × Nat} {s : ItS} (h : InvI Z rd len z s) (hz : len ≤ z.2.2) : s.1 = Z.1 ∧ (s.1 = 0 → s.2.2.1.map ItL.er = Z.2) := by
 by_cases h0 : s.1 = 0
 ·obtain ⟨h1, g, h2, h3⟩ := h.go h0
  cases g with
  | zero => omega
  | succ g =>
   rw [Wq, if_neg (by omega)] at h3; subst h3; exact ⟨h0, fun _ => rfl⟩
 ·exact ⟨h.st h0, fun h1 => absurd h1 h0⟩
theorem InvI.many {Z : Int × List It} {rd : Nat → Int × It × Nat} {len : Nat} {z : Bool × Nat × Nat} {s : ItS} (h : InvI Z rd len z s) (h0 : s.1 = 0) (hz : z.2.2 < len) (hn : 512 ≤ z.2.1) : (5 : Int) = Z.1 := by
 obtain ⟨h1, g, h2, h3⟩ := h.go h0
 cases g with
 | zero => omega
 | succ g =>
  rw [Wq, if_pos hz, if_pos hn] at h3; rw [← h3]
theorem InvI.next {Z : Int × List It} {f : Nat} {s : BS} {i p : Nat} {row : QH} {its : List ItL} {F : Jy} (h : InvI Z (KH f s) s.length (true, i, p) (0, row, its, F)) (y : ReD (KH f s p) its) :
  InvI Z (KH f s) s.length (false, i + 1, y.dest) (y.e, y.row, its ++ [y.x], y.F) := by
 obtain ⟨h1, _, h3⟩ := h.ph rfl
 obtain ⟨h4, g, h5, h6⟩ := h.go rfl
 have hn := h.n
 simp only at h1 h3 h4 h5 h6 hn
 have hlen : (its ++ [y.x]).length = its.length + 1 := by simp
 cases g with
 | zero => omega
 | succ g =>
 rw [Wq, if_pos h3, if_neg (by omega)] at h6; refine ⟨by simp only [hlen]; omega, by simp only [hlen]; exact y.ro, y.inn, by simp only; omega, fun he => ?_, fun he => ?_, fun hb => by cases hb⟩
 ·simp only at he
  obtain ⟨e1, e2⟩ := y.ok he
  have e3 := y.he.symm.trans he
  obtain ⟨e4, e5⟩ := Ji6 e3
  rw [if_neg (by rw [e3]; simp)] at h6; refine ⟨by simp only [e2]; exact e5, g, by simp only [e2]; omega, ?_⟩; simp only [List.map_append, List.map_cons, List.map_nil, e1, e2]; exact h6
 ·simp only at he ⊢
  rw [if_pos (by rw [← y.he]; exact he)] at h6; rw [← h6, y.he]
def Joc (Z : Int × List It) (c : Code) (s : ItS) : Prop := c = .exit 0 ∧ s.1 ≠ 0 ∧ s.1 = Z.1 ∧ s.2.2.1.length ≤ 512 ∧ rowOk 3 s.2.2.1.length (JK s.2.2.1) s.2.1 ∧ ∀ x ∈ s.2.2.1, x.In s.2.2.2
structure ItsD (z : Int × List It) where
  x : ItL
  L : Jy
  e : Int
  inn : x.In L
  he : e = z.1
  ok : e = 0 → x.er = .mk true [] z.2
theorem Ji7 {f de p q : Nat} {s : BS} (hT : qH f) (hd : de + 1 + f = 12) (hsl : s.length ≤ 65536) (hp : p ≤ s.length) :
    PureT (α := ItsD (Wq (KH f s) s.length (s.length - p + 1) 0 [] p)) Tryz.prog 202 [Kw q, Jq s, .int .i64 (p : Int)].toArray (fun y => y.x.val) [vH q de 0] (fun y => vH q de y.e :: y.L) [] := by
  obtain ⟨Z, hZ⟩ : ∃ Z, Wq (KH f s) s.length (s.length - p + 1) 0 [] p = Z := ⟨_, rfl⟩
  rw [hZ]; refine J1 Tryz.func202 rfl rfl fun w => ?_; refine sR fun _ hK1 => ?_; refine JX (cs := List.toArray ([Kw q])) rfl rfl rfl rfl fun r3 => ?_; refine JX (cs := List.toArray ([Jq s])) rfl rfl rfl rfl fun r4 => ?_; refine LN rfl fun r6 => ?_; refine nK hK1 ?_; refine sR fun _ hK2 => ?_; refine LR rfl (J7 (r := [_, _, _]) rfl rfl) ?_; refine LN rfl fun r7 => ?_
  refine Jv (k := 0) (n := 3) (cs' := #[_, _, _]) (vs := #[_, _, _]) rfl rfl rfl rfl rfl rfl rfl (by exact Nat.le_of_ble_eq_true rfl) rfl (by first | (simp only [List.set_cons_zero, List.set_cons_succ]; exact rfl) | exact rfl) ?_; refine nK hK2 ?_; refine sR fun _ hK3 => ?_; refine LR rfl (Jc rfl (kn 3 rfl) rfl rfl) ?_; refine LR rfl (JQ rfl rfl) ?_; refine LN rfl fun r8 => ?_
  refine Ju (k := 0) rfl rfl rfl rfl rfl rfl rfl rfl (by first | (simp only [List.setIfInBounds_toArray, List.set_cons_zero, List.set_cons_succ]; exact rfl) | exact rfl) (by first | (simp only [List.set_cons_zero, List.set_cons_succ]; exact rfl) | exact rfl) ?_; refine nK hK3 ?_; refine sR fun _ hK4 => ?_; refine LR rfl (Jc rfl (kn 4 rfl) rfl rfl) ?_; refine J2 rfl ?_
  refine LR rfl (Ja rfl rfl (by first | (simp only [Nat.zero_add, Nat.reduceAdd, Nat.reduceMul, Nat.zero_mul, Nat.mul_one, Nat.add_zero]; exact rfl) | exact rfl)) ?_; refine LR rfl (Jc rfl (kn 5 rfl) rfl rfl) ?_
  refine J2 rfl ?_; refine JA (show _ = Value.int .i64 ((de + 1 : Nat) : Int) from by rw [wrap_i64 (by omega) (by omega)]; congr 1 <;> omega) ?_; refine J2 rfl ?_
  refine LR rfl (Ja rfl rfl (by first | (simp only [Nat.zero_add, Nat.reduceAdd, Nat.reduceMul, Nat.zero_mul, Nat.mul_one, Nat.add_zero]; exact rfl) | exact rfl)) ?_; refine Ju (k := 5) (cs' := #[.int .i64 ((de + 1 : Nat) : Int), .int .i64 0]) rfl rfl rfl rfl rfl rfl rfl rfl rfl rfl ?_; refine nK hK4 ?_; refine sR fun _ hK5 => ?_; refine LR rfl (JQ rfl rfl) ?_; refine Xq (caps := [Kw r3]) rfl rfl rfl ?_ rfl; refine nK hK5 ?_; refine sR fun _ hK6 => ?_; refine LR rfl (JQ rfl rfl) ?_; refine Jb rfl ?_; refine nK hK6 ?_; refine sQ fun _ hK7 => ?_; refine sR fun _ hK8 => ?_; refine Jb rfl (LR rfl (Jc rfl (kn 3 rfl) rfl rfl) (LR rfl (JI rfl rfl) ?_)); refine Jb rfl (Ka rfl rfl rfl (enters_of Tryz.func241 (by kernel_rfl) rfl) (Jf7 (a := p) (n := s.length) (g := 240) (caps := [Kw r8, Kw r4, Kw r7])) oN fun y => ?_)
  obtain ⟨rf, re, rr⟩ := y
  refine nK hK8 ?_; refine J3 (ZU [8, 4, 0, 1, 2, 3, 6, 5, 7] (by decide) rfl ?_); refine qF (σ := ItS) (τ := ItS) (T := [Xh rf p]) (Rl := [Xh re s.length, Jaw rr 240 [Kw r8, Kw r4, Kw r7]]) (Rk := [fnB r8 q, stB r4 s]) (p0 := (false, 0, p)) (nx := nxP s.length) (ca := caP 240 [Kw r8, Kw r4, Kw r7]) (re := reP) (dead := Jk0) (fi := Jn8 s.length) (InvI Z (KH f s) s.length) (fun z : ItS => vH q (de + 1) z.1 :: itB r7 z.2.2.1.length z.2.1 :: (Kk 91 (JK z.2.2.1) z.2.1 ++ z.2.2.2)) (Joc Z) (fun z : ItS => vH q (de + 1) z.1 :: itB r7 z.2.2.1.length z.2.1 :: (Kk 91 (JK z.2.2.1) z.2.1 ++ z.2.2.2)) ([Xh re s.length, Jaw rr 240 [Kw r8, Kw r4, Kw r7]] ++ ([fnB r8 q, stB r4 s] ++ [_, _])) (0, none, [], []) rfl rfl (enters_of Tryz.func271 (by kernel_rfl) rfl) (Jf8 (enters_of Tryz.func240 (by kernel_rfl) rfl) (by omega) rf re rr) (by rintro _ _ _ ⟨_, _, rfl, _⟩; rfl) rfl (fun z hz => .inl (List.mem_append_left _ hz)) (fun z hz => .inl (List.mem_append_right _ (List.mem_append_left _ hz))) rfl ⟨rfl, ⟨rfl, rfl⟩, (fun _ h => nomatch h), Nat.zero_le _, fun _ => ⟨hp, _, by simp only; omega, hZ⟩, fun h => absurd rfl h, fun h => by cases h⟩ (fun z s9 hd9 hI => by have := (hI.ph hd9.1).1; have := hd9.2; omega) ?hread ?_ ?_ ?_
  case hread =>
    rintro ⟨ph, i, p1⟩ g vs ⟨e, row, its, F⟩ ⟨hz, rfl, rfl⟩ hI; simp only at hz; subst hz
    obtain ⟨h1, h2, h3⟩ := hI.ph rfl
    simp only at h1 h2 h3; subst h2
    have hn := hI.n
    simp only at hn; exact (Jmj (p := p1) (n := its.length) (q := q) (r8 := r8) (r4 := r4) (r7 := r7) hT hd hsl (by omega) rfl (by omega) hI.row hI.inn).map (fun y => ⟨(.int .i64 (y.dest : Int), (false, i + 1, y.dest), (y.e, y.row, its ++ [y.x], y.F)), ⟨y.dest, y.le, rfl, rfl⟩, hI.next y⟩) (fun _ => rfl) (fun y => by simp only [List.length_append, List.length_singleton]; exact List.Sublist.refl _)
  · rintro q9 Xr Xb w3 ⟨ph, i, p1⟩ _ _ ⟨e, row, its, F⟩ ⟨hz, hzp, rfl, rfl⟩ hI Kr hKr
    simp only at hz hzp hKr ⊢; subst hz
    have hn := hI.n
    have hle := hI.le
    simp only at hn hle; refine Je (Jb rfl (Jt ?_)); refine hKr _ _ ?_; clear hKr; refine J3 (sQ fun _ hK9 => (sR fun _ hK10 => ?_)); refine LR rfl (Jc rfl (Kg (k := 5) rfl) rfl rfl) ?_; refine J2 rfl ?_
    refine LR rfl (Ja rfl rfl (by first | (simp only [Nat.zero_add, Nat.reduceAdd, Nat.reduceMul, Nat.zero_mul, Nat.mul_one, Nat.add_zero]; exact rfl) | exact rfl)) ?_; refine LR rfl (Jc rfl (kn 0 rfl) rfl rfl) ?_; refine J2 rfl (Jb rfl ?_)
    refine JM 35 rfl (fun gb => ?_) (fun gb => ?_) <;> (try simp only [ZZ] at gb) <;> first | (refine Jb rfl ?_) | (refine LK rfl ?_)
    all_goals first | refine J2 rfl ?_ | refine LK rfl ?_
    all_goals first | refine LR rfl (Jx rfl rfl) ?_ | refine LR rfl (J5 rfl rfl) ?_
    all_goals (
     refine Jt (hK10 ?_); refine Jl rfl (fun h13 => ?_) (fun h13 => ?_)
     · try exact Bool.noConfusion h13
       all_goals try simp only [ZZ] at h13
       all_goals (
        refine Je (LR rfl (Jc rfl (Kg (k := 5) rfl) rfl rfl) (J2 rfl ?_))
        refine LR rfl (Ja rfl rfl (by first | (simp only [Nat.zero_add, Nat.reduceAdd, Nat.reduceMul, Nat.zero_mul, Nat.mul_one, Nat.add_zero]; exact rfl) | exact rfl)) ?_; refine Ju (k := 0) (cs' := #[.int .i64 ((de + 1 : Nat) : Int), .int .i64 5]) rfl rfl rfl rfl rfl rfl rfl rfl rfl rfl ?_; refine nK hK9 ?_; refine sR fun _ hK14 => ?_; refine LR rfl (Jc rfl (Kg (k := 5) rfl) rfl rfl) ?_; refine J2 rfl ?_
        refine LR rfl (Ja rfl rfl (by first | (simp only [Nat.zero_add, Nat.reduceAdd, Nat.reduceMul, Nat.zero_mul, Nat.mul_one, Nat.add_zero]; exact rfl) | exact rfl)) ?_; refine LR rfl (Jc rfl (kn 0 rfl) rfl rfl) ?_; refine J2 rfl ?_; refine nK hK14 ?_; refine Jl rfl (fun h15 => ?_) (fun h15 => ?_)
        try simp only [ZZ] at h15
        refine JL (Q6 rfl ?_); exact qg (5, row, its, F) ⟨rfl, (show (5 : Int) ≠ 0 by decide), hI.many (show e = 0 by assumption) hzp (show 512 ≤ i by omega), (show its.length ≤ 512 by omega), hI.row, hI.inn⟩ rfl
        try exact Bool.noConfusion h15
        skip)
     try simp only [ZZ] at h13
     refine Jg (hK9 ?_); refine sR fun _ hK16 => ?_; refine LR rfl (Jc rfl (Kg (k := 5) rfl) rfl rfl) ?_; refine J2 rfl ?_
     refine LR rfl (Ja rfl rfl (by first | (simp only [Nat.zero_add, Nat.reduceAdd, Nat.reduceMul, Nat.zero_mul, Nat.mul_one, Nat.add_zero]; exact rfl) | exact rfl)) ?_; refine LR rfl (Jc rfl (kn 0 rfl) rfl rfl) ?_; refine J2 rfl ?_; refine nK hK16 ?_; refine cD (fun h17 => ?_) fun h17 => ?_
     refine JL (Q6 rfl ?_)
     first | (exfalso; omega) | exact qg (e, row, its, F) ⟨rfl, (show ¬ e = 0 by assumption), hI.st (show ¬ e = 0 by assumption), (show its.length ≤ 512 by omega), hI.row, hI.inn⟩ rfl
     refine Jg (Jo ?_)
     first | (exfalso; omega) | exact VZ (e, row, its, F) ⟨hI.n, hI.row, hI.inn, hI.le, hI.go, hI.st, fun _ => ⟨show i < 512 by omega, show e = 0 by assumption, hzp⟩⟩ rfl
     skip)
  · rintro D ⟨ph, i, p1⟩ ⟨e, row, its, F⟩ ⟨hz, hfi⟩ hI
    simp only at hz hfi ⊢; subst hz
    obtain ⟨hf1, hf2⟩ := hI.fin hfi
    have hrow := hI.row
    have hF := hI.inn
    have hle := hI.le
    have hn := hI.n
    simp only at hf1 hf2 hrow hF hle hn; refine Wm (((List.perm_append_comm.cons _).cons _).cons _) ?_; change HQ _ _ _ ((D, _) :: (q, .cells #[.int .i64 ((de + 1 : Nat) : Int), .int .i64 e] 202 (0, 0)) :: (r7, .cells #[.bool true, Jq [], JO its.length row] 91 (0, 0)) :: (re, _) :: (rr, _) :: (r8, _) :: (r4, _) :: (r6, .cells #[.bool false, Jq [], .slice none 0 0] 91 (0, 0)) :: ptB r3 q :: (Kk 91 (JK its) row ++ F)) _ _; refine Jo (hK7 ?_); refine sQ fun _ hK18 => ?_
    have honeV : ([.bool true, Jq [], JO its.length row] : List Value).all QX = true := by cases row <;> rfl
    refine Je (LR rfl (Jm (xs := [.bool true, Jq [], JO its.length row]) (n := 3) rfl (kn 2 rfl) rfl rfl rfl) (Js (k := 7) (n := 3) (ys := [.bool true, Jq [], JO its.length row]) rfl rfl rfl rfl rfl rfl rfl honeV rfl ?_)); refine nK hK18 ?_; refine Jd (V8 (k := 0) rfl rfl (Job (r3 := r3) (q := q) (de := de) (e := e) (k := 1) (m := 8) rfl (by omega) rfl rfl rfl (by decide) ?_)); refine Jp rfl rfl (.cons (J0 (vs := [_, _, _]) rfl (kn 7 rfl) rfl rfl) .nil) (fun w1 hs1 => ?_)
    have hvr : JO its.length row = Ky its.length (Qm row) := Ql hrow
    exact ⟨⟨.mk true [] (Qm row) its, Kk 91 (JK its) row ++ F, e, Y4 (by omega) hrow (fun q h => List.mem_append_left _ h) (fun x hx => (hF x hx).mono fun q hq => List.mem_append_right _ hq), hf1, fun h0 => (Y5 _ _).trans (by rw [hf2 h0]; rfl)⟩, congrArg (fun z => Ending.returned (Value.agg #[.bool true, Jq [], z])) hvr, hs1.weakL (.cons _ (.cons_cons _ (.cons _ (.cons _ (.cons _ (.cons _ (.cons _ (.cons _ (.cons _ (List.Sublist.refl _))))))))))⟩
  · rintro D _ ⟨e, row, its, F⟩ ⟨rfl, hs0, hf1, hle, hrow, hF⟩
    simp only at hs0 hf1 hle hrow hF ⊢
    have hf2 : e = 0 → its.map ItL.er = Z.2 := fun h => absurd h hs0
    refine xZ (((List.perm_append_comm.cons _).cons _).cons _) ?_; change HC _ _ _ ((D, _) :: (q, .cells #[.int .i64 ((de + 1 : Nat) : Int), .int .i64 e] 202 (0, 0)) :: (r7, .cells #[.bool true, Jq [], JO its.length row] 91 (0, 0)) :: (re, _) :: (rr, _) :: (r8, _) :: (r4, _) :: (r6, .cells #[.bool false, Jq [], .slice none 0 0] 91 (0, 0)) :: ptB r3 q :: (Kk 91 (JK its) row ++ F)) _ _ _; refine JL (J8 (hK7 ?_)); refine sQ fun _ hK19 => ?_
    have honeV : ([.bool true, Jq [], JO its.length row] : List Value).all QX = true := by cases row <;> rfl
    refine Je (LR rfl (Jm (xs := [.bool true, Jq [], JO its.length row]) (n := 3) rfl (kn 2 rfl) rfl rfl rfl) (Js (k := 7) (n := 3) (ys := [.bool true, Jq [], JO its.length row]) rfl rfl rfl rfl rfl rfl rfl honeV rfl ?_)); refine nK hK19 ?_; refine Jd (V8 (k := 0) rfl rfl (Job (r3 := r3) (q := q) (de := de) (e := e) (k := 1) (m := 8) rfl (by omega) rfl rfl rfl (by decide) ?_)); refine Jp rfl rfl (.cons (J0 (vs := [_, _, _]) rfl (kn 7 rfl) rfl rfl) .nil) (fun w1 hs1 => ?_)
    have hvr : JO its.length row = Ky its.length (Qm row) := Ql hrow
    exact ⟨⟨.mk true [] (Qm row) its, Kk 91 (JK its) row ++ F, e, Y4 (by omega) hrow (fun q h => List.mem_append_left _ h) (fun x hx => (hF x hx).mono fun q hq => List.mem_append_right _ hq), hf1, fun h0 => (Y5 _ _).trans (by rw [hf2 h0]; rfl)⟩, congrArg (fun z => Ending.returned (Value.agg #[.bool true, Jq [], z])) hvr, hs1.weakL (.cons _ (.cons_cons _ (.cons _ (.cons _ (.cons _ (.cons _ (.cons _ (.cons _ (.cons _ (List.Sublist.refl _))))))))))⟩
theorem zI {s : BS} {a : Nat} (h : (lookE s a).2.2.2 = true) : a < s.length ∧ 192 ≤ (s.getD a 0).toNat := by
 unfold lookE at h
 by_cases h1 : s.length ≤ a
 ·rw [if_pos h1] at h; cases h
 rw [if_neg h1] at h
 by_cases h2 : (s.getD a 0).toNat < 128
 ·rw [if_pos h2] at h; cases h
 rw [if_neg h2] at h
 by_cases h3 : (ZC s a (s.getD a 0).toNat).1 ≠ 0
 ·rw [if_pos h3] at h; cases h
 rw [if_neg h3] at h
 by_cases h4 : (ZC s a (s.getD a 0).toNat).2.2 > s.length - (ZC s a (s.getD a 0).toNat).2.1
 ·rw [if_pos h4] at h; cases h
 rw [if_neg h4] at h
 by_cases h5 : (s.getD a 0).toNat = 129 ∧ (s.getD (a + 1) 0).toNat < 128
 ·rw [if_pos h5] at h; cases h
 rw [if_neg h5] at h; simp only [decide_eq_true_eq] at h; exact ⟨by omega, h⟩
theorem Ji8 : qH 0 := by
  intro de s a q hd hsl ha
  have hde : de = 12 := by omega
  refine J1 Tryz.func112 rfl rfl fun w => ?_; refine sR fun _ hK1 => ?_; refine LN rfl fun r6 => ?_; refine Jb rfl ?_; refine nK hK1 ?_; refine sQ fun _ hK2 => ?_; refine sR fun _ hK3 => ?_; refine Jb rfl (Jb rfl (LR rfl (JI rfl rfl) ?_)); refine J2 rfl (Jb rfl ?_)
  refine JM 15 rfl (fun gb => ?_) (fun gb => ?_) <;> (try simp only [ZZ] at gb) <;> first | (refine Jb rfl ?_) | (refine LK rfl ?_)
  all_goals first | refine Jb rfl ?_ | refine LK rfl ?_
  all_goals first | (refine LR rfl (Kp (j := a) rfl rfl rfl rfl (by omega) rfl) ?_) | refine LK rfl ?_
  all_goals first | refine J2 rfl ?_ | refine LK rfl ?_
  all_goals first | refine LR rfl (Jx rfl rfl) ?_ | refine LR rfl (J5 rfl rfl) ?_
  all_goals refine Jb rfl ?_
  all_goals first | refine LK rfl ?_ | (refine JM 21 rfl (fun gb => ?_) (fun gb => ?_) <;> (try simp only [ZZ] at gb) <;> first | (refine Jb rfl ?_) | (refine LK rfl ?_))
  all_goals first | refine J2 rfl ?_ | refine LK rfl ?_
  all_goals first | (refine LR rfl (Ja rfl rfl (by first | (simp only [Nat.zero_add, Nat.reduceAdd, Nat.reduceMul, Nat.zero_mul, Nat.mul_one, Nat.add_zero]; exact rfl) | exact rfl)) ?_) | refine LK rfl ?_
  all_goals first | refine LR rfl (Jc rfl (kn 1 rfl) rfl rfl) ?_ | refine LK rfl ?_
  all_goals first | refine J2 rfl ?_ | refine LK rfl ?_
  all_goals first | refine LR rfl (Jx rfl rfl) ?_ | refine LR rfl (J5 rfl rfl) ?_
  all_goals (
   refine Jt (hK3 ?_); refine Jl rfl (fun g => ?_) (fun g => ?_)
   · try exact Bool.noConfusion g
     all_goals try simp only [ZZ] at g
     all_goals (
      refine sR fun _ hK14 => ?_; refine Jb rfl (J2 rfl ?_)
      refine LR rfl (Ja rfl rfl (by first | (simp only [Nat.zero_add, Nat.reduceAdd, Nat.reduceMul, Nat.zero_mul, Nat.mul_one, Nat.add_zero]; exact rfl) | exact rfl)) ?_; refine Ju (k := 1) (cs' := #[.int .i64 (de : Int), .int .i64 7]) rfl rfl rfl rfl rfl rfl rfl rfl rfl rfl ?_; refine nK hK14 ?_; refine sR fun _ hK15 => ?_; refine LR rfl (J7 (r := [_, _, _]) rfl rfl) ?_; refine Jb rfl ?_
      refine Jv (k := 0) (n := 3) (cs' := #[_, _, _]) (vs := #[_, _, _]) rfl rfl rfl rfl rfl rfl rfl (by exact Nat.le_of_ble_eq_true rfl) rfl (by first | (simp only [List.set_cons_zero, List.set_cons_succ]; exact rfl) | exact rfl) ?_; refine Jb rfl ?_; refine nK hK15 ?_; refine Jd (Ji ?_); refine Jp rfl rfl (.cons (J0 (vs := [_, _, _]) rfl (kn 0 rfl) rfl rfl) (.cons (Jk rfl) .nil)) (fun w1 hs1 => ?_); exact ⟨⟨Jj [], [], a, 7, KX (by simp), by unfold KH; rw [if_pos (by omega)], fun h => absurd h (by decide), by omega⟩, rfl, (hs1.weakL (.cons _ (List.Sublist.refl _)))⟩
      skip)
   · try simp only [ZZ] at g
     refine Jg (hK2 ?_); refine sR fun _ hK16 => ?_; refine Jb rfl (Jb rfl (JC rfl rfl rfl (enters_of Tryz.func201 (by kernel_rfl) rfl) (Jf6 (by omega) ha) ?_)); refine Jb rfl (LR rfl (Jf rfl rfl) (LR rfl (Jf rfl rfl) ?_)); refine LN rfl fun r8 => ?_
     refine Jv (k := 0) (n := 3) (cs' := #[_, _, _]) (vs := #[_, _, _]) rfl rfl rfl rfl rfl rfl rfl (by exact Nat.le_of_ble_eq_true rfl) rfl (by first | (simp only [List.set_cons_zero, List.set_cons_succ]; exact rfl) | exact rfl) ?_; refine Jb rfl ?_; refine nK hK16 ?_; refine sQ fun _ hK17 => ?_; refine sR fun _ hK18 => ?_; refine Jb rfl (J2 rfl ?_); refine nK hK18 ?_; refine cD (fun g => ?_) fun g => ?_
     refine sR fun _ hK20 => ?_; refine Jb rfl (Jb rfl (J2 rfl ?_))
     refine LR rfl (Ja rfl rfl (by first | (simp only [Nat.zero_add, Nat.reduceAdd, Nat.reduceMul, Nat.zero_mul, Nat.mul_one, Nat.add_zero]; exact rfl) | exact rfl)) ?_; refine Ju (k := 2) (cs' := #[.int .i64 (de : Int), .int .i64 (lookE s a).1]) rfl rfl rfl rfl rfl rfl rfl rfl rfl rfl ?_; refine nK hK20 ?_; refine sR fun _ hK21 => ?_; refine LR rfl (J7 (r := [_, _, _]) rfl rfl) ?_; refine Jb rfl ?_
     refine Jv (k := 1) (n := 3) (cs' := #[_, _, _]) (vs := #[_, _, _]) rfl rfl rfl rfl rfl rfl rfl (by exact Nat.le_of_ble_eq_true rfl) rfl (by first | (simp only [List.set_cons_zero, List.set_cons_succ]; exact rfl) | exact rfl) ?_; refine Jb rfl ?_; refine nK hK21 ?_; refine Jd (Ji ?_); refine Jp rfl rfl (.cons (J0 (vs := [_, _, _]) rfl (kn 1 rfl) rfl rfl) (.cons (Jk rfl) .nil)) (fun w1 hs1 => ?_); exact ⟨⟨Jj [], [], a, (lookE s a).1, KX (by simp), by unfold KH; rw [if_neg (by omega), if_pos (by assumption)], fun h => absurd h (by assumption), by omega⟩, rfl, (hs1.weakL (.cons _ (.cons _ (List.Sublist.refl _))))⟩
     · refine Jg (hK17 ?_); refine sQ fun _ hK22 => ?_
       have hok := Y7 (s := s) (a := a) (by assumption)
       have hl0 : (lookE s a).2.2.2 = false := by
         cases h : (lookE s a).2.2.2 with
         | false => rfl
         | true => have := zI h; omega
       refine Je ?_
       refine LR rfl (Ja rfl rfl (by first | (simp only [Nat.zero_add, Nat.reduceAdd, Nat.reduceMul, Nat.zero_mul, Nat.mul_one, Nat.add_zero]; exact rfl) | exact rfl)) ?_; refine LR rfl (Jc rfl (kn 0 rfl) rfl rfl) ?_
       refine LR rfl (Ja rfl rfl (by first | (simp only [Nat.zero_add, Nat.reduceAdd, Nat.reduceMul, Nat.zero_mul, Nat.mul_one, Nat.add_zero]; exact rfl) | exact rfl)) ?_; refine LR rfl (Jc rfl (kn 0 rfl) rfl rfl) ?_
       refine J2 rfl ?_; refine JA (show _ = Value.int .i64 ((((lookE s a).2.1 + (lookE s a).2.2.1) : Nat) : Int) from by rw [wrap_i64 (by omega) (by omega)]; congr 1 <;> omega) ?_; refine Jb rfl ?_; refine nK hK22 ?_; refine sQ fun _ hK23 => ?_; refine sR fun _ hK24 => ?_
       refine LR rfl (Ja rfl rfl (by first | (simp only [Nat.zero_add, Nat.reduceAdd, Nat.reduceMul, Nat.zero_mul, Nat.mul_one, Nat.add_zero]; exact rfl) | exact rfl)) ?_; refine LR rfl (Jc rfl (kn 0 rfl) rfl rfl) ?_; refine J2 rfl ?_; refine nK hK24 ?_; refine Jl rfl (fun h25 => ?_) (fun h25 => ?_)
       try simp only [ZZ] at h25
       refine sR fun _ hK26 => ?_; refine Jb rfl ?_
       refine LR rfl (Ja rfl rfl (by first | (simp only [Nat.zero_add, Nat.reduceAdd, Nat.reduceMul, Nat.zero_mul, Nat.mul_one, Nat.add_zero]; exact rfl) | exact rfl)) ?_; refine LR rfl (Jc rfl (kn 0 rfl) rfl rfl) ?_; refine Jb rfl (LR rfl (Qx (kl := some (.i64, ((lookE s a).2.1 : Int))) (kh := some (.i64, (((((lookE s a).2.1 + (lookE s a).2.2.1) : Nat)) : Int))) (m := (lookE s a).2.1) (n := ((lookE s a).2.1 + (lookE s a).2.2.1)) rfl rfl rfl rfl rfl rfl (by omega) (by omega) rfl) (LR rfl (J7 (r := [_, _, _]) rfl rfl) ?_)); refine Jb rfl ?_
       refine Jv (k := 1) (n := 3) (cs' := #[_, _, _]) (vs := #[_, _, _]) rfl rfl rfl rfl rfl rfl rfl (by exact Nat.le_of_ble_eq_true rfl) rfl (by first | (simp only [List.set_cons_zero, List.set_cons_succ]; exact rfl) | exact rfl) ?_; refine Jb rfl ?_; refine nK hK26 ?_; refine Jd (Ji ?_); refine Jp rfl rfl (.cons (J0 (vs := [_, _, _]) rfl (kn 1 rfl) rfl rfl) (.cons (Jk rfl) .nil)) (fun w1 hs1 => ?_); exact ⟨⟨Jj ((s.take ((lookE s a).2.1 + (lookE s a).2.2.1)).drop (lookE s a).2.1), [], ((lookE s a).2.1 + (lookE s a).2.2.1), 0, KX (by simp; omega), by unfold KH; rw [if_neg (by omega), if_neg (by omega)], fun _ => by unfold KH; rw [if_neg (by omega), if_neg (by omega)]; exact ⟨QM _, rfl⟩, by omega⟩, rfl, (hs1.weakL (.cons _ (.cons _ (List.Sublist.refl _))))⟩
       exact absurd h25 ((by rw [hl0]; decide))
   skip)
theorem Jcg {f : Nat} {s : BS} {p n : Nat} (h : p + n ≤ s.length) : Wq (KH f (s.take (p + n))) (s.take (p + n)).length ((s.take (p + n)).length - p + 1) 0 [] p = Wq (KH f (s.take (p + n))) (p + n) (n + 1) 0 [] p := by
 have h1 : (s.take (p + n)).length = p + n := by rw [List.length_take]; omega
 rw [h1, show p + n - p + 1 = n + 1 from by omega]
theorem Ji9 {f : Nat} (ih : qH f) : qH (f + 1) := by
  intro de s a q hd hsl ha; refine J1 Tryz.func112 rfl rfl fun w => ?_; refine sR fun _ hK1 => ?_; refine LN rfl fun r6 => ?_; refine Jb rfl ?_; refine nK hK1 ?_; refine sQ fun _ hK2 => ?_; refine sR fun _ hK3 => ?_; refine Jb rfl (Jb rfl (LR rfl (JI rfl rfl) ?_)); refine J2 rfl (Jb rfl ?_)
  refine JM 15 rfl (fun gb => ?_) (fun gb => ?_) <;> (try simp only [ZZ] at gb) <;> first | (refine Jb rfl ?_) | (refine LK rfl ?_)
  all_goals first | refine Jb rfl ?_ | refine LK rfl ?_
  all_goals first | (refine LR rfl (Kp (j := a) rfl rfl rfl rfl (by omega) rfl) ?_) | refine LK rfl ?_
  all_goals first | refine J2 rfl ?_ | refine LK rfl ?_
  all_goals first | refine LR rfl (Jx rfl rfl) ?_ | refine LR rfl (J5 rfl rfl) ?_
  all_goals refine Jb rfl ?_
  all_goals first | refine LK rfl ?_ | (refine JM 21 rfl (fun gb => ?_) (fun gb => ?_) <;> (try simp only [ZZ] at gb) <;> first | (refine Jb rfl ?_) | (refine LK rfl ?_))
  all_goals first | refine J2 rfl ?_ | refine LK rfl ?_
  all_goals first | (refine LR rfl (Ja rfl rfl (by first | (simp only [Nat.zero_add, Nat.reduceAdd, Nat.reduceMul, Nat.zero_mul, Nat.mul_one, Nat.add_zero]; exact rfl) | exact rfl)) ?_) | refine LK rfl ?_
  all_goals first | refine LR rfl (Jc rfl (kn 1 rfl) rfl rfl) ?_ | refine LK rfl ?_
  all_goals first | refine J2 rfl ?_ | refine LK rfl ?_
  all_goals first | refine LR rfl (Jx rfl rfl) ?_ | refine LR rfl (J5 rfl rfl) ?_
  all_goals (
   refine Jt (hK3 ?_); refine Jl rfl (fun g => ?_) (fun g => ?_)
   · try exact Bool.noConfusion g
     all_goals try simp only [ZZ] at g
     all_goals (
      refine sR fun _ hK14 => ?_; refine Jb rfl (J2 rfl ?_)
      refine LR rfl (Ja rfl rfl (by first | (simp only [Nat.zero_add, Nat.reduceAdd, Nat.reduceMul, Nat.zero_mul, Nat.mul_one, Nat.add_zero]; exact rfl) | exact rfl)) ?_
      exfalso; omega
      skip)
   · try simp only [ZZ] at g
     refine Jg (hK2 ?_); refine sR fun _ hK16 => ?_; refine Jb rfl (Jb rfl (JC rfl rfl rfl (enters_of Tryz.func201 (by kernel_rfl) rfl) (Jf6 (by omega) ha) ?_)); refine Jb rfl (LR rfl (Jf rfl rfl) (LR rfl (Jf rfl rfl) ?_)); refine LN rfl fun r8 => ?_
     refine Jv (k := 0) (n := 3) (cs' := #[_, _, _]) (vs := #[_, _, _]) rfl rfl rfl rfl rfl rfl rfl (by exact Nat.le_of_ble_eq_true rfl) rfl (by first | (simp only [List.set_cons_zero, List.set_cons_succ]; exact rfl) | exact rfl) ?_; refine Jb rfl ?_; refine nK hK16 ?_; refine sQ fun _ hK17 => ?_; refine sR fun _ hK18 => ?_; refine Jb rfl (J2 rfl ?_); refine nK hK18 ?_; refine cD (fun g => ?_) fun g => ?_
     refine sR fun _ hK20 => ?_; refine Jb rfl (Jb rfl (J2 rfl ?_))
     refine LR rfl (Ja rfl rfl (by first | (simp only [Nat.zero_add, Nat.reduceAdd, Nat.reduceMul, Nat.zero_mul, Nat.mul_one, Nat.add_zero]; exact rfl) | exact rfl)) ?_; refine Ju (k := 2) (cs' := #[.int .i64 (de : Int), .int .i64 (lookE s a).1]) rfl rfl rfl rfl rfl rfl rfl rfl rfl rfl ?_; refine nK hK20 ?_; refine sR fun _ hK21 => ?_; refine LR rfl (J7 (r := [_, _, _]) rfl rfl) ?_; refine Jb rfl ?_
     refine Jv (k := 1) (n := 3) (cs' := #[_, _, _]) (vs := #[_, _, _]) rfl rfl rfl rfl rfl rfl rfl (by exact Nat.le_of_ble_eq_true rfl) rfl (by first | (simp only [List.set_cons_zero, List.set_cons_succ]; exact rfl) | exact rfl) ?_; refine Jb rfl ?_; refine nK hK21 ?_; refine Jd (Ji ?_)
     first
       | (refine Jp rfl rfl (.cons (J0 (vs := [_, _, _]) rfl (kn 0 rfl) rfl rfl) (.cons (Jk rfl) .nil)) (fun w1 hs1 => ?_)
          first | exact ⟨⟨Jj [], [], a, (lookE s a).1, KX (by simp), by unfold KH; rw [if_pos (by assumption)], fun h => absurd h (by assumption), by omega⟩, rfl, (hs1.weakL (.cons _ (.cons _ (List.Sublist.refl _))))⟩ | exact ⟨⟨Jj ((s.take ((lookE s a).2.1 + (lookE s a).2.2.1)).drop (lookE s a).2.1), [], ((lookE s a).2.1 + (lookE s a).2.2.1), 0, KX (by simp; omega), by unfold KH; rw [if_neg (by omega), if_neg (by simp only [*]; decide)], fun _ => by unfold KH; rw [if_neg (by omega), if_neg (by simp only [*]; decide)]; exact ⟨QM _, rfl⟩, by omega⟩, rfl, (hs1.weakL (.cons _ (.cons _ (List.Sublist.refl _))))⟩)
       | (refine Jp rfl rfl (.cons (J0 (vs := [_, _, _]) rfl (kn 1 rfl) rfl rfl) (.cons (Jk rfl) .nil)) (fun w1 hs1 => ?_)
          first | exact ⟨⟨Jj [], [], a, (lookE s a).1, KX (by simp), by unfold KH; rw [if_pos (by assumption)], fun h => absurd h (by assumption), by omega⟩, rfl, (hs1.weakL (.cons _ (.cons _ (List.Sublist.refl _))))⟩ | exact ⟨⟨Jj ((s.take ((lookE s a).2.1 + (lookE s a).2.2.1)).drop (lookE s a).2.1), [], ((lookE s a).2.1 + (lookE s a).2.2.1), 0, KX (by simp; omega), by unfold KH; rw [if_neg (by omega), if_neg (by simp only [*]; decide)], fun _ => by unfold KH; rw [if_neg (by omega), if_neg (by simp only [*]; decide)]; exact ⟨QM _, rfl⟩, by omega⟩, rfl, (hs1.weakL (.cons _ (.cons _ (List.Sublist.refl _))))⟩)
       | (refine Jp rfl rfl (.cons (J0 (vs := yx.cells) rfl (kn 2 rfl) rfl (by rw [ItL.len]; rfl)) (.cons (Jk rfl) .nil)) (fun w1 hs1 => ?_)
          exact ⟨⟨yx, yL, ((lookE s a).2.1 + (lookE s a).2.2.1), ye, yin, by unfold KH; rw [if_neg (by omega), if_pos (by simp only [*])]; exact yhe, fun h0 => by unfold KH; rw [if_neg (by omega), if_pos (by simp only [*])]; exact ⟨yok h0, rfl⟩, by omega⟩, rfl, hs1.weakL (.cons_cons _ (.cons _ (.cons _ (List.Sublist.refl _))))⟩)
     · refine Jg (hK17 ?_); refine sQ fun _ hK22 => ?_
       have hok := Y7 (s := s) (a := a) (by assumption)
       refine Je ?_
       refine LR rfl (Ja rfl rfl (by first | (simp only [Nat.zero_add, Nat.reduceAdd, Nat.reduceMul, Nat.zero_mul, Nat.mul_one, Nat.add_zero]; exact rfl) | exact rfl)) ?_; refine LR rfl (Jc rfl (kn 0 rfl) rfl rfl) ?_
       refine LR rfl (Ja rfl rfl (by first | (simp only [Nat.zero_add, Nat.reduceAdd, Nat.reduceMul, Nat.zero_mul, Nat.mul_one, Nat.add_zero]; exact rfl) | exact rfl)) ?_; refine LR rfl (Jc rfl (kn 0 rfl) rfl rfl) ?_
       refine J2 rfl ?_; refine JA (show _ = Value.int .i64 ((((lookE s a).2.1 + (lookE s a).2.2.1) : Nat) : Int) from by rw [wrap_i64 (by omega) (by omega)]; congr 1 <;> omega) ?_; refine Jb rfl ?_; refine nK hK22 ?_; refine sQ fun _ hK23 => ?_; refine sR fun _ hK24 => ?_
       refine LR rfl (Ja rfl rfl (by first | (simp only [Nat.zero_add, Nat.reduceAdd, Nat.reduceMul, Nat.zero_mul, Nat.mul_one, Nat.add_zero]; exact rfl) | exact rfl)) ?_; refine LR rfl (Jc rfl (kn 0 rfl) rfl rfl) ?_; refine J2 rfl ?_; refine nK hK24 ?_; refine cD (fun g => ?_) fun g => ?_
       refine sR fun _ hK26 => ?_; refine Jb rfl ?_
       refine LR rfl (Ja rfl rfl (by first | (simp only [Nat.zero_add, Nat.reduceAdd, Nat.reduceMul, Nat.zero_mul, Nat.mul_one, Nat.add_zero]; exact rfl) | exact rfl)) ?_; refine LR rfl (Jc rfl (kn 0 rfl) rfl rfl) ?_; refine Jb rfl (LR rfl (Qx (kl := some (.i64, ((lookE s a).2.1 : Int))) (kh := some (.i64, (((((lookE s a).2.1 + (lookE s a).2.2.1) : Nat)) : Int))) (m := (lookE s a).2.1) (n := ((lookE s a).2.1 + (lookE s a).2.2.1)) rfl rfl rfl rfl rfl rfl (by omega) (by omega) rfl) (LR rfl (J7 (r := [_, _, _]) rfl rfl) ?_)); refine Jb rfl ?_
       refine Jv (k := 1) (n := 3) (cs' := #[_, _, _]) (vs := #[_, _, _]) rfl rfl rfl rfl rfl rfl rfl (by exact Nat.le_of_ble_eq_true rfl) rfl (by first | (simp only [List.set_cons_zero, List.set_cons_succ]; exact rfl) | exact rfl) ?_; refine Jb rfl ?_; refine nK hK26 ?_; refine Jd (Ji ?_)
       (refine Jp rfl rfl (.cons (J0 (vs := [_, _, _]) rfl (kn 1 rfl) rfl rfl) (.cons (Jk rfl) .nil)) (fun w1 hs1 => ?_)
        first | exact ⟨⟨Jj [], [], a, (lookE s a).1, KX (by simp), by unfold KH; rw [if_pos (by assumption)], fun h => absurd h (by assumption), by omega⟩, rfl, (hs1.weakL (.cons _ (.cons _ (List.Sublist.refl _))))⟩ | exact ⟨⟨Jj ((s.take ((lookE s a).2.1 + (lookE s a).2.2.1)).drop (lookE s a).2.1), [], ((lookE s a).2.1 + (lookE s a).2.2.1), 0, KX (by simp; omega), by unfold KH; rw [if_neg (by omega), if_neg (by simp only [*]; decide)], fun _ => by unfold KH; rw [if_neg (by omega), if_neg (by simp only [*]; decide)]; exact ⟨QM _, rfl⟩, by omega⟩, rfl, (hs1.weakL (.cons _ (.cons _ (List.Sublist.refl _))))⟩)
       refine Jg (hK23 ?_); refine sQ fun _ hK27 => ?_
       refine Km [] [(0, .pure), (1, .pure), (2, .pure), (3, .pure), (4, .pure), (6, .turn), (7, .pure), (8, .turn), (9, .pure)] 10 [0, 1, 2, 3, 4, 5, 7, 6, 8, 9] (by kernel_rfl) (by kernel_rfl) (by first | exact (fun _ h => absurd h List.not_mem_nil) | simp [SubS] | (intro p hp; simp [hp])) ?_; refine JH (k := 0) rfl rfl rfl rfl rfl (fun _ hS => (JG rfl)) ?_; refine JH (k := 1) rfl rfl rfl rfl rfl (fun _ hS => (JG rfl)) ?_; refine JH (k := 2) rfl rfl rfl rfl rfl (fun _ hS => (JG rfl)) ?_; refine JH (k := 3) rfl rfl rfl rfl rfl (fun _ _ => Qx (kl := none) (kh := some (.i64, (((((lookE s a).2.1 + (lookE s a).2.2.1) : Nat)) : Int))) (m := 0) (n := ((lookE s a).2.1 + (lookE s a).2.2.1)) rfl rfl rfl rfl rfl rfl (Nat.zero_le _) (by omega) rfl) ?_
       refine JH (k := 4) rfl rfl rfl rfl rfl (fun _ hS => (Ja rfl rfl (by first | (simp only [Nat.zero_add, Nat.reduceAdd, Nat.reduceMul, Nat.zero_mul, Nat.mul_one, Nat.add_zero]; exact rfl) | exact rfl))) ?_; refine Q5 (k := 5) rfl rfl rfl rfl rfl (Jc rfl (kn 0 rfl) rfl rfl) ?_; refine JH (k := 7) rfl rfl rfl rfl rfl (fun _ hS => (JG rfl)) ?_; refine V3 (k := 6) (T0 := [vH q de 0]) (L0 := [(r8, _), (r6, _)]) (Rl := []) (E' := fun x => vH q de x.e :: (r8, _) :: (r6, _) :: x.L) (List.perm_append_comm (l₁ := [_, _])) (fun x => List.perm_append_comm.cons _) rfl rfl rfl rfl rfl (enters_of Tryz.func202 (by kernel_rfl) rfl) (Ji7 (p := (lookE s a).2.1) (s := s.take ((lookE s a).2.1 + (lookE s a).2.2.1)) (q := q) (de := de) ih (by omega) (by rw [List.length_take]; omega) (by rw [List.length_take]; omega)) oN (fun x q hq => nomatch hq) fun y => ?_
       obtain ⟨yx, yL, ye, yin, yhe, yok⟩ := y
       rw [Jcg hok.2.2] at yhe yok; refine Kl (k := 8) (q := 2) (n := 3) (ys := yx.cells) rfl rfl rfl rfl rfl rfl rfl (ItL.len _) rfl (ItL.one _) rfl oN ?_; refine JH (k := 9) rfl rfl rfl rfl rfl (fun _ hS => (JY rfl)) ?_; refine Qc ?_; refine nK hK27 ?_; refine Jd ?_
       (refine Jp rfl rfl (.cons (J0 (vs := yx.cells) rfl (kn 2 rfl) rfl (by rw [ItL.len]; rfl)) (.cons (Jk rfl) .nil)) (fun w1 hs1 => ?_)
        exact ⟨⟨yx, yL, ((lookE s a).2.1 + (lookE s a).2.2.1), ye, yin, by unfold KH; rw [if_neg (by omega), if_pos (by simp only [*])]; exact yhe, fun h0 => by unfold KH; rw [if_neg (by omega), if_pos (by simp only [*])]; exact ⟨yok h0, rfl⟩, by omega⟩, rfl, hs1.weakL (.cons_cons _ (.cons _ (.cons _ (List.Sublist.refl _))))⟩)
   skip)
theorem Jf9 : ∀ f, qH f
 | 0 => Ji8
 | f + 1 => Ji9 (Jf9 f)
structure UnD (s : BS) where
  x : ItL
  L : Jy
  inn : x.In L
  er : x.er = (jQ s).1
theorem Xd {s : BS} (hs : s.length ≤ 1000000000) : PureT (α := UnD s) Tryz.prog 41 [Jq s].toArray (fun y => .tuple #[y.x.val, .int .i64 (jQ s).2]) [] (fun y => y.L) [] := by
 refine J1 Tryz.func41 rfl rfl fun w => ?_; refine sR fun _ hK1 => ?_; refine LN rfl fun r2 => ?_; refine Jb rfl ?_; refine nK hK1 ?_; refine sQ fun _ hK2 => ?_; refine sR fun _ hK3 => ?_; refine Jb rfl (LR rfl (JI rfl rfl) (J2 rfl ?_)); refine nK hK3 ?_; refine cD (fun g => ?_) fun g => ?_
 refine sR fun _ hK5 => ?_; refine LR rfl (J7 (r := [_, _, _]) rfl rfl) ?_
 refine Jv (k := 0) (n := 3) (cs' := #[_, _, _]) (vs := #[_, _, _]) rfl rfl rfl rfl rfl rfl rfl (by exact Nat.le_of_ble_eq_true rfl) rfl (by first | (simp only [List.set_cons_zero, List.set_cons_succ]; exact rfl) | exact rfl) ?_; refine Jb rfl ?_; refine nK hK5 ?_; refine Jd (Ji ?_)
 (refine Jp rfl rfl (.cons (J0 (vs := [_, _, _]) rfl (kn 0 rfl) rfl rfl) (.cons (Jk rfl) .nil)) (fun w1 hs1 => ?_)
  have hU : jQ s = (it0, 5) := by unfold jQ; rw [if_pos (by omega)]
  exact ⟨⟨Jj [], [], KX (by simp), (QM _).trans (by rw [hU]; rfl)⟩, congrArg (fun z : Int => Ending.returned (Value.tuple #[ItL.val (Jj []), .int .i64 z])) (by rw [hU]), hs1.weakL (List.nil_sublist _)⟩)
 ·refine Jg (hK2 ?_); refine sR fun _ hK6 => ?_; refine LR rfl (J7 (r := [_, _]) rfl rfl) ?_; refine JX (cs := List.toArray ([.int .i64 ((0 : Nat) : Int), .int .i64 0])) rfl rfl rfl rfl fun rq => ?_; refine Jb rfl ?_; refine nK hK6 ?_; refine sR fun _ hK7 => ?_; refine Jb rfl (Jb rfl (J9 (T := [vH rq 0 0]) (L0 := [(r2, _)]) (Rl := []) (List.Perm.refl _) rfl rfl rfl (enters_of Tryz.func112 (by kernel_rfl) rfl) (Jf9 12 0 s 0 rq rfl (by omega) (Nat.zero_le _)) oN fun y => ?_))
  obtain ⟨yx, yL, yd, ye, yin, yhe, yok, yle⟩ := y
  refine Kv (List.Perm.cons _ List.perm_append_comm) ?_; change HL _ _ _ ((rq, .cells #[.int .i64 ((0 : Nat) : Int), .int .i64 ye] 202 (0, 0)) :: (r2, _) :: yL) _ _ _ _; refine Jb rfl (LR rfl (Jf rfl rfl) (LR rfl (Jf rfl rfl) ?_)); refine LN rfl fun r5 => ?_; refine Js (k := 0) (n := 3) (ys := yx.cells) rfl rfl rfl rfl rfl (ItL.len _) rfl (ItL.one _) rfl ?_; refine Jb rfl ?_; refine nK hK7 ?_; refine sB fun _ hK8 => ?_; refine sR fun _ hK9 => ?_; refine Jb rfl (J2 rfl ?_)
  refine LR rfl (Ja rfl rfl (by first | (simp only [Nat.zero_add, Nat.reduceAdd, Nat.reduceMul, Nat.zero_mul, Nat.mul_one, Nat.add_zero]; exact rfl) | exact rfl)) ?_; refine LR rfl (Jc rfl (kn 1 rfl) rfl rfl) ?_; refine J2 rfl (Jb rfl ?_); refine nK hK9 ?_; refine cD (fun g => ?_) fun g => ?_
  refine sQ fun _ hK11 => ?_; refine Km [(rq, .cells #[.int .i64 ((0 : Nat) : Int), .int .i64 ye] 202 (0, 0))] [(0, .pure), (1, .pure), (2, .pure), (3, .pure), (4, .pure), (5, .turn), (6, .pure)] 7 [0, 1, 2, 3, 4, 5, 6] (by kernel_rfl) (by kernel_rfl) (fun q hq => by rw [List.mem_singleton.1 hq]; exact List.mem_cons_of_mem _ List.mem_cons_self) ?_; refine JH (k := 0) rfl rfl rfl rfl rfl (fun _ hS => (J7 (r := [_, _, _]) rfl rfl)) ?_; refine JH (k := 1) rfl rfl rfl rfl rfl (fun _ hS => (JG rfl)) ?_; refine JH (k := 2) rfl rfl rfl rfl rfl (fun _ hS => (KC rfl rfl rfl)) ?_
  refine JH (k := 3) rfl rfl rfl rfl rfl (fun _ hS => (Ja rfl rfl (by first | (simp only [Nat.zero_add, Nat.reduceAdd, Nat.reduceMul, Nat.zero_mul, Nat.mul_one, Nat.add_zero]; exact rfl) | exact rfl))) ?_; refine JH (k := 4) rfl rfl rfl rfl rfl (fun _ hS => (Jc rfl (.inl (hS _ (Jw (n := 0) rfl))) rfl rfl)) ?_; refine Kl (k := 5) (q := 2) (n := 3) (ys := [_, _, _]) rfl rfl rfl rfl rfl rfl rfl rfl rfl rfl rfl (fun q hq => by rw [List.mem_singleton.1 hq]; exact List.mem_cons_of_mem _ List.mem_cons_self) ?_; refine JH (k := 6) rfl rfl rfl rfl rfl (fun _ hS => (JY rfl)) ?_; refine Qc ?_; refine nK hK11 ?_; refine Jd (Jr (Ji ?_))
  (refine Jp rfl rfl (.cons (J0 (vs := [_, _, _]) rfl (kn 2 rfl) rfl rfl) (.cons (Jk rfl) .nil)) (fun w1 hs1 => ?_)
   have hU : jQ s = (it0, ye) := by unfold jQ; rw [if_neg (by omega), if_pos (by rw [← yhe]; assumption), ← yhe]
   exact ⟨⟨Jj [], [], KX (by simp), (QM _).trans (by rw [hU]; rfl)⟩, congrArg (fun z : Int => Ending.returned (Value.tuple #[ItL.val (Jj []), .int .i64 z])) (by rw [hU]), hs1.weakL (List.nil_sublist _)⟩)
  ·refine sR fun _ hK12 => ?_; refine Jb rfl (Jb rfl (LR rfl (JI rfl rfl) ?_)); refine J2 rfl (Jb rfl ?_); refine nK hK12 ?_; refine cD (fun g => ?_) fun g => ?_
   refine sR fun _ hK14 => ?_; refine LR rfl (J7 (r := [_, _, _]) rfl rfl) ?_
   refine Jv (k := 2) (n := 3) (cs' := #[_, _, _]) (vs := #[_, _, _]) rfl rfl rfl rfl rfl rfl rfl (by exact Nat.le_of_ble_eq_true rfl) rfl (by first | (simp only [List.set_cons_zero, List.set_cons_succ]; exact rfl) | exact rfl) ?_; refine Jb rfl ?_; refine nK hK14 ?_; refine Jd (Jr (Ji ?_))
   (refine Jp rfl rfl (.cons (J0 (vs := [_, _, _]) rfl (kn 2 rfl) rfl rfl) (.cons (Jk rfl) .nil)) (fun w1 hs1 => ?_)
    obtain ⟨o1, o2⟩ := yok (by assumption)
    have hU : jQ s = (it0, 4) := by unfold jQ; rw [if_neg (by omega), if_neg (by rw [← yhe]; omega), if_pos (by omega)]
    exact ⟨⟨Jj [], [], KX (by simp), (QM _).trans (by rw [hU]; rfl)⟩, congrArg (fun z : Int => Ending.returned (Value.tuple #[ItL.val (Jj []), .int .i64 z])) (by rw [hU]), hs1.weakL (List.nil_sublist _)⟩)
   ·refine Jg (Jo (hK8 ?_)); refine sR fun _ hK15 => ?_; refine LR rfl (Jm (xs := yx.cells) (n := 3) rfl (kn 0 rfl) rfl rfl (ItL.len _)) ?_; refine Js (k := 2) (n := 3) (ys := yx.cells) rfl rfl rfl rfl rfl (ItL.len _) rfl (ItL.one _) rfl ?_; refine Jb rfl ?_; refine nK hK15 ?_; refine Jd ?_
    (refine Jp rfl rfl (.cons (J0 (vs := yx.cells) rfl (kn 2 rfl) rfl (by rw [ItL.len]; rfl)) (.cons (Jk rfl) .nil)) (fun w1 hs1 => ?_)
     obtain ⟨o1, o2⟩ := yok (by assumption)
     have hU : jQ s = ((KH 12 s 0).2.1, 0) := by unfold jQ; rw [if_neg (by omega), if_neg (by rw [← yhe]; omega), if_neg (by omega)]
     exact ⟨⟨yx, yL, yin, (by rw [hU]; exact o1)⟩, congrArg (fun z : Int => Ending.returned (Value.tuple #[ItL.val yx, .int .i64 z])) (by rw [hU]), hs1.weakL (.cons _ (.cons _ (.cons _ (List.Sublist.refl _))))⟩)
def W1 (n lo hi : Int) : Int := if n < lo then 3 else if n > hi then 5 else 0
theorem yv (n lo hi : Int) : Pure Tryz.prog 113 [.int .i64 n, .int .i64 lo, .int .i64 hi].toArray (.int .i64 (W1 n lo hi)) := by
 refine JF Tryz.func113 rfl rfl fun w => ?_; refine sR fun _ hK1 => ?_; refine Jb rfl ?_; refine nK hK1 ?_; refine sB fun _ hK2 => ?_; refine sR fun _ hK3 => ?_; refine Jb rfl (Jb rfl ?_); refine J2 rfl (Jb rfl ?_); refine nK hK3 ?_; refine cD (fun g => ?_) fun g => ?_
 refine sR fun _ hK5 => ?_; refine Jb rfl ?_; refine nK hK5 ?_; refine Jd (Jr (Ji ?_)); refine pT rfl rfl rfl fun w1 hs1 => ?_; refine ⟨?_, hs1.keep⟩
 unfold W1
 rw [if_pos (by omega)]; rfl
 ·refine sR fun _ hK6 => ?_; refine Jb rfl (Jb rfl ?_); refine J2 rfl (Jb rfl ?_); refine nK hK6 ?_; refine cD (fun g => ?_) fun g => ?_
  refine sR fun _ hK8 => ?_; refine Jb rfl ?_; refine nK hK8 ?_; refine Jd (Jr (Ji ?_)); refine pT rfl rfl rfl fun w1 hs1 => ?_; refine ⟨?_, hs1.keep⟩
  unfold W1
  rw [if_neg (by omega), if_pos (by omega)]; rfl
  ·refine Jg (Jo (hK2 ?_)); refine sR fun _ hK9 => ?_; refine Jb rfl ?_; refine nK hK9 ?_; refine Jd ?_; refine pT rfl rfl rfl fun w1 hs1 => ?_; refine ⟨?_, hs1.keep⟩
   unfold W1
   rw [if_neg (by omega), if_neg (by omega)]; rfl
theorem Jay {R : Jy} {l : Bool} {b : BS} {p : Pl} {xs : List ItL} {g : FuncId} {caps : List Value} {r : BS} {e : Int} (eg : Enters Tryz.prog g) (hg : PureR Tryz.prog g (Jq b :: caps).toArray (.tuple #[Jq r, .int .i64 e]) R) :
  PureR Tryz.prog 114 [ItL.val (.mk l b p xs), .func (.func g) #[] caps.toArray].toArray (.tuple #[Jq (if l = true then [] else if e ≠ 0 then [] else r), .int .i64 (if l = true then 2 else if e ≠ 0 then e else 0)]) R := by
 refine Jz Tryz.func114 rfl rfl fun w => ?_; refine sR fun _ hK1 => ?_; refine JX (cs := List.toArray ([.bool l, Jq b, Ky xs.length p])) rfl rfl rfl rfl fun r0 => ?_; refine Jb rfl (Jb rfl ?_); refine nK hK1 ?_; refine sR fun _ hK2 => ?_; refine Jb rfl ?_; refine nK hK2 ?_; refine sQ fun _ hK3 => ?_; refine sR fun _ hK4 => ?_
 refine LR rfl (Ja rfl rfl (by first | (simp only [Nat.zero_add, Nat.reduceAdd, Nat.reduceMul, Nat.zero_mul, Nat.mul_one, Nat.add_zero]; exact rfl) | exact rfl)) ?_; refine LR rfl (Jc rfl (kn 0 rfl) rfl rfl) ?_; refine nK hK4 ?_; refine cD (fun h5 => ?_) fun h5 => ?_
 refine sR fun _ hK6 => ?_; refine Jb rfl (Jb rfl (Jb rfl ?_)); refine nK hK6 ?_; refine Jd (Ji ?_); refine Jp rfl rfl (.cons (Jk rfl) (.cons (Jk rfl) .nil)) (fun w1 hs1 => ?_); refine ⟨?_, hs1.keep⟩; rw [if_pos (by assumption), if_pos (by assumption)]; rfl
 ·refine Jg (hK3 ?_); refine sR fun _ hK7 => ?_; refine Jb rfl ?_
  refine LR rfl (Ja rfl rfl (by first | (simp only [Nat.zero_add, Nat.reduceAdd, Nat.reduceMul, Nat.zero_mul, Nat.mul_one, Nat.add_zero]; exact rfl) | exact rfl)) ?_; refine LR rfl (Jc rfl (kn 0 rfl) rfl rfl) ?_; refine J4 rfl rfl rfl eg hg oR ?_; refine Jb rfl (LR rfl (Jf rfl rfl) (LR rfl (Jf rfl rfl) ?_)); refine Jb rfl (Jb rfl ?_); refine nK hK7 ?_; refine sQ fun _ hK8 => ?_; refine sR fun _ hK9 => ?_; refine Jb rfl (J2 rfl ?_); refine nK hK9 ?_; refine cD (fun h10 => ?_) fun h10 => ?_
  refine sR fun _ hK11 => ?_; refine Jb rfl (Jb rfl ?_); refine Jb rfl (Jb rfl ?_); refine nK hK11 ?_; refine Jd (Ji ?_); refine Jp rfl rfl (.cons (Jk rfl) (.cons (Jk rfl) .nil)) (fun w1 hs1 => ?_); refine ⟨?_, hs1.keep⟩; rw [if_neg (by simp only [*]; decide), if_pos (by assumption), if_neg (by simp only [*]; decide), if_pos (by assumption)]; rfl
  ·refine Jg (hK8 ?_); refine sR fun _ hK12 => ?_; refine Jb rfl (Jb rfl (Jb rfl ?_)); refine nK hK12 ?_; refine Jd ?_; refine Jp rfl rfl (.cons (Jk rfl) (.cons (Jk rfl) .nil)) (fun w1 hs1 => ?_); refine ⟨?_, hs1.keep⟩; rw [if_neg (by simp only [*]; decide), if_neg (by omega), if_neg (by simp only [*]; decide), if_neg (by omega)]; rfl
theorem Jja {R : Jy} {l : Bool} {b : BS} {p : Pl} {xs : List ItL} {g : FuncId} {caps : List Value} {r : Nat} {e : Int} (eg : Enters Tryz.prog g) (hg : PureR Tryz.prog g (Jq b :: caps).toArray (.tuple #[uV r, .int .i64 e]) R) :
  PureR Tryz.prog 116 [ItL.val (.mk l b p xs), .func (.func g) #[] caps.toArray].toArray (.tuple #[uV (if l = true then 0 else if e ≠ 0 then 0 else r), .int .i64 (if l = true then 2 else if e ≠ 0 then e else 0)]) R := by
 refine Jz Tryz.func116 rfl rfl fun w => ?_; refine sR fun _ hK1 => ?_; refine JX (cs := List.toArray ([.bool l, Jq b, Ky xs.length p])) rfl rfl rfl rfl fun r0 => ?_; refine Jb rfl (Jb rfl ?_); refine nK hK1 ?_; refine sR fun _ hK2 => ?_; refine Jb rfl ?_; refine nK hK2 ?_; refine sQ fun _ hK3 => ?_; refine sR fun _ hK4 => ?_
 refine LR rfl (Ja rfl rfl (by first | (simp only [Nat.zero_add, Nat.reduceAdd, Nat.reduceMul, Nat.zero_mul, Nat.mul_one, Nat.add_zero]; exact rfl) | exact rfl)) ?_; refine LR rfl (Jc rfl (kn 0 rfl) rfl rfl) ?_; refine nK hK4 ?_; refine cD (fun h5 => ?_) fun h5 => ?_
 refine sR fun _ hK6 => ?_; refine Jb rfl (Jb rfl (Jb rfl ?_)); refine nK hK6 ?_; refine Jd (Ji ?_); refine Jp rfl rfl (.cons (Jk rfl) (.cons (Jk rfl) .nil)) (fun w1 hs1 => ?_); refine ⟨?_, hs1.keep⟩; rw [if_pos (by assumption), if_pos (by assumption)]; rfl
 ·refine Jg (hK3 ?_); refine sR fun _ hK7 => ?_; refine Jb rfl ?_
  refine LR rfl (Ja rfl rfl (by first | (simp only [Nat.zero_add, Nat.reduceAdd, Nat.reduceMul, Nat.zero_mul, Nat.mul_one, Nat.add_zero]; exact rfl) | exact rfl)) ?_; refine LR rfl (Jc rfl (kn 0 rfl) rfl rfl) ?_; refine J4 rfl rfl rfl eg hg oR ?_; refine Jb rfl (LR rfl (Jf rfl rfl) (LR rfl (Jf rfl rfl) ?_)); refine Jb rfl (Jb rfl ?_); refine nK hK7 ?_; refine sQ fun _ hK8 => ?_; refine sR fun _ hK9 => ?_; refine Jb rfl (J2 rfl ?_); refine nK hK9 ?_; refine cD (fun h10 => ?_) fun h10 => ?_
  refine sR fun _ hK11 => ?_; refine Jb rfl (Jb rfl ?_); refine Jb rfl (Jb rfl ?_); refine nK hK11 ?_; refine Jd (Ji ?_); refine Jp rfl rfl (.cons (Jk rfl) (.cons (Jk rfl) .nil)) (fun w1 hs1 => ?_); refine ⟨?_, hs1.keep⟩; rw [if_neg (by simp only [*]; decide), if_pos (by assumption), if_neg (by simp only [*]; decide), if_pos (by assumption)]; rfl
  ·refine Jg (hK8 ?_); refine sR fun _ hK12 => ?_; refine Jb rfl (Jb rfl (Jb rfl ?_)); refine nK hK12 ?_; refine Jd ?_; refine Jp rfl rfl (.cons (Jk rfl) (.cons (Jk rfl) .nil)) (fun w1 hs1 => ?_); refine ⟨?_, hs1.keep⟩; rw [if_neg (by simp only [*]; decide), if_neg (by omega), if_neg (by simp only [*]; decide), if_neg (by omega)]; rfl
theorem er_l (l : Bool) (b : BS) (p : Pl) (xs : List ItL) : (ItL.er (.mk l b p xs)).l = l := by rw [ItL.er]; rfl
theorem er_b (l : Bool) (b : BS) (p : Pl) (xs : List ItL) : (ItL.er (.mk l b p xs)).b = b := by rw [ItL.er]; rfl
theorem er_xs (l : Bool) (b : BS) (p : Pl) (xs : List ItL) : (ItL.er (.mk l b p xs)).xs = xs.map ItL.er := by rw [ItL.er]; rfl
def JZ (it : It) (lo hi : Int) : BS × Int := (if it.l = true then [] else if W1 it.b.length lo hi ≠ 0 then [] else it.b, if it.l = true then 2 else if W1 it.b.length lo hi ≠ 0 then W1 it.b.length lo hi else 0)
theorem zJ {lo hi : Int} {r4 r5 : Nat} (b : BS) : PureR Tryz.prog 115 (Jq b :: [Kw r4, Kw r5]).toArray (.tuple #[Jq b, .int .i64 (W1 b.length lo hi)]) [(r5, .cells #[.int .i64 hi] 3 (0, 0)), (r4, .cells #[.int .i64 lo] 3 (0, 0))] := by
 refine Jz Tryz.func115 rfl rfl fun w => ?_; refine sR fun _ hK1 => ?_; refine Jb rfl (Jb rfl ?_); refine nK hK1 ?_; refine sR fun _ hK2 => ?_; refine Jb rfl (Jb rfl (LR rfl (JI rfl rfl) ?_)); refine LR rfl (Jc rfl (Kg (k := 1) rfl) rfl rfl) ?_; refine LR rfl (Jc rfl (Kg (k := 0) rfl) rfl rfl) ?_; refine JC rfl rfl rfl (enters_of Tryz.func113 (by kernel_rfl) rfl) (yv _ _ _) ?_; refine Jb rfl (Jb rfl ?_); refine nK hK2 ?_; refine Jd ?_; refine Jp rfl rfl (.cons (Jk rfl) (.cons (Jk rfl) .nil)) (fun w1 hs1 => ?_); exact ⟨rfl, hs1.keep⟩
theorem Zf {R : Jy} (t : ItL) (lo hi : Int) : PureR Tryz.prog 45 [t.val, .int .i64 lo, .int .i64 hi].toArray (.tuple #[Jq (JZ t.er lo hi).1, .int .i64 (JZ t.er lo hi).2]) R := by
 obtain ⟨l, b, p, xs⟩ := t
 unfold JZ
 rw [er_l, er_b]; refine Jz Tryz.func45 rfl rfl fun w => ?_; refine sR fun _ hK1 => ?_; refine JX (cs := List.toArray ([.bool l, Jq b, Ky xs.length p])) rfl rfl rfl rfl fun r0 => ?_; refine JX (cs := List.toArray ([.int .i64 lo])) rfl rfl rfl rfl fun r4 => ?_; refine JX (cs := List.toArray ([.int .i64 hi])) rfl rfl rfl rfl fun r5 => ?_; refine Jb rfl (Jb rfl ?_); refine nK hK1 ?_; refine sR fun _ hK2 => ?_; refine LR rfl (Jm (xs := [.bool l, Jq b, Ky xs.length p]) (n := 3) rfl (kn 2 rfl) rfl rfl rfl) ?_; refine LR rfl (JQ rfl rfl) ?_; refine J4 rfl rfl rfl (enters_of Tryz.func114 (by kernel_rfl) rfl) (Jay (r := b) (enters_of Tryz.func115 (by kernel_rfl) rfl) (zJ (r4 := r4) (r5 := r5) (lo := lo) (hi := hi) b)) (fun q hq => Or.inl (List.mem_append_left [_] hq)) ?_; refine LR rfl (Jf rfl rfl) ?_; refine LR rfl (Jf rfl rfl) ?_; refine Jb rfl (Jb rfl ?_); refine nK hK2 ?_; refine Jd ?_; refine Jp rfl rfl (.cons (Jk rfl) (.cons (Jk rfl) .nil)) (fun w1 hs1 => ?_); exact ⟨rfl, hs1.keep⟩
def KV (it : It) : Nat × Int := (if it.l = true then 0 else if (Xu it.b).2 ≠ 0 then 0 else (Xu it.b).1, if it.l = true then 2 else if (Xu it.b).2 ≠ 0 then (Xu it.b).2 else 0)
theorem Zw {R : Jy} (t : ItL) : PureR Tryz.prog 47 [t.val].toArray (.tuple #[uV (KV t.er).1, .int .i64 (KV t.er).2]) R := by
 obtain ⟨l, b, p, xs⟩ := t
 unfold KV
 rw [er_l, er_b]
 have hp := (zy b).toR (R := R)
 refine Jz Tryz.func47 rfl rfl fun w => ?_; refine sR fun _ hK1 => ?_; refine JX (cs := List.toArray ([.bool l, Jq b, Ky xs.length p])) rfl rfl rfl rfl fun r0 => ?_; refine Jb rfl (Jb rfl ?_); refine nK hK1 ?_; refine sR fun _ hK2 => ?_; refine LR rfl (Jm (xs := [.bool l, Jq b, Ky xs.length p]) (n := 3) rfl (kn 0 rfl) rfl rfl rfl) ?_; refine J4 rfl rfl rfl (enters_of Tryz.func116 (by kernel_rfl) rfl) (Jja (caps := []) (enters_of Tryz.func117 (by kernel_rfl) rfl) hp) oR ?_; refine LR rfl (Jf rfl rfl) ?_; refine LR rfl (Jf rfl rfl) ?_; refine Jb rfl (Jb rfl ?_); refine nK hK2 ?_; refine Jd ?_; refine Jp rfl rfl (.cons (Jk rfl) (.cons (Jk rfl) .nil)) (fun w1 hs1 => ?_); exact ⟨rfl, hs1.keep⟩
def XO (b : BS) : BS × Int := if b ≠ [] ∧ b.length ≠ 20 then ([], 2) else (b, 0)
theorem zK (b : BS) : Pure Tryz.prog 207 [Jq b].toArray (.tuple #[Jq (XO b).1, .int .i64 (XO b).2]) := by
  refine JF Tryz.func207 rfl rfl fun w => ?_; refine sR fun _ hK1 => ?_; refine Jb rfl (Jb rfl ?_); refine nK hK1 ?_; refine sQ fun _ hK2 => ?_; refine sR fun _ hK3 => ?_; refine Jb rfl (LR rfl (ZH rfl rfl) (Jb rfl ?_))
  refine JM 6 rfl (fun gb => ?_) (fun gb => ?_) <;> (try simp only [ZZ] at gb) <;> first | (refine Jb rfl ?_) | (refine LK rfl ?_)
  all_goals first | refine LR rfl (JI rfl rfl) ?_ | refine LK rfl ?_
  all_goals first | refine J2 rfl ?_ | refine LK rfl ?_
  all_goals first | refine LR rfl (Jx rfl rfl) ?_ | refine LR rfl (J5 rfl rfl) ?_
  all_goals (
   refine Jt (hK3 ?_); refine Jl rfl (fun g => ?_) (fun g => ?_)
   · try exact Bool.noConfusion g
     all_goals try simp only [ZZ] at g
     all_goals (
      refine sR fun _ hK8 => ?_; refine Jb rfl (Jb rfl ?_); refine nK hK8 ?_; refine Jd (Ji ?_); refine Jp rfl rfl (.cons (Jk rfl) (.cons (Jk rfl) .nil)) (fun w1 hs1 => ?_); refine ⟨?_, hs1.keep⟩
      unfold XO
      rw [if_pos ⟨by assumption, by omega⟩]; rfl
      skip)
   try simp only [ZZ] at g
   refine Jg (hK2 ?_); refine sR fun _ hK9 => ?_; refine Jb rfl (Jb rfl (Jb rfl ?_)); refine nK hK9 ?_; refine Jd ?_; refine Jp rfl rfl (.cons (Jk rfl) (.cons (Jk rfl) .nil)) (fun w1 hs1 => ?_); refine ⟨?_, hs1.keep⟩
   unfold XO
   rw [if_neg (by rintro ⟨h1, h2⟩; first | exact h1 (by assumption) | omega)]; rfl
   skip)
def jA (it : It) : BS × Int := (if it.l = true then [] else if (XO it.b).2 ≠ 0 then [] else (XO it.b).1, if it.l = true then 2 else if (XO it.b).2 ≠ 0 then (XO it.b).2 else 0)
theorem Jch {R : Jy} (t : ItL) : PureR Tryz.prog 120 [t.val].toArray (.tuple #[Jq (jA t.er).1, .int .i64 (jA t.er).2]) R := by
 obtain ⟨l, b, p, xs⟩ := t
 unfold jA
 rw [er_l, er_b]
 have hp := (zK b).toR (R := R)
 refine Jz Tryz.func120 rfl rfl fun w => ?_; refine sR fun _ hK1 => ?_; refine JX (cs := List.toArray ([.bool l, Jq b, Ky xs.length p])) rfl rfl rfl rfl fun r0 => ?_; refine Jb rfl (Jb rfl ?_); refine nK hK1 ?_; refine sR fun _ hK2 => ?_; refine LR rfl (Jm (xs := [.bool l, Jq b, Ky xs.length p]) (n := 3) rfl (kn 0 rfl) rfl rfl rfl) ?_; refine J4 rfl rfl rfl (enters_of Tryz.func114 (by kernel_rfl) rfl) (Jay (caps := []) (enters_of Tryz.func207 (by kernel_rfl) rfl) hp) oR ?_; refine LR rfl (Jf rfl rfl) ?_; refine LR rfl (Jf rfl rfl) ?_; refine Jb rfl (Jb rfl ?_); refine nK hK2 ?_; refine Jd ?_; refine Jp rfl rfl (.cons (Jk rfl) (.cons (Jk rfl) .nil)) (fun w1 hs1 => ?_); exact ⟨rfl, hs1.keep⟩
def Qi (it : It) (lo hi : Int) : Int := if it.l ≠ true then 2 else if W1 it.xs.length lo hi ≠ 0 then W1 it.xs.length lo hi else 0
theorem WI {R : Jy} {t : ItL} (ht : t.In R) (lo hi : Int) : PureR Tryz.prog 42 [t.val, .int .i64 lo, .int .i64 hi].toArray (.tuple #[if Qi t.er lo hi = 0 then Ky t.xs.length t.p else .slice none 0 0, .int .i64 (Qi t.er lo hi)]) R := by
 have hs := ht.seg
 obtain ⟨l, b, p, xs⟩ := t
 simp only [ItL.xs, ItL.p] at hs ⊢
 have hx : (xs.map ItL.er).length = xs.length := List.length_map _
 unfold Qi
 rw [er_l, er_xs, hx]; refine Jz Tryz.func42 rfl rfl fun w => ?_; refine sR fun _ hK1 => ?_; refine JX (cs := List.toArray ([.bool l, Jq b, Ky xs.length p])) rfl rfl rfl rfl fun r0 => ?_; refine Jb rfl (Jb rfl ?_); refine nK hK1 ?_; refine sQ fun _ hK2 => ?_; refine sR fun _ hK3 => ?_
 refine LR rfl (Ja rfl rfl (by first | (simp only [Nat.zero_add, Nat.reduceAdd, Nat.reduceMul, Nat.zero_mul, Nat.mul_one, Nat.add_zero]; exact rfl) | exact rfl)) ?_; refine LR rfl (Jc rfl (kn 0 rfl) rfl rfl) ?_; refine J2 rfl ?_; refine nK hK3 ?_; refine cD (fun g => ?_) fun g => ?_
 refine sR fun _ hK5 => ?_; refine Jb rfl (Jb rfl ?_); refine nK hK5 ?_; refine Jd (Ji ?_); refine Jp rfl rfl (.cons (Jk rfl) (.cons (Jk rfl) .nil)) (fun w1 hs1 => ?_); refine ⟨?_, hs1.keep⟩
 (have hG : (if l ≠ true then (2 : Int) else if W1 (xs.length : Int) lo hi ≠ 0 then W1 (xs.length : Int) lo hi else 0) = 2 := by rw [if_pos (by simp only [*]; decide)]
  rw [hG]; rfl)
 ·refine Jg (hK2 ?_); refine sQ fun _ hK6 => ?_; refine sR fun _ hK7 => ?_
  refine LR rfl (Ja rfl rfl (by first | (simp only [Nat.zero_add, Nat.reduceAdd, Nat.reduceMul, Nat.zero_mul, Nat.mul_one, Nat.add_zero]; exact rfl) | exact rfl)) ?_; refine LR rfl (Jc rfl (kn 0 rfl) rfl rfl) ?_; refine LR rfl (JJ rfl hs rfl) ?_; refine Jb rfl (Jb rfl (JC rfl rfl rfl (enters_of Tryz.func113 (by kernel_rfl) rfl) (yv _ _ _) ?_)); refine Jb rfl ?_; refine nK hK7 ?_; refine sR fun _ hK8 => ?_; refine Jb rfl (J2 rfl ?_); refine nK hK8 ?_; refine cD (fun g => ?_) fun g => ?_
  refine sR fun _ hK10 => ?_; refine Jb rfl (Jb rfl (Jb rfl ?_)); refine nK hK10 ?_; refine Jd (Ji ?_); refine Jp rfl rfl (.cons (Jk rfl) (.cons (Jk rfl) .nil)) (fun w1 hs1 => ?_); refine ⟨?_, hs1.keep⟩
  (have hG : (if l ≠ true then (2 : Int) else if W1 (xs.length : Int) lo hi ≠ 0 then W1 (xs.length : Int) lo hi else 0) = W1 (xs.length : Int) lo hi := by rw [if_neg (by simp only [*]; decide), if_pos (by assumption)]
   rw [hG, if_neg (by assumption)]; rfl)
  ·refine Jg (hK6 ?_); refine sR fun _ hK11 => ?_
   refine LR rfl (Ja rfl rfl (by first | (simp only [Nat.zero_add, Nat.reduceAdd, Nat.reduceMul, Nat.zero_mul, Nat.mul_one, Nat.add_zero]; exact rfl) | exact rfl)) ?_; refine LR rfl (Jc rfl (kn 0 rfl) rfl rfl) ?_; refine Jb rfl (Jb rfl ?_); refine nK hK11 ?_; refine Jd ?_; refine Jp rfl rfl (.cons (Jk rfl) (.cons (Jk rfl) .nil)) (fun w1 hs1 => ?_); refine ⟨?_, hs1.keep⟩
   (have hG : (if l ≠ true then (2 : Int) else if W1 (xs.length : Int) lo hi ≠ 0 then W1 (xs.length : Int) lo hi else 0) = 0 := by rw [if_neg (by simp only [*]; decide), if_neg (by omega)]
    rw [hG, if_pos rfl]; rfl)
def wPV (ws : List Nat) : Value := .agg (ws.map uV).toArray
theorem w4 {ws : List Nat} (h : ws.length = 4) : ∃ a b c d, ws = [a, b, c, d] := by
 match ws, h with
 | [a, b, c, d], _ => exact ⟨a, b, c, d, rfl⟩
theorem Jga {R : Jy} {l : Bool} {b : BS} {p : Pl} {xs : List ItL} {g : FuncId} {caps : List Value} {r : List Nat} {e : Int} (hr4 : r.length = 4) (eg : Enters Tryz.prog g) (hg : PureR Tryz.prog g (Jq b :: caps).toArray (.tuple #[wPV r, .int .i64 e]) R) :
  PureR Tryz.prog 208 [ItL.val (.mk l b p xs), .func (.func g) #[] caps.toArray].toArray (.tuple #[wPV (if l = true then [0, 0, 0, 0] else if e ≠ 0 then [0, 0, 0, 0] else r), .int .i64 (if l = true then 2 else if e ≠ 0 then e else 0)]) R := by
 obtain ⟨a1, a2, a3, a4, rfl⟩ := w4 hr4
 refine Jz Tryz.func208 rfl rfl fun w => ?_; refine sR fun _ hK1 => ?_; refine JX (cs := List.toArray ([.bool l, Jq b, Ky xs.length p])) rfl rfl rfl rfl fun r0 => ?_; refine LN rfl fun r1 => ?_; refine Jb rfl ?_; refine nK hK1 ?_; refine sR fun _ hK2 => ?_; refine LN rfl fun r2 => ?_; refine nK hK2 ?_; refine sQ fun _ hK3 => ?_; refine sR fun _ hK4 => ?_
 refine LR rfl (Ja rfl rfl (by first | (simp only [Nat.zero_add, Nat.reduceAdd, Nat.reduceMul, Nat.zero_mul, Nat.mul_one, Nat.add_zero]; exact rfl) | exact rfl)) ?_; refine LR rfl (Jc rfl (kn 2 rfl) rfl rfl) ?_; refine nK hK4 ?_; refine cD (fun h5 => ?_) fun h5 => ?_
 refine sR fun _ hK6 => ?_; refine LR rfl (JT (vs := [_, _, _, _]) rfl (kn 0 rfl) rfl rfl rfl rfl) ?_
 refine Jv (k := 1) (n := 4) (cs' := #[_, _, _, _]) (vs := #[_, _, _, _]) rfl rfl rfl rfl rfl rfl rfl (by exact Nat.le_of_ble_eq_true rfl) rfl (by first | (simp only [List.set_cons_zero, List.set_cons_succ]; exact rfl) | exact rfl) ?_; refine Jb rfl ?_; refine nK hK6 ?_; refine Jd (Ji ?_); refine Jp rfl rfl (.cons (J0 (vs := [_, _, _, _]) rfl (kn 1 rfl) rfl rfl) (.cons (Jk rfl) .nil)) (fun w1 hs1 => ?_); refine ⟨?_, hs1.keep⟩; rw [if_pos (by assumption), if_pos (by assumption)]; rfl
 ·refine Jg (hK3 ?_); refine sR fun _ hK7 => ?_; refine Jb rfl ?_
  refine LR rfl (Ja rfl rfl (by first | (simp only [Nat.zero_add, Nat.reduceAdd, Nat.reduceMul, Nat.zero_mul, Nat.mul_one, Nat.add_zero]; exact rfl) | exact rfl)) ?_; refine LR rfl (Jc rfl (kn 2 rfl) rfl rfl) ?_; refine J4 rfl rfl rfl eg hg oR ?_; refine Jb rfl (LR rfl (Jf rfl rfl) (LR rfl (Jf rfl rfl) ?_)); refine LN rfl fun r3 => ?_
  refine Jv (k := 0) (n := 4) (cs' := #[_, _, _, _]) (vs := #[_, _, _, _]) rfl rfl rfl rfl rfl rfl rfl (by exact Nat.le_of_ble_eq_true rfl) rfl (by first | (simp only [List.set_cons_zero, List.set_cons_succ]; exact rfl) | exact rfl) ?_; refine Jb rfl ?_; refine nK hK7 ?_; refine sQ fun _ hK8 => ?_; refine sR fun _ hK9 => ?_; refine Jb rfl (J2 rfl ?_); refine nK hK9 ?_; refine cD (fun h10 => ?_) fun h10 => ?_
  refine sR fun _ hK11 => ?_; refine LR rfl (JT (vs := [_, _, _, _]) rfl (kn 1 rfl) rfl rfl rfl rfl) ?_; refine Jb rfl ?_
  refine Jv (k := 2) (n := 4) (cs' := #[_, _, _, _]) (vs := #[_, _, _, _]) rfl rfl rfl rfl rfl rfl rfl (by exact Nat.le_of_ble_eq_true rfl) rfl (by first | (simp only [List.set_cons_zero, List.set_cons_succ]; exact rfl) | exact rfl) ?_; refine Jb rfl ?_; refine nK hK11 ?_; refine Jd (Ji ?_); refine Jp rfl rfl (.cons (J0 (vs := [_, _, _, _]) rfl (kn 2 rfl) rfl rfl) (.cons (Jk rfl) .nil)) (fun w1 hs1 => ?_); refine ⟨?_, hs1.keep⟩; rw [if_neg (by simp only [*]; decide), if_pos (by assumption), if_neg (by simp only [*]; decide), if_pos (by assumption)]; rfl
  ·refine Jg (hK8 ?_); refine sR fun _ hK12 => ?_; refine LR rfl (JT (vs := [_, _, _, _]) rfl (kn 0 rfl) rfl rfl rfl rfl) ?_
   refine Jv (k := 2) (n := 4) (cs' := #[_, _, _, _]) (vs := #[_, _, _, _]) rfl rfl rfl rfl rfl rfl rfl (by exact Nat.le_of_ble_eq_true rfl) rfl (by first | (simp only [List.set_cons_zero, List.set_cons_succ]; exact rfl) | exact rfl) ?_; refine Jb rfl ?_; refine nK hK12 ?_; refine Jd ?_; refine Jp rfl rfl (.cons (J0 (vs := [_, _, _, _]) rfl (kn 2 rfl) rfl rfl) (.cons (Jk rfl) .nil)) (fun w1 hs1 => ?_); refine ⟨?_, hs1.keep⟩; rw [if_neg (by simp only [*]; decide), if_neg (by omega), if_neg (by simp only [*]; decide), if_neg (by omega)]; rfl
theorem zM {R : Jy} {l : Bool} {b : BS} {p : Pl} {xs : List ItL} {r : List Nat} {e : Int} (hr4 : r.length = 4) (hp : PureR Tryz.prog 203 (Jq b :: []).toArray (.tuple #[wPV r, .int .i64 e]) R) :
  PureR Tryz.prog 122 [ItL.val (.mk l b p xs)].toArray (.tuple #[wPV (if l = true then [0, 0, 0, 0] else if e ≠ 0 then [0, 0, 0, 0] else r), .int .i64 (if l = true then 2 else if e ≠ 0 then e else 0)]) R := by
 obtain ⟨z, hz⟩ : ∃ z, (if l = true then [0, 0, 0, 0] else if e ≠ 0 then [0, 0, 0, 0] else r) = z := ⟨_, rfl⟩
 have hz4 : z.length = 4 := by rw [← hz]; split <;> (try split) <;> first | rfl | exact hr4
 have hof := Jga (l := l) (p := p) (xs := xs) (caps := []) hr4 (enters_of Tryz.func203 (by kernel_rfl) rfl) hp
 rw [hz] at hof ⊢
 obtain ⟨a1, a2, a3, a4, rfl⟩ := w4 hz4
 refine Jz Tryz.func122 rfl rfl fun w => ?_; refine sR fun _ hK1 => ?_; refine JX (cs := List.toArray ([.bool l, Jq b, Ky xs.length p])) rfl rfl rfl rfl fun r0 => ?_; refine LN rfl fun r1 => ?_; refine Jb rfl ?_; refine nK hK1 ?_; refine sR fun _ hK2 => ?_; refine LR rfl (Jm (xs := [.bool l, Jq b, Ky xs.length p]) (n := 3) rfl (kn 1 rfl) rfl rfl rfl) ?_; refine J4 rfl rfl rfl (enters_of Tryz.func208 (by kernel_rfl) rfl) hof oR ?_; refine LR rfl (Jf rfl rfl) ?_; refine LR rfl (Jf rfl rfl) ?_
 refine Jv (k := 0) (n := 4) (cs' := #[_, _, _, _]) (vs := #[_, _, _, _]) rfl rfl rfl rfl rfl rfl rfl (by exact Nat.le_of_ble_eq_true rfl) rfl (by first | (simp only [List.set_cons_zero, List.set_cons_succ]; exact rfl) | exact rfl) ?_; refine Jb rfl ?_; refine nK hK2 ?_; refine Jd ?_; refine Jp rfl rfl (.cons (J0 (vs := [_, _, _, _]) rfl (kn 0 rfl) rfl rfl) (.cons (Jk rfl) .nil)) (fun w1 hs1 => ?_); exact ⟨rfl, hs1.keep⟩
def Zh (lo hi : Int) : List It → Int
 | [] => 0
 | x :: r => if (JZ x lo hi).2 ≠ 0 then (JZ x lo hi).2 else Zh lo hi r
def KJ (it : It) (many lo hi : Int) : List BS × Int := if Qi it 0 many ≠ 0 then ([], Qi it 0 many) else if Zh lo hi it.xs ≠ 0 then ([], Zh lo hi it.xs) else (it.xs.map It.b, 0)
theorem Jgb {it : It} {lo hi : Int} (h : (JZ it lo hi).2 = 0) : (JZ it lo hi).1 = it.b := by
 unfold JZ at h ⊢
 by_cases h1 : it.l = true
 ·simp only [if_pos h1] at h; cases h
 ·simp only [if_neg h1] at h ⊢
  by_cases h2 : W1 it.b.length lo hi ≠ 0
  ·rw [if_pos h2] at h; exact absurd h h2
  ·rw [if_neg h2]
theorem Jgc {xs : List ItL} {i : Nat} {y : ItL} (h : xs[i]? = some y) : ((xs.take i).map fun x => Jq x.b) ++ [Jq y.b] = (xs.take (i + 1)).map fun x => Jq x.b := by
 rw [List.take_add_one, h, Option.toList_some, List.map_append]; rfl
theorem Jaz {xs : List ItL} {i : Nat} {y : ItL} (h : xs[i]? = some y) : (xs.drop i).map ItL.er = y.er :: (xs.drop (i + 1)).map ItL.er := by
 obtain ⟨hl, he⟩ := List.getElem?_eq_some_iff.1 h
 rw [List.drop_eq_getElem_cons hl, he, List.map_cons]
structure TxI (xs : List ItL) (lo hi : Int) (i : Nat) (row : QH) : Prop where
  le : i ≤ xs.length
  row : rowOk 1 i ((xs.take i).map fun x => Jq x.b) row
  dr : Zh lo hi (xs.map ItL.er) = Zh lo hi ((xs.drop i).map ItL.er)
theorem zN {R : Jy} {t : ItL} (ht : t.In R) (many lo hi : Int) :
  PureT (α := { row : QH // rowOk 1 (KJ t.er many lo hi).1.length ((KJ t.er many lo hi).1.map Jq) row }) Tryz.prog 48 [t.val, .int .i64 many, .int .i64 lo, .int .i64 hi].toArray (fun y => .tuple #[JO (KJ t.er many lo hi).1.length y.1, .int .i64 (KJ t.er many lo hi).2]) [] (fun y => Kk 9 ((KJ t.er many lo hi).1.map Jq) y.1) R := by
 have hgl := WI ht 0 many
 refine J1 Tryz.func48 rfl rfl fun w => ?_
 by_cases hG : Qi t.er 0 many = 0
 ·rw [if_pos hG, hG] at hgl
  have hs := ht.seg
  have hxl := ht.hl
  have hsub := ht.sub
  have hT : KJ t.er many lo hi = if Zh lo hi t.er.xs ≠ 0 then ([], Zh lo hi t.er.xs) else (t.er.xs.map It.b, 0) := by unfold KJ; rw [if_neg (by omega)]
  rw [hT, ItL.er_xs]
  obtain ⟨p, hp⟩ : ∃ p, t.p = p := ⟨_, rfl⟩
  obtain ⟨xs, hx⟩ : ∃ xs, t.xs = xs := ⟨_, rfl⟩
  rw [hp, hx] at hgl; rw [hp, hx] at hs; rw [hx] at hxl hsub ⊢; refine sR fun _ hK1 => ?_; refine JX (cs := List.toArray (t.cells)) rfl rfl rfl rfl fun r0 => ?_; refine Jb rfl (Jb rfl ?_); refine nK hK1 ?_; refine sR fun _ hK2 => ?_; refine LR rfl (Jm (xs := t.cells) (n := 3) rfl (kn 0 rfl) rfl rfl (ItL.len t)) ?_; refine Jb rfl (J4 rfl rfl rfl Jb8 hgl oR ?_); refine Jb rfl (LR rfl (Jf rfl rfl) (LR rfl (Jf rfl rfl) ?_)); refine Jb rfl (Jb rfl ?_); refine nK hK2 ?_; refine sR fun _ hK3 => ?_; refine Jb rfl ?_; refine nK hK3 ?_; refine sQ fun _ hK4 => ?_; refine sR fun _ hK5 => ?_; refine Jb rfl (LR rfl (JJ rfl hs rfl) (Jb rfl ?_)); refine nK hK5 ?_; refine J3 (JS (σ := Nat × QH) (fun z => TxI xs lo hi z.1 z.2) (fun z => [(2, .int .i64 lo), (3, .int .i64 hi), (11, .int .i64 0), (12, JO z.1 z.2), (23, Ky xs.length p), (24, .int .i64 (xs.length : Int)), (25, .int .i64 (z.1 : Int))]) (fun z => Kk 9 ((xs.take z.1).map fun x => Jq x.b) z.2) (fun _ _ _ => True) (fun z => xs.length - z.1) (0, none) ⟨Nat.zero_le _, ⟨rfl, rfl⟩, rfl⟩ (lK rfl) (List.nil_sublist _) (fun _ _ h => h) ?_); rintro ⟨i, row⟩ hI
  obtain ⟨hi1, hrow, hdr⟩ := hI
  simp only at hi1 hrow hdr; refine sR fun _ hK6 => ?_; refine J2 rfl ?_; refine nK hK6 ?_; refine sQ fun _ hK7 => ?_; refine Jl rfl (fun h8 => ?_) (fun h8 => ?_)
  ·try simp only [ZZ] at h8
   refine Jg (hK7 ?_); refine sB fun _ hK9 => ?_; refine sQ fun _ hK10 => ?_
   obtain ⟨y, hy, hmy⟩ := QA (show i < xs.length by omega)
   refine Je ?_
   refine LR rfl (JB (j := i) rfl hs rfl rfl rfl (by first | rfl | omega) (by omega)) ?_; refine LR rfl (Kt ItL.len oR rfl hs hy rfl rfl) ?_; refine LN rfl fun rx => ?_; refine Js (k := 0) (n := 3) (ys := y.cells) rfl rfl rfl rfl rfl (ItL.len y) rfl (ItL.one y) rfl ?_; refine nK hK10 ?_; refine sR fun _ hK11 => ?_; refine LR rfl (Jm (xs := y.cells) (n := 3) rfl (kn 0 rfl) rfl rfl (ItL.len y)) ?_; refine Jb rfl (Jb rfl (J4 rfl rfl rfl Jl0 (Zf (R := []) y lo hi) oN ?_)); refine Jb rfl (LR rfl (Jf rfl rfl) (LR rfl (Jf rfl rfl) ?_)); refine Jb rfl (Jb rfl ?_); refine nK hK11 ?_; refine sQ fun _ hK12 => ?_; refine sR fun _ hK13 => ?_; refine Jb rfl (J2 rfl ?_); refine nK hK13 ?_; refine cD (fun g => ?_) fun g => ?_
   refine sR fun _ hK15 => ?_; refine Jb rfl (Jb rfl (Jb rfl ?_)); refine nK hK15 ?_; refine Jd (Ji ?_); refine Jr (Ji ?_); refine Ji (Jr (Ji ?_)); refine Jp rfl rfl (.cons (Jk rfl) (.cons (Jk rfl) .nil)) (fun w1 hs1 => ?_)
   (have h9 : Zh lo hi (xs.map ItL.er) = (JZ y.er lo hi).2 := by rw [hdr, Jaz hy, Zh, if_pos (by assumption)]
    rw [h9, if_pos (by assumption)]
    exact ⟨⟨none, ⟨rfl, rfl⟩⟩, rfl, hs1.weakL (List.nil_sublist _)⟩)
   ·refine Jg (hK12 ?_); refine Je (Jb rfl ?_); refine Jb rfl (JA (show _ = Jq y.b from by rw [Jgb (by assumption), ItL.er_b]) ?_); refine JV (n := 1) (sz := 1) (vs := [_]) (zs := [_]) (r := [_]) rfl rfl rfl rfl rfl rfl rfl rfl rfl (by show (madeCells #[_] _).toList = _; rw [KA]; exact rfl) rfl fun rb => ?_; refine Kh (L0 := [(rb, _), (rx, _)]) (xs := (xs.take i).map fun x => Jq x.b) (row := row) (n := i) (sz := 1) (b := 16) (news := [Jq y.b]) (List.perm_append_comm (l₁ := [_, _])) rfl rfl rfl rfl (kn 0 rfl) rfl rfl rfl rfl rfl (by decide) rfl rfl rfl (by decide) hrow (by omega) (by omega) fun ra cap sp hra => ?_; refine Jb rfl (Jt ?_); refine Jo (hK9 ?_); refine Je ?_
    refine J2 rfl ?_; refine JA (show _ = Value.int .i64 ((i + 1 : Nat) : Int) from by rw [wrap_i64 (by omega) (by omega)]; congr 1 <;> omega) ?_; refine Jb rfl (Jt (JU ?_)); rw [Jgc hy] at hra; exact JN (i + 1, some (ra, cap, sp)) ⟨by simp only; omega, hra, by rw [hdr, Jaz hy, Zh, if_neg (by omega)]⟩ (by simp only; omega) (lK rfl) (by rw [← Jgc hy]; exact .cons_cons _ (List.nil_sublist _)) (fun _ _ h => h)
  try simp only [ZZ] at h8
  refine JL (Jn ?_); refine Jn (J8 (hK4 ?_)); refine sR fun _ hK16 => ?_; refine Jb rfl (Jb rfl ?_); refine Jb rfl (Jb rfl ?_); refine nK hK16 ?_; refine Jd ?_; refine Jp rfl rfl (.cons (Jk rfl) (.cons (Jk rfl) .nil)) (fun w1 hs1 => ?_)
  (have hiM : i = xs.length := by omega
   have h9 : Zh lo hi (xs.map ItL.er) = 0 := by rw [hdr, hiM, List.drop_length]; rfl
   have hm : ((xs.map ItL.er).map It.b).map Jq = xs.map fun x => Jq x.b := by simp [ItL.er_b, Function.comp_def]
   have hl : ((xs.map ItL.er).map It.b).length = xs.length := by simp
   rw [h9, if_neg (by simp)]; rw [hiM, List.take_length] at hrow hs1
   exact ⟨⟨row, by rw [hm, hl]; exact hrow⟩, congrArg (fun n => Ending.returned (Value.tuple #[JO n row, Value.int IntKind.i64 0])) (hiM.trans hl.symm), (show St _ (Kk _ (List.map Jq (List.map It.b (List.map ItL.er xs))) row) _ _ by rw [hm]; exact hs1)⟩)
 ·rw [if_neg hG] at hgl
  have hT : KJ t.er many lo hi = ([], Qi t.er 0 many) := by unfold KJ; rw [if_pos hG]
  rw [hT]; refine sR fun _ hK1 => ?_; refine JX (cs := List.toArray (t.cells)) rfl rfl rfl rfl fun r0 => ?_; refine Jb rfl (Jb rfl ?_); refine nK hK1 ?_; refine sR fun _ hK2 => ?_; refine LR rfl (Jm (xs := t.cells) (n := 3) rfl (kn 0 rfl) rfl rfl (ItL.len t)) ?_; refine Jb rfl (J4 rfl rfl rfl Jb8 hgl oR ?_); refine Jb rfl (LR rfl (Jf rfl rfl) (LR rfl (Jf rfl rfl) ?_)); refine Jb rfl (Jb rfl ?_); refine nK hK2 ?_; refine sR fun _ hK3 => ?_; refine Jb rfl ?_; refine nK hK3 ?_; refine sQ fun _ hK4 => ?_; refine sR fun _ hK5 => ?_; refine Jb rfl (LR rfl (KD rfl rfl) (Jb rfl ?_)); refine nK hK5 ?_; refine J3 (JS (σ := Unit) (fun _ => True) (fun _ => [(11, .int .i64 (Qi t.er 0 many)), (12, .slice none 0 0), (24, .int .i64 0), (25, .int .i64 0)]) (fun _ => []) (fun _ _ _ => True) (fun _ => 0) () trivial (lK rfl) (List.nil_sublist _) (fun _ _ h => h) ?_); rintro u _; refine sR fun _ hK6 => ?_; refine J2 rfl ?_; refine nK hK6 ?_; refine sQ fun _ hK7 => ?_; refine Jl rfl (fun h8 => ?_) (fun h8 => ?_)
  exact absurd h8 ((by decide))
  ·try simp only [ZZ] at h8
   refine JL (Jn ?_); refine Jn (J8 (hK4 ?_)); refine sR fun _ hK9 => ?_; refine Jb rfl (Jb rfl ?_); refine Jb rfl (Jb rfl ?_); refine nK hK9 ?_; refine Jd ?_; refine Jp rfl rfl (.cons (Jk rfl) (.cons (Jk rfl) .nil)) (fun w1 hs1 => ?_); exact ⟨⟨none, ⟨rfl, rfl⟩⟩, rfl, hs1.weakL (List.nil_sublist _)⟩
structure BaE where
  parent : BS
  epoch : Nat
  hash : BS
  time : Nat
  txs : List BS
def Ws (b : BaE) : Int := if b.parent.length ≠ 32 ∨ b.hash.length ≠ 32 ∨ (b.txs.any fun x => decide ([] = x)) = true then 2 else if 32 < b.txs.length ∨ (b.txs.any fun x => decide ((x.length : Int) > 4096)) = true then 5 else 0
def Wg (b : BaE) : It := KG [Ki b.parent, Qk b.epoch, Ki b.hash, Qk b.time, QZ b.txs]
theorem Jci (s : BS) : Pure Tryz.prog 108 [Jq s].toArray (.bool (decide ((s.length : Int) > 4096))) := by
 refine JF Tryz.func108 rfl rfl fun w => ?_; refine sR fun _ hK1 => ?_; refine Jb rfl ?_; refine nK hK1 ?_; refine sR fun _ hK2 => ?_; refine Jb rfl (LR rfl (JI rfl rfl) ?_); refine J2 rfl (Jb rfl ?_); refine nK hK2 ?_; refine Jd ?_; refine pT rfl rfl rfl fun w1 hs1 => ?_; exact ⟨rfl, hs1.keep⟩
structure BaL where
  parent : BS
  epoch : Nat
  hash : BS
  time : Nat
  p : Pl
  txs : List BS
def BaL.cells (b : BaL) : List Value := [Jq b.parent, uV b.epoch, Jq b.hash, uV b.time, Ky b.txs.length b.p]
def BaL.val (b : BaL) : Value := .agg b.cells.toArray
def BaL.er (b : BaL) : BaE := ⟨b.parent, b.epoch, b.hash, b.time, b.txs⟩
structure BaL.In (R : Jy) (b : BaL) : Prop where
  len : b.txs.length ≤ 9223372036854775807
  seg : Seg R b.txs.length (KN b.txs) b.p
theorem Jgd {R : Jy} {xs : List BS} {p : Pl} (v : BS) (hl : xs.length ≤ 9223372036854775807) (hs : Seg R xs.length (KN xs) p) :
  PureR Tryz.prog 198 [Ky xs.length p, Jq v].toArray (.int .i64 (jO (fun x => decide (v = x)) xs)) R := by
 refine Jz Tryz.func198 rfl rfl fun w => ?_; refine sR fun _ hK1 => ?_; refine Jb rfl ?_; refine nK hK1 ?_; refine sQ fun _ hK2 => ?_; refine sR fun _ hK3 => ?_; refine Jb rfl (LR rfl (JJ rfl hs rfl) (Jb rfl ?_)); refine nK hK3 ?_; refine J3 ?_; refine JS (σ := Nat) (fun i => i ≤ xs.length ∧ ∀ j, j < i → ∀ y, xs[j]? = some y → decide (v = y) = false) (fun i => [(0, Ky xs.length p), (1, Jq v), (7, .int .i64 (xs.length : Int)), (8, .int .i64 (i : Int))]) (fun _ => []) (fun _ _ _ => True) (fun i => xs.length - i) 0 ⟨by omega, fun j hj => absurd hj (by omega)⟩ (lK rfl) (List.nil_sublist _) (fun _ _ h => h) ?_; rintro i ⟨hi1, hinv⟩; refine sR fun _ hK4 => ?_; refine J2 rfl ?_; refine nK hK4 ?_; refine sQ fun _ hK5 => ?_; refine cD (fun g => ?_) fun g => ?_
 refine Jg (hK5 ?_); refine sB fun _ hK7 => ?_; refine sR fun _ hK8 => ?_; refine Jb rfl (Jb rfl ?_); refine nK hK8 ?_; refine sQ fun _ hK9 => ?_
 obtain ⟨x, hx, hmx⟩ := QA (show i < xs.length by omega)
 refine Je (Jb rfl ?_); refine Jb rfl (Jb rfl ?_)
 refine LR rfl (JB (j := i) rfl hs rfl rfl rfl (by first | rfl | omega) (by omega)) ?_; refine LR rfl (Qy oR rfl hs (by omega) rfl (show (KN xs)[i]? = some (Jq x) from by unfold KN; rw [List.getElem?_map, hx]; rfl)) ?_; refine LR rfl (Q3 rfl rfl) ?_; refine nK hK9 ?_; refine cD (fun g => ?_) fun g => ?_
 refine sR fun _ hK11 => ?_; refine Jb rfl (Jb rfl ?_); refine nK hK11 ?_; refine Jd (Jr (Ji ?_)); refine Ji (Jr (Ji ?_)); refine pT rfl rfl rfl fun w1 hs1 => ?_; refine ⟨?_, hs1.keep⟩; rw [Yv hx (decide_eq_true (by assumption)) hinv]; rfl
 refine Jg (Jo (hK7 ?_)); refine Je (J2 rfl (Ke (by omega) (by omega) ?_)); refine Jb rfl (Jt (JU ?_))
 exact JN (i + 1) ⟨by omega, fun j hj y hy => by
  rcases Nat.lt_succ_iff_lt_or_eq.1 hj with hj | rfl
  exact hinv j hj y hy
  rw [hx] at hy; cases hy; exact decide_eq_false (by assumption)⟩ (by omega) (lK rfl) (List.nil_sublist _) (fun _ _ h => h)
 ·refine JL (Jn ?_); refine Jn (J8 (hK2 ?_)); refine sR fun _ hK12 => ?_; refine Jb rfl ?_; refine nK hK12 ?_; refine Jd ?_; refine pT rfl rfl rfl fun w1 hs1 => ?_; refine ⟨?_, hs1.keep⟩; rw [Yu fun j x hx => hinv j (by have := (List.getElem?_eq_some_iff.1 hx).1; omega) x hx]; rfl
theorem jU {R : Jy} {xs : List BS} {p : Pl} (v : BS) (hl : xs.length ≤ 9223372036854775807) (hs : Seg R xs.length (KN xs) p) :
  PureR Tryz.prog 109 [Ky xs.length p, Jq v].toArray (.bool (xs.any fun x => decide (v = x))) R := by
 refine Jz Tryz.func109 rfl rfl fun w => ?_; refine sR fun _ hK1 => ?_; refine Jb rfl ?_; refine nK hK1 ?_; refine sR fun _ hK2 => ?_; refine Jb rfl (Jb rfl (J4 rfl rfl rfl (enters_of Tryz.func198 (by kernel_rfl) rfl) (Jgd v hl hs) oR ?_)); refine J2 rfl (Jb rfl ?_); refine nK hK2 ?_; refine Jd ?_; refine pT rfl rfl rfl fun w1 hs1 => ?_; refine ⟨?_, hs1.keep⟩; rw [← ZM]; rfl
theorem Jge {R : Jy} {b : BaL} (hb : b.In R) : PureR Tryz.prog 37 [b.val].toArray (.int .i64 (Ws b.er)) R := by
  have hl := hb.len
  have hs := hb.seg
  refine Jz Tryz.func37 rfl rfl fun w => ?_; refine sR fun _ hK1 => ?_; refine JX (cs := List.toArray (b.cells)) rfl rfl rfl rfl fun r0 => ?_; refine Jb rfl ?_; refine nK hK1 ?_; refine sR fun _ hK2 => ?_; refine Jb rfl ?_; refine nK hK2 ?_; refine sB fun _ hK3 => ?_; refine sR fun _ hK4 => ?_
  refine LR rfl (Ja rfl rfl (by first | (simp only [Nat.zero_add, Nat.reduceAdd, Nat.reduceMul, Nat.zero_mul, Nat.mul_one, Nat.add_zero]; exact rfl) | exact rfl)) ?_; refine LR rfl (Jc rfl (kn 0 rfl) rfl rfl) ?_; refine LR rfl (JI rfl rfl) ?_; refine J2 rfl (Jb rfl ?_)
  refine JM 9 rfl (fun gb => ?_) (fun gb => ?_) <;> (try simp only [ZZ] at gb) <;> first | (refine LR rfl (Ja rfl rfl (by first | (simp only [Nat.zero_add, Nat.reduceAdd, Nat.reduceMul, Nat.zero_mul, Nat.mul_one, Nat.add_zero]; exact rfl) | exact rfl)) ?_) | (refine LK rfl ?_)
  all_goals first | refine LR rfl (Jc rfl (kn 0 rfl) rfl rfl) ?_ | refine LK rfl ?_
  all_goals first | refine LR rfl (JI rfl rfl) ?_ | refine LK rfl ?_
  all_goals first | refine J2 rfl ?_ | refine LK rfl ?_
  all_goals first | refine LR rfl (Jx rfl rfl) ?_ | refine LR rfl (J5 rfl rfl) ?_
  all_goals refine Jb rfl ?_
  all_goals first | refine LK rfl ?_ | (refine JM 15 rfl (fun gb => ?_) (fun gb => ?_) <;> (try simp only [ZZ] at gb) <;> first | (refine LR rfl (Ja rfl rfl (by first | (simp only [Nat.zero_add, Nat.reduceAdd, Nat.reduceMul, Nat.zero_mul, Nat.mul_one, Nat.add_zero]; exact rfl) | exact rfl)) ?_) | (refine LK rfl ?_))
  all_goals first | refine LR rfl (Jc rfl (kn 0 rfl) rfl rfl) ?_ | refine LK rfl ?_
  all_goals first | (refine J4 rfl rfl rfl (enters_of Tryz.func109 (by kernel_rfl) rfl) (jU [] hl hs) oR ?_) | refine LK rfl ?_
  all_goals first | refine LR rfl (Jx rfl rfl) ?_ | refine LR rfl (J5 rfl rfl) ?_
  all_goals (
   refine Jb rfl (Jt (hK4 ?_)); refine Jl rfl (fun g => ?_) (fun g => ?_)
   try simp only [ZZ] at g
   refine sR fun _ hK13 => ?_; refine Jb rfl ?_; refine nK hK13 ?_; refine Jd (Jr (Ji ?_)); refine pT rfl rfl rfl fun w1 hs1 => ?_; refine ⟨?_, hs1.keep⟩
   unfold Ws BaL.er
   dsimp only
   first | (rw [if_pos (.inl (by omega))]; rfl) | (rw [if_pos (.inr (.inl (by omega)))]; rfl) | (rw [if_pos (.inr (.inr (by assumption)))]; rfl)
   · try exact Bool.noConfusion g
     all_goals try simp only [ZZ] at g
     all_goals (
      refine sR fun _ hK14 => ?_
      refine LR rfl (Ja rfl rfl (by first | (simp only [Nat.zero_add, Nat.reduceAdd, Nat.reduceMul, Nat.zero_mul, Nat.mul_one, Nat.add_zero]; exact rfl) | exact rfl)) ?_; refine LR rfl (Jc rfl (kn 0 rfl) rfl rfl) ?_; refine LR rfl (JJ rfl hs rfl) ?_; refine J2 rfl (Jb rfl ?_)
      refine JM 25 rfl (fun gb => ?_) (fun gb => ?_) <;> (try simp only [ZZ] at gb) <;> first | (refine LR rfl (Ja rfl rfl (by first | (simp only [Nat.zero_add, Nat.reduceAdd, Nat.reduceMul, Nat.zero_mul, Nat.mul_one, Nat.add_zero]; exact rfl) | exact rfl)) ?_) | (refine LK rfl ?_)
      all_goals first | refine LR rfl (Jc rfl (kn 0 rfl) rfl rfl) ?_ | refine LK rfl ?_
      all_goals first | refine Jb rfl ?_ | refine LK rfl ?_
      all_goals first | (refine J4 rfl rfl rfl Jab (Wr (caps := []) hl hs (enters_of Tryz.func108 (by kernel_rfl) rfl) (fun x _ => (Jci x).toR)) oR ?_) | refine LK rfl ?_
      all_goals first | refine LR rfl (Jx rfl rfl) ?_ | refine LR rfl (J5 rfl rfl) ?_
      all_goals (
       refine Jb rfl (Jt (hK14 ?_)); refine Jl rfl (fun g => ?_) (fun g => ?_)
       · try simp only [ZZ] at g
         refine sR fun _ hK20 => ?_; refine Jb rfl ?_; refine nK hK20 ?_; refine Jd (Jr (Ji ?_)); refine pT rfl rfl rfl fun w1 hs1 => ?_; refine ⟨?_, hs1.keep⟩
         unfold Ws BaL.er
         dsimp only
         first | (rw [if_neg (by rintro (h | h | h) <;> first | omega | exact absurd (h.symm.trans (show _ = false by assumption)) (by decide)), if_pos (.inl (by omega))]; rfl) | (rw [if_neg (by rintro (h | h | h) <;> first | omega | exact absurd (h.symm.trans (show _ = false by assumption)) (by decide)), if_pos (.inr (by assumption))]; rfl)
       · try exact Bool.noConfusion g
         all_goals try simp only [ZZ] at g
         all_goals (
          refine Jg (Jo (hK3 ?_)); refine sR fun _ hK21 => ?_; refine Jb rfl ?_; refine nK hK21 ?_; refine Jd ?_; refine pT rfl rfl rfl fun w1 hs1 => ?_; refine ⟨?_, hs1.keep⟩
          unfold Ws BaL.er
          dsimp only
          rw [if_neg (by rintro (h | h | h) <;> first | omega | exact absurd (h.symm.trans (show _ = false by assumption)) (by decide)), if_neg (by rintro (h | h) <;> first | omega | exact absurd (h.symm.trans (show _ = false by assumption)) (by decide))]; rfl
          skip)
       skip)
      skip)
   skip)
theorem Wt {s : BS} (h : s.length < 16777216) : (KM (Ki s)).length ≤ s.length + 4 := by
 unfold Ki; rw [qA]; split
 ·omega
 ·unfold KB; rw [List.length_append]; have := (XA (by_ := 128) h).2; omega
theorem Xe {xs : List It} (h : (KY xs).length < 16777216) : (KM (KG xs)).length ≤ (KY xs).length + 4 := by
 unfold KG; rw [Zc]; unfold KB; rw [List.length_append]; have := (XA (by_ := 192) h).2; omega
theorem vI {m : Nat} : ∀ {xs : List It}, (∀ x ∈ xs, (KM x).length ≤ m) → (KY xs).length ≤ xs.length * m
 | [], _ => by simp [KY]
 | x :: r, h => by
  rw [KY, List.length_append, List.length_cons, Nat.succ_mul]
  have h1 := h x List.mem_cons_self
  have h2 := vI (xs := r) fun y hy => h y (List.mem_cons_of_mem _ hy)
  omega
theorem WJ (f : Nat) (s : BS) : Zt f (Ki s) = true := by unfold Ki; cases f <;> (rw [Zt]; simp)
theorem Wh {f : Nat} {xs : List It} (hl : xs.length ≤ 512) (h : yR f xs = true) : Zt (f + 1) (KG xs) = true := by
 unfold KG; rw [Zt]; simp [hl, h]
theorem zO {f : Nat} : ∀ {xs : List It}, (∀ x ∈ xs, Zt f x = true) → yR f xs = true
 | [], _ => by rw [yR]
 | x :: r, h => by rw [yR, h x List.mem_cons_self, zO fun y hy => h y (List.mem_cons_of_mem _ hy)]; rfl
theorem XZ {n : Nat} (h : VG n) : (KM (Qk n)).length ≤ 12 := by
 have h8 := Y0 h
 have := Wt (s := KT n) (by omega)
 unfold Qk; omega
theorem Y8 (w : W4) : (KM (Ks w)).length ≤ 36 := by
 have h8 := WW w.l
 have := Wt (s := JE w.l) (by omega)
 unfold Ks; omega
theorem yw {l : List BS} {n m : Nat} (hl : l.length ≤ n) (h : ∀ s ∈ l, s.length ≤ m) (hb : n * (m + 4) < 16777216) : (KM (QZ l)).length ≤ n * (m + 4) + 4 := by
 have h1 : (KY (l.map Ki)).length ≤ (l.map Ki).length * (m + 4) := vI fun x hx => by
  obtain ⟨s, hs, rfl⟩ := List.mem_map.1 hx
  have h2 := h s hs
  by_cases h0 : l.length = 0
  ·rw [List.length_eq_zero_iff.1 h0] at hs; cases hs
  ·have : m + 4 ≤ n * (m + 4) := Nat.le_mul_of_pos_left _ (by omega)
   have := Wt (s := s) (by omega)
   omega
 rw [List.length_map] at h1
 have h3 : l.length * (m + 4) ≤ n * (m + 4) := Nat.mul_le_mul_right _ hl
 have := Xe (xs := l.map Ki) (by omega)
 unfold QZ; omega
theorem yy {f : Nat} {l : List BS} (hl : l.length ≤ 512) : Zt (f + 1) (QZ l) = true := by
 refine Wh (by rw [List.length_map]; exact hl) (zO fun x hx => ?_)
 obtain ⟨s, _, rfl⟩ := List.mem_map.1 hx
 exact WJ _ _
theorem Jpj {t : TxE} (hk : K012 t.kind) (h : Wx t = 0) : t = Y2 t ∧ Qw t = true ∧ XN t = false := by
 by_cases h1 : t ≠ Y2 t ∨ Qw t = false
 ·rw [Jfv hk h1] at h; exact absurd h (by decide)
 ·have h2 : t = Y2 t := Classical.byContradiction fun e => h1 (.inl e)
  have h3 : Qw t = true := by
   cases e : Qw t
   ·exact absurd (.inr e) h1
   ·rfl
  cases e : XN t
  ·exact ⟨h2, h3, rfl⟩
  ·rw [Jkx hk h2 h3 e] at h; exact absurd h (by decide)
structure TxB (t : TxE) : Prop where
  dest : t.dest = [] ∨ t.dest.length = 20
  data : t.data.length ≤ 4096
  accL : t.access.length ≤ 16
  addr : ∀ a ∈ t.access, a.addr.length = 20
  keyL : ∀ a ∈ t.access, a.keys.length ≤ 16
  keys : ∀ a ∈ t.access, ∀ s ∈ a.keys, s.length = 32
  au : t.auths = []
  y : t.y ≤ 1
  chain : t.kind = 0 → t.chain ≤ 4611686018427387904
  nam : t = Y2 t
theorem jB {t : TxE} (hk : K012 t.kind) (h : Wx t = 0) : TxB t := by
 obtain ⟨h1, h2, h3⟩ := Jpj hk h
 have hs := h2
 unfold Qw at hs
 split at hs
 ·cases hs
 ·rename_i hn
  rw [not_or, not_or] at hn
  obtain ⟨hy, hax, hau⟩ := hn
  have hx : ∀ a ∈ t.access, VI a = false := fun a ha => by
   cases e : VI a
   ·rfl
   ·exact absurd (List.any_eq_true.2 ⟨a, ha, e⟩) hax
  have hto : toB t = true ∧ (t.kind = 0 → t.chain ≤ 4611686018427387904) := by
   rcases hk with hk | hk | hk <;> simp [hk] at hs ⊢
   ·exact ⟨hs.2, hs.1⟩
   ·exact hs
   ·exact hs
  unfold XN at h3
  simp only [Bool.or_eq_false_iff, decide_eq_false_iff_not] at h3
  obtain ⟨⟨⟨l1, l2⟩, l3⟩, l4⟩ := h3
  exact {
   dest := by have := hto.1; unfold toB at this; simpa using this
   data := by omega
   accL := by omega
   addr := fun a ha => by have := hx a ha; unfold VI at this; simp only [Bool.or_eq_false_iff, decide_eq_false_iff_not] at this; omega
   keyL := fun a ha => by
    have := fun hg => l3.symm.trans (List.any_eq_true.2 ⟨a, ha, hg⟩)
    simp at this; exact this
   keys := fun a ha s hs => by
    have := hx a ha; unfold VI at this; simp only [Bool.or_eq_false_iff] at this
    have h5 := fun hg => this.2.symm.trans (List.any_eq_true.2 ⟨s, hs, hg⟩)
    simp at h5; exact h5
   au := by
    have h5 := congrArg TxE.auths h1
    rw [h5]; unfold Y2; rw [if_neg hk.not126]
    show (if t.kind = 4 then t.auths else []) = []
    rw [if_neg (by unfold K012 at hk; omega)]
   y := by omega
   chain := hto.2
   nam := h1 }
theorem Jod {a : AxE} (h1 : a.addr.length = 20) (h2 : a.keys.length ≤ 16) (h3 : ∀ s ∈ a.keys, s.length = 32) : (KM (j5 a)).length ≤ 608 := by
 have k1 := Wt (s := a.addr) (by omega)
 have k2 := yw (m := 32) h2 (fun s hs => by rw [h3 s hs]; exact Nat.le_refl _) (by decide)
 have k3 : (KY [Ki a.addr, QZ a.keys]).length = (KM (Ki a.addr)).length + (KM (QZ a.keys)).length := by simp [KY]
 have := Xe (xs := [Ki a.addr, QZ a.keys]) (by omega)
 unfold j5; omega
theorem Joe {f : Nat} {a : AxE} (h2 : a.keys.length ≤ 16) : Zt (f + 2) (j5 a) = true :=
 Wh (by simp) (by rw [yR, yR, yR, WJ, yy (by omega)]; rfl)
theorem Jml {t : TxE} (hb : TxB t) : (KM (KG (t.access.map j5))).length ≤ 10000 := by
 have h1 : (KY (t.access.map j5)).length ≤ (t.access.map j5).length * 608 := vI fun x hx => by
  obtain ⟨a, ha, rfl⟩ := List.mem_map.1 hx
  exact Jod (hb.addr a ha) (hb.keyL a ha) (hb.keys a ha)
 rw [List.length_map] at h1
 have h2 : t.access.length * 608 ≤ 16 * 608 := Nat.mul_le_mul_right _ hb.accL
 have := Xe (xs := t.access.map j5) (by omega)
 omega
theorem Jmm {f : Nat} {t : TxE} (hb : TxB t) : Zt (f + 3) (KG (t.access.map j5)) = true :=
 Wh (by rw [List.length_map]; have := hb.accL; omega) (zO fun x hx => by obtain ⟨a, ha, rfl⟩ := List.mem_map.1 hx; exact Joe (hb.keyL a ha))
theorem Jof {t : TxE} (hb : TxB t) (hk : t.kind = 0) : VG (vE t.chain t.y) := by
 have h1 := hb.chain hk
 have h2 := hb.y
 unfold vE VG; split <;> omega
theorem vJ {t : TxE} (hk : K012 t.kind) (ho : t.ok) (hb : TxB t) : (KM (KG (Qu t))).length ≤ 20000 ∧ Zt 12 (KG (Qu t)) = true := by
 have h1 := XZ ho.chain
 have h2 := XZ ho.nonce
 have h3 := XZ ho.gas
 have h4 := XZ ho.y
 have h5 := Y8 t.tip
 have h6 := Y8 t.price
 have h7 := Y8 t.value
 have h8 := Y8 t.r
 have h9 := Y8 t.s
 have hd := hb.data
 have h10 := Wt (s := t.data) (by omega)
 have h11 : (KM (Ki t.dest)).length ≤ 24 := by
  have : t.dest.length ≤ 20 := by rcases hb.dest with h | h <;> simp [h]
  have := Wt (s := t.dest) (by omega)
  omega
 have h12 := Jml hb
 have h13 := Jmm (f := 8) hb
 rcases hk with hk | hk | hk
 ·have hv := XZ (Jof hb hk)
  have e : Qu t = [Qk t.nonce, Ks t.price, Qk t.gas, Ki t.dest, Ks t.value, Ki t.data, Qk (vE t.chain t.y), Ks t.r, Ks t.s] := by unfold Qu; rw [if_neg (by omega), if_pos hk]
  rw [e]; refine ⟨?_, Wh (by simp) (by simp only [yR, Qk, Ks, WJ, Bool.and_self])⟩; refine Nat.le_trans (Xe ?_) ?_
  all_goals simp only [KY, List.length_append, List.length_nil]; omega
 ·have e : Qu t = [Qk t.chain, Qk t.nonce, Ks t.price, Qk t.gas, Ki t.dest, Ks t.value, Ki t.data, KG (t.access.map j5), Qk t.y, Ks t.r, Ks t.s] := by unfold Qu; rw [if_neg (by omega), if_neg (by omega), if_pos hk, if_neg (by omega)]; rfl
  rw [e]; refine ⟨?_, Wh (by simp) (by simp only [yR, Qk, Ks, WJ, h13, Bool.and_self])⟩; refine Nat.le_trans (Xe ?_) ?_
  all_goals simp only [KY, List.length_append, List.length_nil]; omega
 ·have e : Qu t = [Qk t.chain, Qk t.nonce, Ks t.tip, Ks t.price, Qk t.gas, Ki t.dest, Ks t.value, Ki t.data, KG (t.access.map j5), Qk t.y, Ks t.r, Ks t.s] := by unfold Qu; rw [if_neg (by omega), if_neg (by omega), if_neg (by omega), if_neg (by omega)]; rfl
  rw [e]; refine ⟨?_, Wh (by simp) (by simp only [yR, Qk, Ks, WJ, h13, Bool.and_self])⟩; refine Nat.le_trans (Xe ?_) ?_
  all_goals simp only [KY, List.length_append, List.length_nil]; omega
theorem Jmn {t : TxL} (hb : TxB t.er) : TxS t where
 dest := by have := hb.dest; simp only [TxL.er] at this; rcases this with h | h <;> simp [h]
 data := by have := hb.data; simp only [TxL.er] at this; omega
 accL := by have := hb.accL; simp only [TxL.er, List.length_map] at this; omega
 acc := fun a ha => by
  have hm : a.er ∈ t.er.access := List.mem_map.2 ⟨a, ha, rfl⟩
  exact ⟨by have := hb.addr _ hm; simp only [AxL.er] at this; omega, by have := hb.keyL _ hm; simp only [AxL.er] at this; omega, fun s hs => by have := hb.keys _ hm s hs; omega⟩
 au := hb.au
 y := hb.y
 chain := hb.chain
theorem vK {n : Nat} (h : VG n) : KV (Qk n) = (n, 0) := by
 unfold KV Qk Ki; simp [It.l, It.b, Jik h]
theorem zP {n lo hi : Int} (h1 : lo ≤ n) (h2 : n ≤ hi) : W1 n lo hi = 0 := by unfold W1; rw [if_neg (by omega), if_neg (by omega)]
theorem Ya {s : BS} {lo hi : Int} (h1 : lo ≤ s.length) (h2 : s.length ≤ hi) : JZ (Ki s) lo hi = (s, 0) := by
 unfold JZ Ki; simp [It.l, It.b, zP h1 h2]
theorem zQ {s : BS} (h : s = [] ∨ s.length = 20) : jA (Ki s) = (s, 0) := by
 have : XO s = (s, 0) := by unfold XO; rw [if_neg]; rintro ⟨h1, h2⟩; exact h.elim h1 h2
 unfold jA Ki; simp [It.l, It.b, this]
theorem Vx {xs : List It} {lo hi : Int} (h1 : lo ≤ xs.length) (h2 : xs.length ≤ hi) : Qi (KG xs) lo hi = 0 := by
 unfold Qi KG; simp [It.l, It.xs, zP h1 h2]
theorem Jgf {lo hi : Int} : ∀ {l : List BS}, (∀ s ∈ l, lo ≤ s.length ∧ s.length ≤ hi) → Zh lo hi (l.map Ki) = 0
 | [], _ => rfl
 | s :: r, h => by
  have h1 := h s List.mem_cons_self
  rw [List.map_cons, Zh, Ya h1.1 h1.2, if_neg (by simp)]; exact Jgf fun x hx => h x (List.mem_cons_of_mem _ hx)
theorem Jcj {l : List BS} {many lo hi : Int} (hl : l.length ≤ many) (h : ∀ s ∈ l, lo ≤ s.length ∧ s.length ≤ hi) : KJ (QZ l) many lo hi = (l, 0) := by
 have h1 : Qi (QZ l) 0 many = 0 := Vx (by omega) (by rw [List.length_map]; exact hl)
 have h2 : (QZ l).xs = l.map Ki := rfl
 unfold KJ
 rw [h1, if_neg (by simp), h2, Jgf h, if_neg (by simp), List.map_map]
 have : (It.b ∘ Ki) = id := rfl
 rw [this, List.map_id]
structure BaS (b : BaE) : Prop where
  parent : b.parent.length = 32
  hash : b.hash.length = 32
  len : b.txs.length ≤ 32
  txs : ∀ s ∈ b.txs, 1 ≤ s.length ∧ s.length ≤ 4096
theorem zR {b : BaE} (h : Ws b = 0) : BaS b := by
 unfold Ws at h
 split at h
 ·cases h
 ·rename_i h1
  split at h
  ·cases h
  ·rename_i h2
   rw [not_or, not_or] at h1; rw [not_or] at h2; refine ⟨by omega, by omega, by omega, fun s hs => ⟨?_, ?_⟩⟩
   ·cases s with
    | nil => exact absurd (List.any_eq_true.2 ⟨[], hs, by simp⟩) h1.2.2
    | cons a r => simp
   ·by_cases h3 : s.length ≤ 4096
    ·exact h3
    ·exact absurd (List.any_eq_true.2 ⟨s, hs, by simp; omega⟩) h2.2
theorem zS {b : BaE} (h : BaS b) (he : VG b.epoch) (ht : VG b.time) : (KM (Wg b)).length ≤ 140000 ∧ Zt 12 (Wg b) = true := by
 have h1 := Wt (s := b.parent) (by rw [h.parent]; decide)
 have h2 := Wt (s := b.hash) (by rw [h.hash]; decide)
 have h3 := XZ he
 have h4 := XZ ht
 have h5 := yw (m := 4096) h.len (fun s hs => (h.txs s hs).2) (by decide)
 rw [h.parent] at h1; rw [h.hash] at h2
 unfold Wg
 refine ⟨?_, Wh (by simp) (by simp only [yR, Qk, WJ, yy (f := 10) (l := b.txs) (by have := h.len; omega), Bool.and_self])⟩; refine Nat.le_trans (Xe ?_) ?_
 all_goals simp only [KY, List.length_append, List.length_nil]; omega
def X0 (b : BaE) : BS × Int := if Ws b ≠ 0 then ([], Ws b) else if V1 (Wg b) ≠ 0 then ([], V1 (Wg b)) else (0 :: KM (Wg b), 0)
theorem Jgg {R : Jy} {b : BaL} (hb : b.In R) (hu : VG b.epoch) (ht : VG b.time) : PureR Tryz.prog 10 [b.val].toArray (.tuple #[Jq (X0 b.er).1, .int .i64 (X0 b.er).2]) R := by
 have hchk := Jge hb
 refine Jz Tryz.func10 rfl rfl fun w => ?_; refine sR fun _ hK1 => ?_; refine JX (cs := List.toArray (b.cells)) rfl rfl rfl rfl fun r0 => ?_; refine Jb rfl (Jb rfl ?_); refine nK hK1 ?_; refine sQ fun _ hK2 => ?_; refine sR fun _ hK3 => ?_; refine LR rfl (Jm (xs := b.cells) (n := 5) rfl (kn 0 rfl) rfl rfl rfl) ?_; refine J4 rfl rfl rfl (enters_of Tryz.func37 (by kernel_rfl) rfl) hchk oR ?_; refine Jb rfl ?_; refine nK hK3 ?_; refine sR fun _ hK4 => ?_; refine Jb rfl (J2 rfl ?_); refine nK hK4 ?_; refine cD (fun g => ?_) fun g => ?_
 refine sR fun _ hK6 => ?_; refine Jb rfl (Jb rfl (Jb rfl ?_)); refine nK hK6 ?_; refine Jd (Ji ?_); refine Jp rfl rfl (.cons (Jk rfl) (.cons (Jk rfl) .nil)) (fun w1 hs1 => ?_); refine ⟨?_, hs1.keep⟩; rw [show X0 b.er = ([], Ws b.er) from by unfold X0; rw [if_pos (by assumption)]]; rfl
 ·refine Jg (hK2 ?_); refine sQ fun _ hK7 => ?_
  have hc0 : Ws b.er = 0 := by omega
  have hS := zR hc0
  have hlk := zS hS hu ht
  have hl1 : b.txs.length ≤ 100000 := by have := hS.len; simp only [BaL.er] at this; omega
  have hl2 : ∀ s ∈ b.txs, s.length ≤ 1000000 := fun s hs => by have := hS.txs s hs; omega
  have x0 := Jmh (l := b.txs) (by omega) hl2
  refine Km [(r0, .cells (List.toArray b.cells) 39 (0, 0))] [(0, .pure), (1, .pure), (2, .pure), (3, .pure), (4, .pure), (5, .pure), (6, .pure), (7, .pure), (8, .pure), (9, .pure), (10, .pure), (11, .pure), (12, .pure), (13, .pure), (14, .grow (QY x0 (fun y => y.x.val) (fun y => y.L))), (15, .dep [15, 18, 21, 24, 27] (XL 5 91)), (16, .pure), (17, .turn), (18, .pure), (19, .pure), (20, .pure), (21, .pure), (22, .pure)] 23 [0, 1, 2, 3, 4, 5, 6, 7, 8, 9, 10, 11, 12, 13, 14, 15, 16, 17, 18, 19, 20, 21, 22] (by kernel_rfl) (by kernel_rfl) (fun p hp => hp) ?_
  refine JH (k := 0) rfl rfl rfl rfl rfl (fun _ hS => (Ja rfl rfl (by first | (simp only [Nat.zero_add, Nat.reduceAdd, Nat.reduceMul, Nat.zero_mul, Nat.mul_one, Nat.add_zero]; exact rfl) | exact rfl))) ?_; refine JH (k := 1) rfl rfl rfl rfl rfl (fun _ hS => (Jc rfl (.inl (hS _ (Jw (n := 0) rfl))) rfl rfl)) ?_; refine Kf (k := 2) rfl rfl rfl rfl rfl jP (Wz b.parent) ?_
  refine JH (k := 3) rfl rfl rfl rfl rfl (fun _ hS => (Ja rfl rfl (by first | (simp only [Nat.zero_add, Nat.reduceAdd, Nat.reduceMul, Nat.zero_mul, Nat.mul_one, Nat.add_zero]; exact rfl) | exact rfl))) ?_; refine JH (k := 4) rfl rfl rfl rfl rfl (fun _ hS => (Jc rfl (.inl (hS _ (Jw (n := 0) rfl))) rfl rfl)) ?_; refine Kf (k := 5) rfl rfl rfl rfl rfl vy (Vw hu) ?_
  refine JH (k := 6) rfl rfl rfl rfl rfl (fun _ hS => (Ja rfl rfl (by first | (simp only [Nat.zero_add, Nat.reduceAdd, Nat.reduceMul, Nat.zero_mul, Nat.mul_one, Nat.add_zero]; exact rfl) | exact rfl))) ?_; refine JH (k := 7) rfl rfl rfl rfl rfl (fun _ hS => (Jc rfl (.inl (hS _ (Jw (n := 0) rfl))) rfl rfl)) ?_; refine Kf (k := 8) rfl rfl rfl rfl rfl jP (Wz b.hash) ?_
  refine JH (k := 9) rfl rfl rfl rfl rfl (fun _ hS => (Ja rfl rfl (by first | (simp only [Nat.zero_add, Nat.reduceAdd, Nat.reduceMul, Nat.zero_mul, Nat.mul_one, Nat.add_zero]; exact rfl) | exact rfl))) ?_; refine JH (k := 10) rfl rfl rfl rfl rfl (fun _ hS => (Jc rfl (.inl (hS _ (Jw (n := 0) rfl))) rfl rfl)) ?_; refine Kf (k := 11) rfl rfl rfl rfl rfl vy (Vw ht) ?_
  refine JH (k := 12) rfl rfl rfl rfl rfl (fun _ hS => (Ja rfl rfl (by first | (simp only [Nat.zero_add, Nat.reduceAdd, Nat.reduceMul, Nat.zero_mul, Nat.mul_one, Nat.add_zero]; exact rfl) | exact rfl))) ?_; refine JH (k := 13) rfl rfl rfl rfl rfl (fun _ hS => (Jc rfl (.inl (hS _ (Jw (n := 0) rfl))) rfl rfl)) ?_; refine VR (k := 14) rfl rfl rfl rfl rfl (enters_of Tryz.func40 (by kernel_rfl) rfl) (Jan (l := b.txs) hl1 hb.seg hl2) (fun q hq => .inr hq) fun y => ?_
  obtain ⟨⟨yl, yb, yp, yxs⟩, yL, yh, ye⟩ := y
  refine Ku (k := 15) (dv := [_, _, _, _, _]) (n := 5) (sz := 3) (vs := [_, _, _, _, _]) (zs := [_, _, _, _, _, _, _, _, _, _, _, _, _, _, _]) (r := JK [Jj b.parent, Jj (KT b.epoch), Jj b.hash, Jj (KT b.time), (ItL.mk yl yb yp yxs)]) rfl rfl rfl rfl rfl rfl rfl rfl rfl rfl rfl rfl rfl (by rw [Qo]; exact rfl) (by kernel_rfl) fun qa => ?_; refine Kf (k := 16) rfl rfl rfl rfl rfl Jb7 (Zb (some ⟨qa, 0, none⟩) 5 5) ?_
  have hin : (Wf qa 5 [Jj b.parent, Jj (KT b.epoch), Jj b.hash, Jj (KT b.time), (ItL.mk yl yb yp yxs)]).In ((qa, Obj.cells (JK [Jj b.parent, Jj (KT b.epoch), Jj b.hash, Jj (KT b.time), (ItL.mk yl yb yp yxs)]).toArray 91 (0, 0)) :: yL) := Xy (xs := [Jj b.parent, Jj (KT b.epoch), Jj b.hash, Jj (KT b.time), (ItL.mk yl yb yp yxs)]) (by simp) List.mem_cons_self (fun z hz => by
   rcases List.mem_cons.1 hz with rfl | hz
   exact KX (by have := hS.parent; simp only [BaL.er] at this; omega)
   rcases List.mem_cons.1 hz with rfl | hz
   exact KX (WH hu)
   rcases List.mem_cons.1 hz with rfl | hz
   exact KX (by have := hS.hash; simp only [BaL.er] at this; omega)
   rcases List.mem_cons.1 hz with rfl | hz
   exact KX (WH ht)
   rw [List.mem_singleton.1 hz]; exact yh.mono fun q hq => List.mem_cons_of_mem _ hq)
  have her : (Wf qa 5 [Jj b.parent, Jj (KT b.epoch), Jj b.hash, Jj (KT b.time), (ItL.mk yl yb yp yxs)]).er = Wg b.er := by rw [Xz]; unfold Wg; simp only [List.map_cons, List.map_nil, QM, ye]; rfl
  have hre := qC hin (by rw [her]; exact hlk.2) (by rw [her]; omega)
  rw [her] at hre; rw [show (Wf qa 5 [Jj b.parent, Jj (KT b.epoch), Jj b.hash, Jj (KT b.time), (ItL.mk yl yb yp yxs)]).val = Jfd (.slice (some ⟨qa, 0, none⟩) 5 5) from rfl] at hre; refine V3 (k := 17) (T0 := []) (L0 := ((qa, Obj.cells (JK [Jj b.parent, Jj (KT b.epoch), Jj b.hash, Jj (KT b.time), (ItL.mk yl yb yp yxs)]).toArray 91 (0, 0)) :: yL) ++ [(r0, _)]) (E' := fun _ => ((qa, Obj.cells (JK [Jj b.parent, Jj (KT b.epoch), Jj b.hash, Jj (KT b.time), (ItL.mk yl yb yp yxs)]).toArray 91 (0, 0)) :: yL) ++ [(r0, _)]) (List.Perm.refl _) (fun _ => List.Perm.refl _) rfl rfl rfl rfl rfl (enters_of Tryz.func36 (by kernel_rfl) rfl) hre.toT (fun q hq => .inl (List.mem_append_left _ hq)) (fun x q hq => List.mem_append_right _ hq) fun y => ?_; refine JH (k := 18) rfl rfl rfl rfl rfl (fun _ hS => (JG rfl)) ?_; refine JH (k := 19) rfl rfl rfl rfl rfl (fun _ hS => (Jf rfl rfl)) ?_; refine JH (k := 20) rfl rfl rfl rfl rfl (fun _ hS => (Jf rfl rfl)) ?_; refine JH (k := 21) rfl rfl rfl rfl rfl (fun _ hS => (JY rfl)) ?_; refine JH (k := 22) rfl rfl rfl rfl rfl (fun _ hS => (JY rfl)) ?_; refine Qc ?_; refine nK hK7 ?_; refine sQ fun _ hK8 => ?_; refine sR fun _ hK9 => ?_; refine Jb rfl (J2 rfl ?_); refine nK hK9 ?_; refine cD (fun g => ?_) fun g => ?_
  refine sR fun _ hK11 => ?_; refine Jb rfl (Jb rfl (Jb rfl ?_)); refine nK hK11 ?_; refine Jd (Ji ?_); refine Jp rfl rfl (.cons (Jk rfl) (.cons (Jk rfl) .nil)) (fun w1 hs1 => ?_); refine ⟨?_, hs1.keep⟩; rw [show X0 b.er = ([], V1 (Wg b.er)) from by unfold X0; rw [if_neg (by omega), if_pos (by assumption)]]; rfl
  ·refine Jg (hK8 ?_); refine sR fun _ hK12 => ?_; refine JV (n := 1) (sz := 1) (vs := [_]) (zs := [_]) (r := [bV 0]) rfl rfl rfl rfl rfl rfl rfl rfl rfl (by show (madeCells #[_] _).toList = _; rw [KA]; exact rfl) rfl fun rb => ?_; refine LR rfl (Q9 (row := some (rb, 1, [])) (b := [0]) rfl ⟨rfl, rfl⟩ (fun q hq => by rw [List.mem_singleton.1 hq]; exact Vf (k := 0) rfl) rfl rfl rfl) ?_; refine Jb rfl ?_
   refine LR rfl (ja rfl rfl (by split <;> simp <;> omega)) ?_; refine Jb rfl (Jb rfl ?_); refine nK hK12 ?_; refine Jd ?_; refine Jp rfl rfl (.cons (Jk rfl) (.cons (Jk rfl) .nil)) (fun w1 hs1 => ?_); refine ⟨?_, hs1.keep⟩; rw [show X0 b.er = (0 :: KM (Wg b.er), 0) from by unfold X0; rw [if_neg (by omega), if_neg (by omega)]]; rw [if_neg (by omega)]; rfl
def kp (e f : Int) : Int := if e = 0 then f else e
theorem zT (e f : Int) (r5 : Nat) : PureT (α := Unit) Tryz.prog 43 [.int .i64 f, Kw r5].toArray (fun _ => .tuple #[]) (eT r5 e) (fun _ => eT r5 (kp e f)) [] := by
 refine J1 Tryz.func43 rfl rfl fun w => ?_; refine sR fun _ hK1 => ?_; refine LR rfl (Jc rfl (kn 0 rfl) rfl rfl) ?_; refine J2 rfl ?_; refine nK hK1 ?_; refine cD (fun g => ?_) fun g => ?_
 refine Je (Jb rfl ?_)
 refine Ju (k := 0) rfl rfl rfl rfl rfl rfl rfl rfl (by first | (simp only [List.setIfInBounds_toArray, List.set_cons_zero, List.set_cons_succ]; exact rfl) | exact rfl) (by first | (simp only [List.set_cons_zero, List.set_cons_succ]; exact rfl) | exact rfl) ?_; refine Jt ?_; refine Qf rfl rfl .nil (fun w1 hs1 => ?_); exact ⟨(), rfl, (show St _ (eT r5 (kp e f)) _ _ by rw [show kp e f = f from if_pos (by assumption)]; exact hs1)⟩
 ·refine Jg ?_; refine Qf rfl rfl .nil (fun w1 hs1 => ?_); exact ⟨(), rfl, (show St _ (eT r5 (kp e f)) _ _ by rw [show kp e f = e from if_neg (by assumption)]; exact hs1)⟩
theorem Jgh {R : Jy} {xs : List ItL} {p : Pl} {y : ItL} {r5 r6 r7 i : Nat} (e : Int) (hs : Seg R xs.length (JK xs) p) (hil : i < xs.length) (hx : xs.length ≤ 1000000) (hy : xs[i]? = some y) (h6 : (r6, Obj.cells #[Ky xs.length p] 89 (0, 0)) ∈ R) (h7 : (r7, Obj.cells #[.func (.func 43) #[] #[Kw r5]] 104 (0, 0)) ∈ R) :
  PureT (α := Unit) Tryz.prog 44 [.int .i64 (i : Int), Kw r6, Kw r7].toArray (fun _ => Jq (JZ y.er 32 32).1) (eT r5 e) (fun _ => eT r5 (kp e (JZ y.er 32 32).2)) R := by
 refine J1 Tryz.func44 rfl rfl fun w => ?_; refine sR fun _ hK1 => ?_; refine Jb rfl ?_; refine nK hK1 ?_; refine sR fun _ hK2 => ?_; refine LR rfl (Jc rfl (Or.inr h6) rfl rfl) ?_; refine Jb rfl ?_
 refine LR rfl (JB (j := i) rfl hs rfl rfl rfl (by first | rfl | omega) (by omega)) ?_; refine LR rfl (Kt ItL.len oR rfl hs hy rfl rfl) ?_; refine J4 rfl rfl rfl Jl0 (Zf (R := []) y 32 32) oN ?_; refine Jb rfl (LR rfl (Jf rfl rfl) (LR rfl (Jf rfl rfl) ?_)); refine Jb rfl (Jb rfl ?_); refine nK hK2 ?_; refine sR fun _ hK3 => ?_; refine LR rfl (Jc rfl (Or.inr h7) rfl rfl) ?_; refine Jb rfl (J9 (T := eT r5 e) (L0 := []) (Rl := []) (List.Perm.refl _) rfl rfl rfl Jlz (zT e (JZ y.er 32 32).2 r5) oN fun _ => ?_); change HL _ _ _ (eT r5 (kp e (JZ y.er 32 32).2)) _ _ _ _; refine nK hK3 ?_; refine sR fun _ hK4 => ?_; refine Jb rfl (Jb rfl ?_); refine nK hK4 ?_; refine Jd ?_; refine pT rfl rfl rfl fun w1 hs1 => ?_; exact ⟨(), rfl, hs1⟩
theorem Jgi {R : Jy} {xs : List ItL} {p : Pl} {y : ItL} {r5 r6 r7 i : Nat} (e : Int) (hs : Seg R xs.length (JK xs) p) (hil : i < xs.length) (hx : xs.length ≤ 1000000) (hy : xs[i]? = some y) (h6 : (r6, Obj.cells #[Ky xs.length p] 89 (0, 0)) ∈ R) (h7 : (r7, Obj.cells #[.func (.func 43) #[] #[Kw r5]] 104 (0, 0)) ∈ R) :
  PureT (α := Unit) Tryz.prog 46 [.int .i64 (i : Int), Kw r6, Kw r7].toArray (fun _ => uV (KV y.er).1) (eT r5 e) (fun _ => eT r5 (kp e (KV y.er).2)) R := by
 refine J1 Tryz.func46 rfl rfl fun w => ?_; refine sR fun _ hK1 => ?_; refine Jb rfl ?_; refine nK hK1 ?_; refine sR fun _ hK2 => ?_; refine LR rfl (Jc rfl (Or.inr h6) rfl rfl) ?_; refine Jb rfl ?_
 refine LR rfl (JB (j := i) rfl hs rfl rfl rfl (by first | rfl | omega) (by omega)) ?_; refine LR rfl (Kt ItL.len oR rfl hs hy rfl rfl) ?_; refine J4 rfl rfl rfl ZB (Zw (R := []) y) oN ?_; refine Jb rfl (LR rfl (Jf rfl rfl) (LR rfl (Jf rfl rfl) ?_)); refine Jb rfl (Jb rfl ?_); refine nK hK2 ?_; refine sR fun _ hK3 => ?_; refine LR rfl (Jc rfl (Or.inr h7) rfl rfl) ?_; refine Jb rfl (J9 (T := eT r5 e) (L0 := []) (Rl := []) (List.Perm.refl _) rfl rfl rfl Jlz (zT e (KV y.er).2 r5) oN fun _ => ?_); change HL _ _ _ (eT r5 (kp e (KV y.er).2)) _ _ _ _; refine nK hK3 ?_; refine sR fun _ hK4 => ?_; refine Jb rfl (Jb rfl ?_); refine nK hK4 ?_; refine Jd ?_; refine pT rfl rfl rfl fun w1 hs1 => ?_; exact ⟨(), rfl, hs1⟩
def ba0 : BaE := ⟨[], 0, [], 0, []⟩
def Jck (a b c d f : It) : BaE × Int := (⟨(JZ a 32 32).1, (KV b).1, (JZ c 32 32).1, (KV d).1, (KJ f 32 1 4096).1⟩, kp (kp (kp (kp (kp 0 (JZ a 32 32).2) (KV b).2) (JZ c 32 32).2) (KV d).2) (KJ f 32 1 4096).2)
def Jcl (l : List It) : BaE × Int := Jck (l.getD 0 it0) (l.getD 1 it0) (l.getD 2 it0) (l.getD 3 it0) (l.getD 4 it0)
def W3 (s : BS) : BaE × Int := if s = [] then (ba0, 3) else if (s.getD 0 0).toNat ≠ 0 then (ba0, 9) else if (jQ (s.drop 1)).2 ≠ 0 then (ba0, (jQ (s.drop 1)).2) else
 if Qi (jQ (s.drop 1)).1 5 5 ≠ 0 then (ba0, Qi (jQ (s.drop 1)).1 5 5) else if (Jcl (jQ (s.drop 1)).1.xs).2 ≠ 0 then (ba0, (Jcl (jQ (s.drop 1)).1.xs).2) else ((Jcl (jQ (s.drop 1)).1.xs).1, 0)
theorem Jpk {α : Type} {l : List α} (h : l.length = 5) : ∃ a b c d e, l = [a, b, c, d, e] := by
 match l, h with
 | [a, b, c, d, e], _ => exact ⟨a, b, c, d, e, rfl⟩
theorem Jcm {it : It} {n : Nat} (h : Qi it n n = 0) : it.xs.length = n := by
 unfold Qi W1 at h
 (repeat' split at h)
 all_goals omega
structure BaR (e : BaE) where
  b : BaL
  L : Jy
  inn : b.In L
  er : b.er = e
theorem Ja0 {b : BaE} (h : Ws b = 0) (he : VG b.epoch) (ht : VG b.time) (hl : V1 (Wg b) = 0) : W3 (0 :: KM (Wg b)) = (b, 0) := by
 have hS := zR h
 have hle : (KM (Wg b)).length ≤ 65536 := by unfold V1 at hl; split at hl <;> omega
 have hu := Jam (zS hS he ht).2 hle
 have hd : (0 :: KM (Wg b)).drop 1 = KM (Wg b) := rfl
 have hG : Qi (Wg b) 5 5 = 0 := Vx (by simp) (by simp)
 have h1 : JZ (Ki b.parent) 32 32 = (b.parent, 0) := Ya (by rw [hS.parent]; decide) (by rw [hS.parent]; decide)
 have h2 : JZ (Ki b.hash) 32 32 = (b.hash, 0) := Ya (by rw [hS.hash]; decide) (by rw [hS.hash]; decide)
 have h3 : KJ (QZ b.txs) 32 1 4096 = (b.txs, 0) := Jcj (by have := hS.len; omega) fun s hs => by have := hS.txs s hs; omega
 have hF : Jcl (Wg b).xs = (b, 0) := by
  show Jck (Ki b.parent) (Qk b.epoch) (Ki b.hash) (Qk b.time) (QZ b.txs) = _
  unfold Jck
  rw [h1, h2, h3, vK he, vK ht]; rfl
 unfold W3
 rw [hd, hu, if_neg (by simp), if_neg (by simp), if_neg (by simp), if_neg (by simp only [hG]; simp), hF, if_neg (by simp)]
end Go.Proofs.YtckoepmdmhdepaaGreatDoor
