import Derived.WalkKit
import Derived.CallsIn
import Derived.RangeFuncIn
import Derived.RangeFuncRecord
import Derived.RangeFuncSeq
import Derived.RangeFuncLeaves
import Derived.RangeFuncBound
import Derived.TacticsIn
import Derived.Shelf.Abstract
import Derived.Orders
import Derived.StillTail
import Derived.Sort.QuietThIn
import Derived.Sort.Grow
import Derived.ChangeKeysEq
import Derived.Laws.BytesString
namespace Go
theorem M' {α : Type} {a b : α} {l : List α} (h : a ∈ l) : a ∈ b :: l := List.mem_cons_of_mem _ h
theorem N' {α : Type} {a : α} {l : List α} : a ∈ a :: l := List.mem_cons_self
theorem O' {α : Type} {l : List α} : l.Perm l := List.Perm.refl _
theorem P' {α : Type} {x y : α} {l : List α} : (y :: x :: l).Perm (x :: y :: l) := List.Perm.swap _ _ _
theorem S' {α : Type} {l : List α} : List.Sublist [] l := List.nil_sublist _
theorem T' {α : Type} {l : List α} : l.Sublist l := List.Sublist.refl _
theorem U' {α : Type} {a b : α} : a ∈ [b] ↔ a = b := List.mem_singleton
theorem W' {α : Type} {a : α} {s t : List α} (h : a ∈ s) : a ∈ s ++ t := List.mem_append_left _ h
theorem Y' {α : Type} {a : α} {s t : List α} (h : a ∈ t) : a ∈ s ++ t := List.mem_append_right _ h
theorem Z' {n : Nat} : 0 ≤ n := Nat.zero_le _
theorem B' {α : Type} {l₁ l₂ : List α} : (l₁ ++ l₂).Perm (l₂ ++ l₁) := List.perm_append_comm
theorem C' {α : Type} {xs ys : List α} : (xs ++ ys).length = xs.length + ys.length := List.length_append
theorem D' {α β : Type} {xs : List α} (f : α → β) : (xs.map f).length = xs.length := List.length_map f
theorem F' {α : Type} {a b : α} {l : List α} : a ∈ b :: l ↔ a = b ∨ a ∈ l := List.mem_cons
theorem G' {α : Type} {a : α} {s t : List α} : a ∈ s ++ t ↔ a ∈ s ∨ a ∈ t := List.mem_append
theorem H' {n m : Nat} (h : Nat.ble n m = true) : n ≤ m := Nat.le_of_ble_eq_true h
theorem I' {α β : Type} {a : α} {l : List α} {f : α → β} (h : a ∈ l) : f a ∈ l.map f := List.mem_map_of_mem h
theorem J' {α : Type} {a b : α} (h : some a = some b) : a = b := Option.some.inj h
theorem La' {α : Type} {a : α} {l : List α} {i : Nat} : l[i]? = some a ↔ ∃ h : i < l.length, l[i] = a := List.getElem?_eq_some_iff
theorem Lb' {n m k : Nat} (h : n ≤ m) (g : m ≤ k) : n ≤ k := Nat.le_trans h g
theorem Lc' {n : Nat} : n ≤ n := Nat.le_refl _
theorem Ld' {α : Type} (xs ys zs : List α) : xs ++ ys ++ zs = xs ++ (ys ++ zs) := List.append_assoc xs ys zs
end Go
namespace Go.SL
theorem O {α : Sort _} {a : α} : a = a := rfl
set_option linter.all false
structure Bx (q : Prop) : Prop where
  of : q
variable {p q : Prop}
theorem m0 (h : p := by first | (simp only [Nat.zero_add, Nat.reduceAdd, Nat.reduceMul, Nat.zero_mul, Nat.mul_one, Nat.add_zero]; exact rfl) | exact rfl) : p := h
theorem m3 (h : p := by omega) : p := h
theorem m4 (h : p := by kernel_rfl) : p := h
theorem m5 (h : p := by first | (simp only [List.set_cons_zero, List.set_cons_succ]; exact rfl) | exact rfl) : p := h
theorem m6 (h : p := by first | (simp only [List.setIfInBounds_toArray, List.set_cons_zero, List.set_cons_succ]; exact rfl) | exact rfl) : p := h
theorem m7 (h : p := by decide) : p := h
theorem m8 (h : p := by exact H' rfl) : p := h
theorem m9 (h : p := by exact show _ = Value.int .i64 ((i + 1 : Nat) : Int) from by rw [wrap_i64 (by omega) (by omega)]; congr 1 <;> omega) : p := h
theorem ma (h : p := by assumption) : p := h
theorem mb (h : p := by first | exact (fun _ h => absurd h List.not_mem_nil) | simp [SubS] | (intro p hp; simp [hp])) : p := h
theorem mc (h : p := by intro e he; simp at he; rcases he with rfl | rfl | rfl | rfl | rfl <;> exact ⟨_, rfl⟩) : p := h
theorem me (h : p := by show (madeCells #[_] _).toList = _; rw [KI]; exact rfl) : p := h
theorem mf (h : p := by simp) : p := h
theorem mg (h : p := by first | rfl | omega) : p := h
theorem mh (h : p := by exact show _ = Value.bool false from KT (decide_eq_false (by omega))) : p := h
theorem mi (h : p := by show n * 3 + 3 ≤ (Kq its ++ [Value.bool false, .string ⟨#[]⟩, .slice none 0 0] ++ sp).length; rw [C', C', hrow.len]; simp) : p := h
theorem mj (h : p := by simp only; omega) : p := h
theorem ml (h : p := by first | exact O' | exact P' | exact V3 _ _ _ _) : p := h
theorem mm (h : p := by exact show _ = Value.int .i64 ((j + 1 : Nat) : Int) from by rw [wrap_i64 (by omega) (by omega)]; congr 1 <;> omega) : p := h
theorem mn (h : p := by rw [TxL.len]; decide) : p := h
theorem mo (h : p := by exact show _ = Value.int .i64 ((a + 1 : Nat) : Int) from by rw [wrap_i64 (by omega) (by omega)]; congr 1 <;> omega) : p := h
theorem mq (h : p := by simp only [*]; decide) : p := h
theorem mt (h : p := by exact show _ = Value.int .i64 (((lookE s p).2.1 + (lookE s p).2.2.1 : Nat) : Int) from by rw [wrap_i64 (by omega) (by omega)]; congr 1 <;> omega) : p := h
theorem mu (h : p := by rintro (h | h) <;> first | omega | exact absurd (h.symm.trans (show _ = false by assumption)) (by decide)) : p := h
theorem mw (h : p := by rcases F'.1 hq with rfl | hq; exact N'; exact (M' (M' (M' (M' hq))))) : p := h
theorem my (h : p := by rw [wrap_i64 (by omega) (by omega)]; omega) : p := h
theorem mz (h : p := by exact show i < xs.length by omega) : p := h
theorem mB (h : p := by rw [U'.1 hq]; exact N') : p := h
theorem mC (h : p := by first | omega | (simp only; omega)) : p := h
theorem mD (h : p := by rintro (h | h | h) <;> first | omega | exact absurd (h.symm.trans (show _ = false by assumption)) (by decide)) : p := h
theorem mF (h : p := by simp_all) : p := h
theorem mG (h : p := by rw [List.length_cons]; omega) : p := h
theorem mH (h : p := by rw [D', Ko]; rfl) : p := h
theorem mJ (h : p := by intro h; exact hne (of_decide_eq_true h)) : p := h
theorem mL (h : p := by simp; omega) : p := h
theorem mM (h : p := by rw [D']; omega) : p := h
theorem mN (h : p := by exact show _ = uV (i + 1) from congrArg (Value.int .u64) (by omega)) : p := h
theorem mO (h : p := by exact show _ = Value.int .i64 ((s.length - a : Nat) : Int) from by rw [wrap_i64 (by omega) (by omega)]; congr 1 <;> omega) : p := h
theorem mP (h : p := by exact show _ = Value.int .i64 ((l.length - 1 : Nat) : Int) from by rw [wrap_i64 (by omega) (by omega)]; congr 1 <;> omega) : p := h
theorem mQ (h : p := by rw [Vm]; exact Wz (k := 0) rfl) : p := h
theorem mR (h : p := by rw [h2, h3]; simpa using h) : p := h
theorem mS (h : p := by exact show _ = Value.int .i64 ((s.length - (Yj s a (((s.getD a 0).toNat - 128) % 64 - 55)).2.1 : Nat) : Int) from by rw [wrap_i64 (by omega) (by omega)]; congr 1 <;> omega) : p := h
theorem mT (h : p := by exact show CallsIn (FW c.ro) 0 c.P g vs.toArray w _ from hc) : p := h
theorem mV (h : p := by exact show _ = Value.int .i64 ((n + 8 : Nat) : Int) from by rw [wrap_i64 (by omega) (by omega)]; congr 1 <;> omega) : p := h
theorem mW (h : p := by exact show _ = Value.int .i64 ((n + 7 : Nat) : Int) from by rw [wrap_i64 (by omega) (by omega)]; congr 1 <;> omega) : p := h
theorem mX (h : p := by exact show _ = Value.int .i64 ((Ve n : Nat)) from congrArg (Value.int .i64) (Zq (by omega) (by decide) (by omega))) : p := h
theorem mY (h : p := by show ¬ y > 1; omega) : p := h
theorem mZ (h : p := by first | exact O' | exact P') : p := h
theorem n4 (h : p := by first | exact M' hq | exact M' (M' hq)) : p := h
theorem n5 (h : p := by rw [QK]; exact rfl) : p := h
theorem n6 (h : p := by rw [List.length_take]; omega) : p := h
theorem n7 (h : p := by rw [D', Ko]) : p := h
theorem n9 (h : p := by rw [List.take_length]) : p := h
theorem na (h : p := by exact show _ = Value.int .i64 ((((lookE s a).2.1 + (lookE s a).2.2.1) : Nat) : Int) from by rw [wrap_i64 (by omega) (by omega)]; congr 1 <;> omega) : p := h
theorem nc (h : p := by rw [h] at hr; cases hr) : p := h
theorem nd (h : p := by exact show _ = false by assumption) : p := h
theorem nf (h : p := by first | exact T' | exact S') : p := h
theorem ng (h : p := by first | (with_reducible (rw [D']; first | exact jb _)) | exact rfl) : p := h
theorem nh (h : p := by exact show _ = Value.int .i64 ((a + i : Nat) : Int) from congrArg (Value.int .i64) (by rw [wrap_i64 (by omega) (by omega)]; omega)) : p := h
theorem ni (h : p := by unfold QT; rw [if_neg (by omega), if_pos (by assumption)]) : p := h
theorem nj (h : p := by exact show _ = Value.int .i64 ((s.length - (a + 1) : Nat) : Int) from by rw [wrap_i64 (by omega) (by omega)]; congr 1 <;> omega) : p := h
theorem nk (h : p := by have h2 := h.chk; unfold txF at h2; rwa [hkk, hu, ← yer, ItL.er_xs] at h2) : p := h
theorem nl (h : p := by unfold QT; rw [if_neg (by omega), if_neg (by simp_all)]) : p := h
theorem nm (h : p := by rw [hsm]; rintro ⟨h1, h2⟩; first | omega | cases h1) : p := h
theorem np (h : p := by simp only [G', F', not_or]; exact ⟨hTR p hp, hnq, fun hm => apartR (.inl hm) p hp rfl⟩) : p := h
theorem nq (h : p := by exact show _ = Value.int .i64 ((s.length - uq : Nat) : Int) from by rw [wrap_i64 (by omega) (by omega)]; congr 1 <;> omega) : p := h
theorem nr (h : p := by exact show _ = Value.int .i64 ((30 * i + M : Nat) : Int) from by rw [wrap_i64 (by omega) (by omega)]; congr 1 <;> omega) : p := h
theorem nt (h : p := by simp only [hb]; exact T') : p := h
theorem nu (h : p := by intro e he; simp at he; rcases he with rfl | rfl <;> exact ⟨_, rfl⟩) : p := h
theorem nv (h : p := by exact show _ = Value.int .i64 ((a + 1 + i : Nat) : Int) from by rw [wrap_i64 (by omega) (by omega)]; congr 1 <;> omega) : p := h
theorem nw (h : p := by exact show _ = Value.int .i64 ((uq + un : Nat) : Int) from by rw [wrap_i64 (by omega) (by omega)]; congr 1 <;> omega) : p := h
theorem ny (h : p := by exact show _ = Value.int .i64 ((ua - 1 : Nat) : Int) from by rw [wrap_i64 (by omega) (by omega)]; congr 1 <;> omega) : p := h
theorem nz (h : p := by exact show _ = Value.int .i64 ((i - 1 : Nat) : Int) from by rw [wrap_i64 (by omega) (by omega)]; congr 1 <;> omega) : p := h
theorem nA (h : p := by exact show _ = Value.int .i64 ((a + n : Nat) : Int) from by rw [wrap_i64 (by omega) (by omega)]; congr 1 <;> omega) : p := h
theorem nB (h : p := by exact show _ = Value.int .i64 ((c + 1 : Nat) : Int) from by rw [wrap_i64 (by omega) (by omega)]; congr 1 <;> omega) : p := h
theorem nC (h : p := by rw [D', D']; exact hll) : p := h
theorem nD (h : p := by exact show _ = Value.int .i64 ((a : Nat) : Int) from by rw [wrap_i64 (by omega) (by omega)]; congr 1 <;> omega) : p := h
theorem nE (h : p := by intro e he; simp at he; rcases he with rfl <;> exact ⟨_, rfl⟩) : p := h
theorem nF (h : p := by rintro ⟨h1, h2⟩; first | omega | simp_all) : p := h
theorem nG (h : p := by intro h; have := of_decide_eq_false h; omega) : p := h
theorem nH (h : p := by rw [U'.1 hp]; simp) : p := h
theorem nI (h : p := by intro h; have := of_decide_eq_true h; omega) : p := h
theorem nJ (h : p := by rw [e]; exact N') : p := h
theorem nL (h : p := by rw [getD_replicate_false] at hl; cases hl) : p := h
theorem nM (h : p := by rw [D']; exact Lc') : p := h
theorem nN (h : p := by exact show _ = Value.bool true from congrArg Value.bool ((VZ _ _).trans (decide_eq_true hy2))) : p := h
theorem nO (h : p := by unfold Yn at hk; rcases hk with h | h | h <;> simp [h]) : p := h
theorem nP (h : p := by intro e he; simp at he; rcases he with rfl | rfl | rfl | rfl <;> exact ⟨_, rfl⟩) : p := h
theorem nQ (h : p := by rw [ItL.len]; rfl) : p := h
theorem nR (h : p := by intro h; have := beq_iff_eq.1 h; omega) : p := h
theorem nS (h : p := by simp only [G', F', not_or]; exact ⟨hTk p hp, g2, g1⟩) : p := h
theorem nT (h : p := by rw [ha]; rfl) : p := h
theorem nU (h : p := by exact show i < l.length by omega) : p := h
theorem nV (h : p := by rw [hW.len]; exact hk36) : p := h
theorem nW (h : p := by cases hdep) : p := h
theorem nX (h : p := by rw [List.length_drop]; omega) : p := h
theorem nY (h : p := by intro e he; simp at he; rcases he with rfl | rfl | rfl <;> exact ⟨_, rfl⟩) : p := h
theorem nZ (h : p := by exact show _ = Value.bool true from congrArg Value.bool (decide_eq_true (by omega))) : p := h
theorem M0 (h : p := by rintro _ _ _ ⟨_, rfl, _⟩; rfl) : p := h
theorem M1 (h : p := by unfold QT; rw [if_pos (by omega)]) : p := h
theorem M2 (h : p := by rw [List.length_drop, D']; omega) : p := h
theorem M3 (h : p := by exact show _ = uV ((Jf y6.er).1 - 35) from congrArg (Value.int .u64) (by omega)) : p := h
theorem M4 (h : p := by exact show _ = Km z.ys.length (Ke z.row) from KK z.ok) : p := h
theorem M5 (h : p := by rw [er_xs] at hy; obtain ⟨x, hx, rfl⟩ := Jgm hy; exact hall x hx) : p := h
theorem M6 (h : p := by exact show _ ≤ 64 from by omega) : p := h
theorem M7 (h : p := by exact show i < ys.length by omega) : p := h
theorem M8 (h : p := by exact show _ = Value.int .i64 5 from rfl) : p := h
theorem M9 (h : p := by simpa using (show m < ops.length by omega)) : p := h
theorem Ma (h : p := by show ¬ (y.kind < 0 ∨ y.kind > 2); omega) : p := h
theorem Mb (h : p := by simp only [hd1]; exact T') : p := h
theorem Mc (h : p := by have := V6 (s.getD i 0); omega) : p := h
theorem Md (h : p := by have := V6 (s.getD (a + 1 + i) 0); omega) : p := h
theorem Me (h : p := by cases row <;> rfl) : p := h
theorem Mf (h : p := by rw [hb']; rw [← Int.natCast_mul]; exact Int.ofNat_le.2 h48) : p := h
theorem Mg (h : p := by simp [Q7]; omega) : p := h
theorem Mh (h : p := by simp only [C', List.length_singleton]; rfl) : p := h
theorem Mi (h : p := by intro h; have := beq_iff_eq.1 h; unfold Yn at hk; omega) : p := h
theorem Mj (h : p := by rw [← wX hy]; exact .cons_cons _ (S')) : p := h
theorem Mk (h : p := by intro h; rw [hAct.1] at h; exact absurd h (by decide)) : p := h
theorem Ml (h : p := by simpa using ho) : p := h
theorem Mm (h : p := by exact show _ = Value.bool false from KT (decide_eq_false hm0)) : p := h
theorem Mn (h : p := by rw [ItL.len]; exact Lc') : p := h
theorem Mo (h : p := by show ¬ e0 ≠ 0; omega) : p := h
theorem Mp (h : p := by exact show (y :: r)[0]? = some y from rfl) : p := h
theorem Mq (h : p := by simpa using h) : p := h
theorem Mr (h : p := by exact show St c L X w.drew from hs.drew) : p := h
theorem Ms (h : p := by rw [D']; exact hl) : p := h
theorem Mt (h : p := by show source.length = 32; omega) : p := h
theorem Mu (h : p := by have := h.un; rwa [hu] at this) : p := h
theorem Mv (h : p := by rw [h2]; simp [← h]) : p := h
theorem Mw (h : p := by rintro (h | h) <;> first | omega | simp_all) : p := h
theorem Mx (h : p := by rw [D', hl.1]) : p := h
theorem My (h : p := by exact show m < ops.length by omega) : p := h
theorem Mz (h : p := by exact show 1 ≤ 1000000 by decide) : p := h
theorem MA (h : p := by intro h; simp_all) : p := h
theorem MB (h : p := by unfold JE at *; simp_all) : p := h
theorem MC (h : p := by rw [hk]; rfl) : p := h
theorem MD (h : p := by simp [hn]; omega) : p := h
theorem ME (h : p := by rw [hti]; decide) : p := h
theorem MF (h : p := by intro e he; simp at he) : p := h
theorem MG (h : p := by simpa using hk0) : p := h
theorem MH (h : p := by show ¬ e0 = 0; omega) : p := h
theorem MI (h : p := by simpa using ht) : p := h
theorem MJ (h : p := by simp at h ⊢; omega) : p := h
theorem MK (h : p := by rw [hdl]; exact hL.1) : p := h
theorem ML (h : p := by show e0 ≠ 0; omega) : p := h
theorem MM (h : p := by rw [hz3]; exact hz30) : p := h
theorem MN (h : p := by simp only [*]) : p := h
theorem MO (h : p := by rw [hx5]; rfl) : p := h
theorem MP (h : q) (k : Bx q → p := by
 intro zq
 refine LR O (Ja O O m0) ?_
 exact zq.1) : p := k ⟨h⟩
theorem MQ (h : q) (k : Bx q → p := by
 intro zq
 first | refine KC O ?_ | refine LK O ?_
 first | refine LR O (Jp O O) ?_ | refine LR O (Jy O O) ?_
 exact zq.1) : p := k ⟨h⟩
theorem MR (h : q) (k : Bx q → p := by
 intro zq
 refine JI O (LR O (Jb O O) (LR O (Jb O O) ?_))
 exact zq.1) : p := k ⟨h⟩
theorem MS (h : q) (k : Bx q → p := by
 intro zq
 refine LR O (Jc O (kn 0 O) O O) ?_
 exact zq.1) : p := k ⟨h⟩
theorem MT (h : q) (k : Bx q → p := by
 intro zq
 refine Jh O O (.cons (Jg O) (.cons (Jg O) .nil)) (fun w1 hs1 => ?_)
 revert w1 hs1
 exact zq.1) : p := k ⟨h⟩
theorem MU (h : q) (k : Bx q → p := by
 intro zq
 refine Jv 2 O ?_
 refine JR (cs := List.toArray (m.cells)) O O O O fun r3 => ?_
 refine JP 4 O ?_
 refine Kk [(r3, .cells (List.toArray m.cells) 42 (0, 0))] [(0, .pure), (1, .grow (V1 (0 : Nat) (fun r => .map (some r)) (fun r => [qz 0 r]))), (2, .pure), (3, .pure), (5, .pure), (6, .pure), (7, .pure), (8, .grow (Wg yF (.cells #[.nilFunc, .nilFunc, .nilFunc, .nilFunc] 131 (0, 0)))), (9, .turn), (10, .pure)] 11 [0, 2, 3, 1, 4, 5, 6, 7, 8, 9, 10] m4 m4 (fun p hp => hp) ?_
 refine Jr (k := 0) O O O O O (fun _ hS => (Jo (r := [_]) O O)) ?_
 refine Jr (k := 2) O O O O O (fun _ hS => (Ja O O m0)) ?_
 refine Jr (k := 3) O O O O O (fun _ hS => (Jc O (.inl (hS _ (J0 (n := 0) O))) O O)) ?_
 refine QV (k := 1) O O O O O wE (Wx 0) fun rm => ?_
 revert r3 rm
 exact zq.1) : p := k ⟨h⟩
theorem MV (h : q) (k : Bx q → p := by
 intro zq
 first | refine LR O (Jc O (kn 1 O) O O) ?_ | refine LK O ?_
 first | (refine LR O (Ja O O m0) ?_) | refine LK O ?_
 first | refine LR O (Jc O (kn 0 O) O O) ?_ | refine LK O ?_
 exact zq.1) : p := k ⟨h⟩
theorem MW (h : q) (k : Bx q → p := by
 intro zq
 refine pT O O O fun w1 hs1 => ?_
 refine ⟨?_, hs1.keep⟩
 revert w1 hs1
 exact zq.1) : p := k ⟨h⟩
theorem MY (h : q) (k : Bx q → p := by
 intro zq
 refine LR O (Jc O (kn 1 O) O O) ?_
 exact zq.1) : p := k ⟨h⟩
theorem N0 (h : q) (k : Bx q → p := by
 intro zq
 refine Jt O O O (Jw O) ?_
 refine Jt O O O (JH O O O) ?_
 exact zq.1) : p := k ⟨h⟩
theorem N1 (h : q) (k : Bx q → p := by
 intro zq
 refine J2 (k := 0) (n := 3) (cs' := #[_, _, _]) (vs := #[_, _, _]) O O O O O O O m8 O m5 ?_
 exact zq.1) : p := k ⟨h⟩
theorem MZ (h : q) (k : Bx q → p := by
 intro zq
 refine Kl ?_
 refine Jv 2 O ?_
 exact zq.1) : p := k ⟨h⟩
theorem N2 (h : q) (k : Bx q → p := by
 intro zq
 refine Jr (k := 16) O O O O O (fun _ hS => (Ja O O m0)) ?_
 refine WA (k := 17) (q := 0) (n := 4) (vs := #[_, _, _, _]) (cs' := List.toArray ({ n0 t with chain := t.chain, nonce := t.nonce, price := t.price }).cells) rfl rfl rfl rfl rfl rfl rfl rfl rfl m8 m4 rfl (fun p hp => by rw [U'.1 hp]; exact M' (M' N')) ?_
 refine Jr (k := 18) O O O O O (fun _ hS => (Ja O O m0)) ?_
 refine Qy (k := 19) (q := 0) (cs' := List.toArray ({ n0 t with chain := t.chain, nonce := t.nonce, price := t.price, y := t.y }).cells) rfl rfl rfl rfl rfl rfl rfl rfl rfl m4 rfl (fun p hp => by rw [U'.1 hp]; exact M' (M' N')) ?_
 refine Jr (k := 20) O O O O O (fun _ hS => (Ja O O m0)) ?_
 refine WA (k := 21) (q := 0) (n := 4) (vs := #[_, _, _, _]) (cs' := List.toArray ({ n0 t with chain := t.chain, nonce := t.nonce, price := t.price, y := t.y, r := t.r }).cells) rfl rfl rfl rfl rfl rfl rfl rfl rfl m8 m4 rfl (fun p hp => by rw [U'.1 hp]; exact M' (M' N')) ?_
 refine Jr (k := 22) O O O O O (fun _ hS => (Ja O O m0)) ?_
 refine WA (k := 23) (q := 0) (n := 4) (vs := #[_, _, _, _]) (cs' := List.toArray ({ n0 t with chain := t.chain, nonce := t.nonce, price := t.price, y := t.y, r := t.r, s := t.s }).cells) rfl rfl rfl rfl rfl rfl rfl rfl rfl m8 m4 rfl (fun p hp => by rw [U'.1 hp]; exact M' (M' N')) ?_
 exact zq.1) : p := k ⟨h⟩
theorem N3 (h : q) (k : Bx q → p := by
 intro zq
 refine pT O O O fun w1 hs1 => ?_
 revert w1 hs1
 exact zq.1) : p := k ⟨h⟩
theorem N4 (h : q) (k : Bx q → p := by
 intro zq
 first | refine LR O (Jp O O) ?_ | refine LR O (Jy O O) ?_
 exact zq.1) : p := k ⟨h⟩
theorem N6 (h : q) (k : Bx q → p := by
 intro zq
 refine Jr (k := 0) O O O O O (fun _ hS => (Ja O O m0)) ?_
 refine Jr (k := 1) O O O O O (fun _ hS => (Jc O (.inl (hS _ (J0 (n := 0) O))) O O)) ?_
 refine Jr (k := 2) O O O O O (fun _ hS => (Ja O O m0)) ?_
 refine Jr (k := 3) O O O O O (fun _ hS => (Jc O (.inl (hS _ (J0 (n := 0) O))) O O)) ?_
 refine Jr (k := 4) O O O O O (fun _ hS => (Ja O O m0)) ?_
 refine Jr (k := 5) O O O O O (fun _ hS => (Ki (vs := [_, _, _, _]) O (.inl (hS _ (J0 (n := 0) O))) O O O O)) ?_
 refine Jr (k := 6) O O O O O (fun _ hS => (Ja O O m0)) ?_
 refine Jr (k := 7) O O O O O (fun _ hS => (Jc O (.inl (hS _ (J0 (n := 0) O))) O O)) ?_
 exact zq.1) : p := k ⟨h⟩
theorem N7 (h : q) (k : Bx q → p := by
 intro zq
 first | (refine LR O (Ji (xs := [.int .i64 k, .bool ok, uV gas, Km xs.length (Ke row), .bool has, uV nonce, uV (Jf (QM ys.tail.tail.tail.tail).er).1]) (n := 7) O (kn 2 O) O O O) ?_) | (refine LR O (Ji (xs := [.int .i64 k, .bool ok, uV gas, Km xs.length (Ke row), .bool has, uV nonce, uV 0]) (n := 7) O (kn 2 O) O O O) ?_)
 first | (refine Je (k := 3) (n := 7) (ys := [.int .i64 k, .bool ok, uV gas, Km xs.length (Ke row), .bool has, uV nonce, uV (Jf (QM ys.tail.tail.tail.tail).er).1]) O O O O O O O O O ?_) | (refine Je (k := 3) (n := 7) (ys := [.int .i64 k, .bool ok, uV gas, Km xs.length (Ke row), .bool has, uV nonce, uV 0]) O O O O O O O O O ?_)
 refine JD 3 O ?_
 exact zq.1) : p := k ⟨h⟩
theorem N5 (h : q) (k : Bx q → p := by
 intro zq
 refine MP ?_
 refine MS ?_
 exact zq.1) : p := k ⟨h⟩
theorem N8 (h : q) (k : Bx q → p := by
 intro zq
 refine Wa O O ?_
 refine Jh O O (.cons (Jj (vs := tx0L.cells) O (kn 0 O) O O) (.cons (JX O (kn 1 O) O O) .nil)) (fun w1 hs1 => ?_)
 revert w1 hs1
 exact zq.1) : p := k ⟨h⟩
theorem N9 (h : q) (k : Bx q → p := by
 intro zq
 refine J5 5 O ?_
 first | (refine LR O (Ji (xs := ({ tx0L with nonce := (Jf y0.er).1, price := (Jn y1.er).1, gas := (Jf y2.er).1, dest := (JK y3.er).1, value := (Jn y4.er).1, data := (Js y5.er 0 (4096 : Nat)).1, r := (Jn y7.er).1, s := (Jn y8.er).1, y := (Jf y6.er).1 - 27 } : TxL).cells) (n := 36) rfl (kn 1 rfl) rfl rfl rfl) ?_) | (refine LR O (Ji (xs := ({ tx0L with nonce := (Jf y0.er).1, price := (Jn y1.er).1, gas := (Jf y2.er).1, dest := (JK y3.er).1, value := (Jn y4.er).1, data := (Js y5.er 0 (4096 : Nat)).1, r := (Jn y7.er).1, s := (Jn y8.er).1, chain := ((Jf y6.er).1 - 35) / 2, y := ((Jf y6.er).1 - 35) % 2 } : TxL).cells) (n := 36) rfl (kn 1 rfl) rfl rfl rfl) ?_)
 first | (refine Je (k := 2) (n := 36) (ys := ({ tx0L with nonce := (Jf y0.er).1, price := (Jn y1.er).1, gas := (Jf y2.er).1, dest := (JK y3.er).1, value := (Jn y4.er).1, data := (Js y5.er 0 (4096 : Nat)).1, r := (Jn y7.er).1, s := (Jn y8.er).1, y := (Jf y6.er).1 - 27 } : TxL).cells) rfl rfl rfl rfl rfl rfl rfl rfl rfl ?_) | (refine Je (k := 2) (n := 36) (ys := ({ tx0L with nonce := (Jf y0.er).1, price := (Jn y1.er).1, gas := (Jf y2.er).1, dest := (JK y3.er).1, value := (Jn y4.er).1, data := (Js y5.er 0 (4096 : Nat)).1, r := (Jn y7.er).1, s := (Jn y8.er).1, chain := ((Jf y6.er).1 - 35) / 2, y := ((Jf y6.er).1 - 35) % 2 } : TxL).cells) rfl rfl rfl rfl rfl rfl rfl rfl rfl ?_)
 exact zq.1) : p := k ⟨h⟩
theorem Na (h : q) (k : Bx q → p := by
 intro zq
 refine JR (cs := List.toArray (ItL.cells (.mk l b p xs))) O O O O fun r3 => ?_
 refine J5 6 O ?_
 refine LR O (Ki (vs := [_, _, _]) O (kn 0 O) O O O O) ?_
 refine LR O (Jc O (Or.inr h1) O O) ?_
 refine Ju O O O vh hgl oR ?_
 refine MR ?_
 refine J5 13 O ?_
 revert r3
 exact zq.1) : p := k ⟨h⟩
theorem Nb (h : q) (k : Bx q → p := by
 intro zq
 first | refine LR O (Jc O (kn 1 O) O O) ?_ | refine LK O ?_
 exact zq.1) : p := k ⟨h⟩
theorem Nd (h : q) (k : Bx q → p := by
 intro zq
 refine JD 2 O ?_
 refine JS ?_
 exact zq.1) : p := k ⟨h⟩
theorem Nh (h : q) (k : Bx q → p := by
 intro zq
 first | refine LR O (Jc O (kn 0 O) O O) ?_ | refine LK O ?_
 exact zq.1) : p := k ⟨h⟩
theorem Nf (h : q) (k : Bx q → p := by
 intro zq
 refine Kk [(r0, .cells (List.toArray t.cells) 33 (0, 0))] [(0, .pure), (1, .pure), (2, .pure), (3, .pure), (4, .pure), (5, .pure), (6, .pure), (7, .pure), (8, .pure), (9, .pure), (10, .pure), (11, .pure), (12, .pure), (13, .turn), (14, .pure), (15, .turn), (16, .pure), (17, .turn), (18, .pure), (19, .turn), (20, .pure), (21, .turn), (22, .pure), (23, .turn)] 24 [0, 1, 2, 3, 4, 5, 6, 7, 8, 9, 10, 11, 12, 13, 14, 15, 16, 17, 18, 19, 20, 21, 22, 23] m4 m4 (fun p hp => by rw [U'.1 hp]; exact M' (M' N')) ?_
 refine N6 ?_
 refine Jr (k := 8) O O O O O (fun _ hS => (Ja O O m0)) ?_
 refine Jr (k := 9) O O O O O (fun _ hS => (Ki (vs := [_, _, _, _]) O (.inl (hS _ (J0 (n := 0) O))) O O O O)) ?_
 refine Jr (k := 10) O O O O O (fun _ hS => (Ja O O m0)) ?_
 refine Jr (k := 11) O O O O O (fun _ hS => (Ki (vs := [_, _, _, _]) O (.inl (hS _ (J0 (n := 0) O))) O O O O)) ?_
 refine Jr (k := 12) O O O O O (fun _ hS => (Ja O O m0)) ?_
 refine Qy (k := 13) (q := 0) (cs' := List.toArray ({ n0 t with chain := t.chain }).cells) rfl rfl rfl rfl rfl rfl rfl rfl rfl m4 rfl (fun p hp => by rw [U'.1 hp]; exact M' (M' N')) ?_
 exact zq.1) : p := k ⟨h⟩
theorem Ng (h : p := by
 refine N3 fun w1 hs1 => ?_
 exact ⟨rfl, hs1.keep⟩) : p := h
theorem Nj (h : q) (k : Bx q → p := by
 intro zq
 refine Ws O O ?_
 refine J2 (k := 0) (n := 3) (vs := x.cells.toArray) (cs' := (Kq its ++ x.cells ++ sp).toArray) O O O O O (ItL.len _) (ItL.one _) mi (congrArg List.toArray (Zy hrow.len O)) O ?_
 refine Y9 ?_
 exact zq.1) : p := k ⟨h⟩
theorem Nk (h : q) (k : Bx q → p := by
 intro zq
 refine Jt O O O (Ja O O m0) ?_
 refine Jt O O O (Jc O (kn 0 O) O O) ?_
 exact zq.1) : p := k ⟨h⟩
theorem Nl (h : q) (k : Bx q → p := by
 intro zq
 refine LR O (Jo (r := [_, _, _, _]) O O) ?_
 refine J2 (k := 0) (n := 4) (cs' := #[_, _, _, _]) (vs := #[_, _, _, _]) O O O O O O O m8 O m5 ?_
 exact zq.1) : p := k ⟨h⟩
theorem F8 (h : q) (k : Bx q → p := by
 intro zq
 refine Jt O O O (Jw O) ?_
 refine Jt O O O (Kt (kl := some (.i64, 1)) (kh := none) (m := 1) (n := s.length) O O O O O O hpos (Lc') (r := s.drop 1) n9) ?_
 refine Jt O O O (J7 O) ?_
 refine Jt O O O (J7 O) ?_
 refine KR ?_
 exact zq.1) : p := k ⟨h⟩
theorem Nm (h : q) (k : Bx q → p := by
 intro zq
 refine Jr (k := 5) O O O O O (fun _ hS => (Jw O)) ?_
 refine Jr (k := 6) O O O O O (fun _ hS => (Jb O O)) ?_
 refine Jr (k := 7) O O O O O (fun _ hS => (Jb O O)) ?_
 refine Vv (k := 8) (cs := #[_, _, _, _]) O O O O O O fun r5 => ?_
 revert r5
 exact zq.1) : p := k ⟨h⟩
theorem Nn (h : p := by
 refine LR O (Ji (xs := [.bool true, Jk [], JV its.length row]) (n := 3) O (kn 2 O) O O O) ?_
 refine Je (k := 7) (n := 3) (ys := [.bool true, Jk [], JV its.length row]) O O O O O O O honeV O ?_
 refine JD 3 O ?_
 refine Wp (k := 0) O O ?_
 refine J07 (r3 := r3) (q := q) (de := de) (e := e) (k := 1) (m := 8) O m3 O O O m7 ?_
 refine Jh O O (.cons (Jj (vs := [_, _, _]) O (kn 7 O) O O) .nil) (fun w1 hs1 => ?_)
 have hvr : JV its.length row = Km its.length (Ke row) := KK hrow
 exact ⟨⟨.mk true [] (Ke row) its, J9 91 (Kq its) row ++ F, e, Jan m3 hrow (fun q h => W' h) (fun x hx => (hF x hx).mono fun q hq => Y' hq), hf1, fun h0 => (Jao _ _).trans (by rw [hf2 h0]; rfl)⟩, congrArg (fun z => Ending.returned (Value.agg #[.bool true, Jk [], z])) hvr, hs1.weakL (.cons _ (.cons_cons _ (.cons _ (.cons _ (.cons _ (.cons _ (.cons _ (.cons _ (.cons _ (T'))))))))))⟩) : p := h
theorem No (h : q) (k : Bx q → p := by
 intro zq
 refine LR O (JZ O hs O) ?_
 refine JP 4 O ?_
 exact zq.1) : p := k ⟨h⟩
theorem Np (h : q) (k : Bx q → p := by
 intro zq
 refine MT fun w1 hs1 => ?_
 refine ⟨?_, hs1.keep⟩
 revert w1 hs1
 exact zq.1) : p := k ⟨h⟩
theorem Nq (h : q) (k : Bx q → p := by
 intro zq
 refine LR O (JG (j := i) O hs O O O mg m3) ?_
 exact zq.1) : p := k ⟨h⟩
theorem Nr (h : q) (k : Bx q → p := by
 intro zq
 refine Kk [(r0, .cells (List.toArray f.cells) 72 (0, 0))] [(0, .pure), (1, .pure), (2, .pure), (3, .pure), (4, .pure), (5, .pure), (6, .pure), (7, .pure), (8, .pure), (9, .pure), (10, .pure), (11, .pure), (12, .dep [14, 17, 21, 23, 24] (Jhu 5 9)), (13, .turn), (14, .pure), (15, .pure)] 16 [0, 1, 2, 3, 4, 5, 6, 7, 8, 9, 10, 11, 12, 13, 14, 15] m4 m4 (fun p hp => hp) ?_
 refine Jr (k := 0) O O O O O (fun _ hS => (Ja O O m0)) ?_
 refine Jr (k := 1) O O O O O (fun _ hS => (Jc O (.inl (hS _ (J0 (n := 0) O))) O O)) ?_
 refine Jr (k := 2) O O O O O (fun _ hS => (Ja O O m0)) ?_
 refine Jr (k := 3) O O O O O (fun _ hS => (Jc O (.inl (hS _ (J0 (n := 0) O))) O O)) ?_
 refine VD (k := 4) O O O O O Jh4 (jN (w := 2) m7 m3) ?_
 refine Jr (k := 5) O O O O O (fun _ hS => (Ja O O m0)) ?_
 refine Jr (k := 6) O O O O O (fun _ hS => (Jc O (.inl (hS _ (J0 (n := 0) O))) O O)) ?_
 exact zq.1) : p := k ⟨h⟩
theorem Ns (h : q) (k : Bx q → p := by
 intro zq
 first | refine JI O ?_ | refine LK O ?_
 exact zq.1) : p := k ⟨h⟩
theorem Nt (h : q) (k : Bx q → p := by
 intro zq
 refine J2 (k := 1) (n := 3) (cs' := #[_, _, _]) (vs := #[_, _, _]) O O O O O O O m8 O m5 ?_
 exact zq.1) : p := k ⟨h⟩
theorem Nu (h : q) (k : Bx q → p := by
 intro zq
 refine J1 Tryz.func33 O O fun w => ?_
 refine MZ ?_
 refine JR (cs := List.toArray (t.cells)) O O O O fun r0 => ?_
 refine JP 11 O ?_
 refine Kk [] [(0, .grow (V1 (0 : Nat) (fun r => .map (some r)) (fun r => [wU r]))), (1, .pure), (4, .pure), (5, .pure)] 6 [1, 2, 0, 3, 4, 5] m4 m4 mb ?_
 refine Jr (k := 1) O O O O O (fun _ hS => (Ja O O m0)) ?_
 refine Xk (k := 2) O O O O O (Jc O (kn 0 O) O O) ?_
 refine QV (k := 0) O O O O O Jad YD fun mr => ?_
 revert w r0 mr
 exact zq.1) : p := k ⟨h⟩
theorem Nw (h : q) (k : Bx q → p := by
 intro zq
 first | refine Jt O O O (Jw O) ?_ | refine Kp O O O ?_
 first | refine Jt O O O (JH O O O) ?_ | refine Kp O O O ?_
 first | (refine Jt O O O (Ja O O m0) ?_) | refine Kp O O O ?_
 first | refine Jt O O O (Jc O (kn 0 O) O O) ?_ | refine Kp O O O ?_
 exact zq.1) : p := k ⟨h⟩
theorem Nx (h : q) (k : Bx q → p := by
 intro zq
 refine Jm (k := 0) O O O O O O O O m6 m5 ?_
 exact zq.1) : p := k ⟨h⟩
theorem Ny (h : q) (k : Bx q → p := by
 intro zq
 change HS _ _ _ _ _ _ [0, 1, 2, 3, 4, 5, 6, 7] _ _
 refine Y8 O O O O (fun a w hf => rfl) hrv hrc ?_
 refine Yf O O O O (JH O O O) ?_
 refine Yf O O O O (Jw O) ?_
 refine Yf O O O O (Jb O O) ?_
 refine Yf O O O O (Jb O O) ?_
 refine Zk O XC O O (LN O fun r2 => W9 (XB ?_))
 refine Zk O XD O O (J2 (k := 0) (n := 1) (cs' := #[_]) (vs := #[_]) O O O O O O O m8 O O (W9 (XB ?_)))
 revert r2
 exact zq.1) : p := k ⟨h⟩
theorem Nz (h : q) (k : Bx q → p := by
 intro zq
 refine LR O (JJ O O) ?_
 exact zq.1) : p := k ⟨h⟩
theorem NA (h : q) (k : Bx q → p := by
 intro zq
 refine N3 fun w1 hs1 => ?_
 refine ⟨congrArg (fun z => Ending.returned (Value.bool z)) ?_, hs1.keep⟩
 revert w1 hs1
 exact zq.1) : p := k ⟨h⟩
theorem HE (h : q) (k : Bx q → p := by
 intro zq
 refine Ku 1 O ?_
 refine KB 7 m4 m4 ?_
 refine Jt O O O (Jw O) ?_
 refine Jt O O O (JW (j := 0) (n := ((s.getD 0 0).toNat : Int)) O O O O hpos O) ?_
 refine Jt O O O (JH O O O) ?_
 refine QA m3 m3 ?_
 exact zq.1) : p := k ⟨h⟩
theorem NB (h : q) (k : Bx q → p := by
 intro zq
 refine Jq Tryz.func58 O O fun w => ?_
 refine MZ ?_
 refine LN O fun r6 => ?_
 refine J5 6 O ?_
 refine LR O (Jo (r := [_]) O O) ?_
 refine KG O O O wE (Wx ch) fun rm => ?_
 refine JI O ?_
 revert w r6 rm
 exact zq.1) : p := k ⟨h⟩
theorem NC (h : q) (k : Bx q → p := by
 intro zq
 refine Kl ?_
 refine Jv 9 O ?_
 refine No ?_
 refine JQ (σ := Nat) (fun i => i ≤ xs.length ∧ ∀ j, j < i → ∀ y, xs[j]? = some y → pr y = false) (fun i => [(0, Km xs.length p), (1, .func (.func g) #[] caps.toArray), (7, .int .i64 (xs.length : Int)), (8, .int .i64 (i : Int))]) (fun _ => []) (fun _ _ _ => True) (fun i => xs.length - i) 0 ⟨by omega, fun j hj => absurd hj m3⟩ (lK rfl) (S') (fun _ _ h => h) ?_
 exact zq.1) : p := k ⟨h⟩
theorem ND (h : p := by
 refine J5 4 O ?_
 refine LR O (Ji (xs := y.cells) (n := 3) O (kn 0 O) O O (ItL.len _)) ?_
 refine Je (k := 1) (n := 3) (ys := y.cells) O O O O O (ItL.len _) O (ItL.one _) O ?_
 refine JD 3 O ?_
 refine Jh O O (.cons (Jj (vs := y.cells) O (kn 1 O) O nQ) .nil) (fun w1 hs1 => ?_)
 exact ⟨(), rfl, hs1.weakL (.cons _ (.cons _ (T')))⟩) : p := h
theorem NE (h : q) (k : Bx q → p := by
 intro zq
 refine Jr (k := 0) O O O O O (fun _ hS => (Jw O)) ?_
 refine Jr (k := 1) O O O O O (fun _ hS => (JH O O O)) ?_
 refine Jr (k := 2) O O O O O (fun _ hS => (Ja O O m0)) ?_
 exact zq.1) : p := k ⟨h⟩
theorem NF (h : p := by
 refine LR O (Ji (xs := wC (Jn y.er).1) (n := 4) O (kn 1 O) O O O) ?_
 refine KC O ?_
 refine J2 (k := 4) (n := 4) (cs' := (pre ++ ((a.take kj ++ wC (Jn y.er).1 ++ a.drop (kj + 4)) ++ post)).toArray) (vs := (wC (Jn y.er).1).toArray) O O O O O O O (yn nV) (jT nV) O ?_
 refine J5 5 O ?_
 refine J4 mm ?_
 refine Nd ?_
 refine Wy (A := [_, _, _, _, _]) (A' := [_, _, _, _]) [3, 0, 2, 4] m7 O ?_
 exact JL (j + 1, a.take kj ++ wC (Jn y.er).1 ++ a.drop (kj + 4), JU 3 1 pj, JE zj (Jn y.er).2) ⟨by show j + 1 ≤ 2; omega, by simp only [C', List.length_take, List.length_drop, hW.len]; show min kj 36 + 4 + _ = 36; omega, by rw [hd1]; exact Jd hsg, by rw [hW.eq, hd, hw, hd1, hw1]; rfl⟩ mj (lK rfl) Mb (fun _ _ h => h)) : p := h
theorem NH (h : q) (k : Bx q → p := by
 intro zq
 refine MP ?_
 refine MY ?_
 refine MP ?_
 refine MY ?_
 refine MP ?_
 exact zq.1) : p := k ⟨h⟩
theorem NI (h : q) (k : Bx q → p := by
 intro zq
 refine LR O (Jo (r := [_, _, _]) O O) ?_
 exact zq.1) : p := k ⟨h⟩
theorem NG (h : q) (k : Bx q → p := by
 intro zq
 refine Jv 2 O ?_
 exact zq.1) : p := k ⟨h⟩
theorem NJ (h : p := by
 refine Jh O O .nil (fun w1 hs1 => ?_)
 obtain ⟨xs1, hx1⟩ := hs1.now
 exact ⟨⟨_, rfl⟩, hs1.keep, .inr ⟨_, hx1⟩⟩) : p := h
theorem NK (h : q) (k : Bx q → p := by
 intro zq
 refine Jv 4 O ?_
 refine LR O (Ji (xs := y.x.cells) (n := 60) O (kn 0 O) O O O) ?_
 refine Je (k := 3) (n := 60) (ys := y.x.cells) O O O O O O O O O ?_
 refine JD 4 O ?_
 exact zq.1) : p := k ⟨h⟩
theorem NL (h : q) (k : Bx q → p := by
 intro zq
 refine ⟨congrArg (fun z => Ending.returned (Value.int .i64 z)) ?_, hs1.keep⟩
 exact zq.1) : p := k ⟨h⟩
theorem NM (h : q) (k : Bx q → p := by
 intro zq
 refine LR O (Jc O (Kn (k := 0) O) O O) ?_
 exact zq.1) : p := k ⟨h⟩
theorem NN (h : q) (k : Bx q → p := by
 intro zq
 refine Ws O O ?_
 refine Jm (k := 4) (cs' := #[.bool true, Jk [], JV (n + 1) (some (ra, cap, sp))]) O O O O O O O O O O ?_
 refine Y9 ?_
 exact zq.1) : p := k ⟨h⟩
theorem NO (h : q) (k : Bx q → p := by
 intro zq
 change HL _ _ _ ((r8, _) :: (rm, _) :: (r6, _) :: y.L) _ _ _ _
 refine MR ?_
 refine LN O fun r10 => ?_
 refine Je (k := 0) (n := 60) (ys := y.x.cells) O O O O O O O O O ?_
 refine JP 10 O ?_
 revert r10
 exact zq.1) : p := k ⟨h⟩
theorem NR (h : q) (k : Bx q → p := by
 intro zq
 refine LR O (JN O O) ?_
 exact zq.1) : p := k ⟨h⟩
theorem Nv (h : q) (k : Bx q → p := by
 intro zq
 refine LR O (JW (j := 0) (n := ((s.getD 0 0).toNat : Int)) O O O O hpos O) ?_
 exact zq.1) : p := k ⟨h⟩
theorem NS (h : q) (k : Bx q → p := by
 intro zq
 refine MP ?_
 refine J2 (k := 1) (n := 4) (cs' := List.toArray (({ tx0L with chain := (Jf y0.er).1, nonce := (Jf y1.er).1, tip := (Jn y2.er).1, price := (Jn y3.er).1 } : TxL)).cells) (vs := #[_, _, _, _]) rfl rfl rfl rfl rfl rfl rfl m8 m4 rfl ?_
 refine MP ?_
 refine Jm (k := 1) (cs' := List.toArray (({ tx0L with chain := (Jf y0.er).1, nonce := (Jf y1.er).1, tip := (Jn y2.er).1, price := (Jn y3.er).1, gas := (Jf y4.er).1 } : TxL)).cells) rfl rfl rfl rfl rfl rfl rfl rfl m4 rfl ?_
 refine MP ?_
 refine Jm (k := 1) (cs' := List.toArray (({ tx0L with chain := (Jf y0.er).1, nonce := (Jf y1.er).1, tip := (Jn y2.er).1, price := (Jn y3.er).1, gas := (Jf y4.er).1, dest := (JK y5.er).1 } : TxL)).cells) rfl rfl rfl rfl rfl rfl rfl rfl m4 rfl ?_
 refine J5 5 O ?_
 exact zq.1) : p := k ⟨h⟩
theorem NT (h : q) (k : Bx q → p := by
 intro zq
 refine MZ ?_
 refine JR (cs := List.toArray ([.bool l, Jk b, Km xs.length p])) O O O O fun r0 => ?_
 revert r0
 exact zq.1) : p := k ⟨h⟩
theorem NU (h : q) (k : Bx q → p := by
 intro zq
 refine Je (k := 1) (n := 36) O O O O O O O O O ?_
 refine JD 3 O ?_
 refine Jh O O (.cons (Jj (vs := [_, _, _, _, _, _, _, _, _, _, _, _, _, _, _, _, _, _, _, _, _, _, _, _, _, _, _, _, _, _, _, _, _, _, _, _]) O (kn 1 O) O O) .nil) (fun w1 hs1 => ?_)
 revert w1 hs1
 exact zq.1) : p := k ⟨h⟩
theorem NV (h : q) (k : Bx q → p := by
 intro zq
 refine LN O fun r2 => ?_
 refine LN O fun r3 => ?_
 refine J5 4 O ?_
 refine NR ?_
 refine Xn (caps := [Kj r2, Kj r3]) O O O ?_ O
 refine J5 6 O ?_
 refine LR O (Qa O O) ?_
 refine JP 2 O ?_
 revert r2 r3
 exact zq.1) : p := k ⟨h⟩
theorem NW (h : p := by
 refine JD 1 O (vf 7 O ?_)
 refine Jh O O .nil (fun w1 hs1 => ?_)
 obtain ⟨xs1, hx1⟩ := hs1.now
 first | exact ⟨⟨_, rfl⟩, hs1.keep, .inr ⟨_, hx1⟩⟩ | exact ⟨⟨_, rfl⟩, hs1.keep, .inl ⟨_, _, rfl, hx1⟩⟩) : p := h
theorem NY (h : q) (k : Bx q → p := by
 intro zq
 refine Nb ?_
 refine Ns ?_
 first | (refine Ju O O O Jnk (WN (R := okB r3 :: R) (caps := [Kj r3]) (pr := fun a => Wh a.er) ht.accL (ht.accS.mono fun q hq => M' hq) Jnq (fun x hx => wR (ht.acc x hx) r3)) (fun q hq => (F'.1 hq).elim (fun e => Or.inl nJ) Or.inr) ?_) | refine LK O ?_
 refine N4 ?_
 refine JI O ?_
 exact zq.1) : p := k ⟨h⟩
theorem NZ (h : q) (k : Bx q → p := by
 intro zq
 refine N3 fun w1 hs1 => ?_
 refine ⟨congrArg (fun b => Ending.returned (Value.bool b)) ?_, hs1.keep⟩
 revert w1 hs1
 exact zq.1) : p := k ⟨h⟩
theorem kg (h : q) (k : Bx q → p := by
 intro zq
 refine LR O (Jb O O) ?_
 refine LR O (Jb O O) ?_
 exact zq.1) : p := k ⟨h⟩
theorem ki (h : q) (k : Bx q → p := by
 intro zq
 rw [hK]
 refine NG ?_
 refine Na fun r3 => ?_
 refine LR O (Qh O O) ?_
 refine JP 4 O ?_
 refine JQ (σ := Unit) (fun _ => True) (fun _ => [(7, .int .i64 (Ka (ItL.er (.mk l b p xs)) 0 n)), (8, .slice none 0 0), (18, .int .i64 0), (19, .int .i64 0)]) (fun _ => []) (fun _ _ _ => True) (fun _ => 0) () trivial (lK O) (S') (fun _ _ h => h) ?_
 revert r3
 exact zq.1) : p := k ⟨h⟩
theorem ko (h : q) (k : Bx q → p := by
 intro zq
 first | refine LR O (JJ O O) ?_ | refine LK O ?_
 exact zq.1) : p := k ⟨h⟩
theorem kq (h : q) (k : Bx q → p := by
 intro zq
 refine Jh O O (.cons (Jj (vs := [_, _, _]) O (kn 1 O) O O) (.cons (Jg O) .nil)) (fun w1 hs1 => ?_)
 revert w1 hs1
 exact zq.1) : p := k ⟨h⟩
theorem NQ (h : q) (k : Bx q → p := by
 intro zq
 refine JP 3 O ?_
 exact zq.1) : p := k ⟨h⟩
theorem ku (h : q) (k : Bx q → p := by
 intro zq
 refine Jr (k := 2) O O O O O (fun _ hS => (Jw O)) ?_
 exact zq.1) : p := k ⟨h⟩
theorem F9 (h : q) (k : Bx q → p := by
 intro zq
 refine LR O (Jo (r := (QY 0).cells) O m4) ?_
 refine JI O (Je (k := 3) (n := 60) (ys := (QY 0).cells) O O O O O O O O O (JD 5 O ?_))
 exact zq.1) : p := k ⟨h⟩
theorem kH (h : p := by
 refine KF 11 O ?_
 refine MW fun w1 hs1 => ?_
 rw [decide_eq_false (wB (i := i) (x := x.er) (y := y.er) (by rw [List.getElem?_map, hx]; rfl) (by rw [List.getElem?_map, hy]; rfl) mF)]
 rfl) : p := h
theorem kI (h : q) (k : Bx q → p := by
 intro zq
 refine LR O (Jc O (kn 2 O) O O) ?_
 exact zq.1) : p := k ⟨h⟩
theorem kA (h : q) (k : Bx q → p := by
 intro zq
 refine LR O (Ki (vs := [_, _, _, _]) O (kn 1 O) O O O O) ?_
 refine MP ?_
 refine LR O (Ki (vs := [_, _, _, _]) O (kn 1 O) O O O O) ?_
 refine MP ?_
 refine LR O (Ki (vs := [_, _, _, _]) O (kn 1 O) O O O O) ?_
 exact zq.1) : p := k ⟨h⟩
theorem kB (h : q) (k : Bx q → p := by
 intro zq
 refine J5 5 O ?_
 exact zq.1) : p := k ⟨h⟩
theorem kC (h : p := by
 refine JD 9 O ?_
 refine N3 fun w1 hs1 => ?_
 exact .inl ⟨h1 hk1 hok0, x, rfl, hs1.perm (B' (l₁ := LL x))⟩) : p := h
theorem kD (h : q) (k : Bx q → p := by
 intro zq
 refine Jv 1 O ?_
 refine Nq ?_
 refine LR O (Ky ItL.len oR O hs hy O O) ?_
 refine LN O fun rx => ?_
 refine Je (k := 0) (n := 3) (ys := y.cells) O O O O O (ItL.len y) O (ItL.one y) O ?_
 refine J5 4 O ?_
 refine LR O (Jc O (Or.inr h2) O O) ?_
 refine LR O (Ji (xs := y.cells) (n := 3) O (kn 0 O) O O (ItL.len y)) ?_
 revert rx
 exact zq.1) : p := k ⟨h⟩
theorem kT (h : q) (k : Bx q → p := by
 intro zq
 refine MZ ?_
 refine LN O fun r1 => ?_
 revert r1
 exact zq.1) : p := k ⟨h⟩
theorem kJ (h : q) (k : Bx q → p := by
 intro zq
 refine Jh O O (.cons (Jj (vs := [_, _, _]) O (kn 0 O) O O) (.cons (Jg O) .nil)) (fun w1 hs1 => ?_)
 revert w1 hs1
 exact zq.1) : p := k ⟨h⟩
theorem kK (h : q) (k : Bx q → p := by
 intro zq
 refine wc [] [(0, .pure), (1, .pure), (3, .pure), (4, .pure), (5, .act (jz 2 (.cells ((KL s 3).map sV).toArray 40 (0, 0)))), (6, .pure), (7, .pure)] 8 m4 m4 mb ?_
 refine ZH O O O O (fun _ hS => (Jw O)) ?_
 refine ZH O O O O (fun _ hS => (JH O O O)) ?_
 refine qL m3 m3 ?_
 refine Jxi O O O O (Ji (xs := (KL s 3).map sV) (n := 3) O (kn 1 O) O O n7) ?_
 refine ZH O O O O (fun _ hS => (Jw O)) ?_
 refine ZH O O O O (fun _ hS => (J7 O)) ?_
 refine qK (q := 2) (n := 3) O O O O O O O O O O O mb ?_
 exact zq.1) : p := k ⟨h⟩
theorem kL (h : q) (k : Bx q → p := by
 intro zq
 refine Ku 1 O ?_
 refine KB 2 m4 m4 ?_
 refine Jt O O O (Ji (xs := (KL s 0).map sV) (n := 3) O (kn 1 O) O O n7) ?_
 refine Jt O O O (J7 O) ?_
 refine KR ?_
 refine Je (k := 2) (n := 3) (ys := (KL s 0).map sV) O O O O O n7 O (jX _) O ?_
 refine JD 7 O ?_
 exact zq.1) : p := k ⟨h⟩
theorem NP (h : q) (k : Bx q → p := by
 intro zq
 refine Jr (k := 1) O O O O O (fun _ hS => (Jc O (.inl (hS _ (J0 (n := 0) O))) O O)) ?_
 exact zq.1) : p := k ⟨h⟩
theorem kM (h : q) (k : Bx q → p := by
 intro zq
 refine LR O (Jo (r := ({ tx0L with chain := (Jf y0.er).1, nonce := (Jf y1.er).1 } : TxL).cells) rfl m4) ?_
 refine LN O fun r5 => ?_
 refine Je (k := 0) (n := 36) (ys := ({ tx0L with chain := (Jf y0.er).1, nonce := (Jf y1.er).1 } : TxL).cells) rfl rfl rfl rfl rfl rfl rfl rfl rfl ?_
 refine JP 9 O ?_
 revert r5
 exact zq.1) : p := k ⟨h⟩
theorem kr (h : q) (k : Bx q → p := by
 intro zq
 refine Jt O O O (Jw O) ?_
 exact zq.1) : p := k ⟨h⟩
theorem kN (h : q) (k : Bx q → p := by
 intro zq
 refine JD 1 O (V0 1 O ?_)
 exact zq.1) : p := k ⟨h⟩
theorem kO (h : q) (k : Bx q → p := by
 intro zq
 first | (refine LR O (Ji (xs := [uV tn, uV en, Jk (b.take 20), Jk (b.drop 20), .slice none 0 0]) (n := 5) O (kn 1 O) O O O) ?_) | (refine LR O (Ji (xs := [uV tn, uV en, Jk [], Jk [], .slice none 0 0]) (n := 5) O (kn 1 O) O O O) ?_)
 first | (refine Je (k := 2) (n := 5) (ys := [uV tn, uV en, Jk (b.take 20), Jk (b.drop 20), .slice none 0 0]) O O O O O O O O O ?_) | (refine Je (k := 2) (n := 5) (ys := [uV tn, uV en, Jk [], Jk [], .slice none 0 0]) O O O O O O O O O ?_)
 refine JD 3 O ?_
 exact zq.1) : p := k ⟨h⟩
theorem kP (h : q) (k : Bx q → p := by
 intro zq
 refine Jr (k := 10) O O O O O (fun _ hS => (J7 O)) ?_
 refine KJ ?_
 refine J5 6 O ?_
 refine N5 ?_
 refine JI O (LR O (Ji (xs := m.cells) (n := 60) O (kn 2 O) O O O) (JC O O O Jnn (Jr7 f m) ?_))
 refine LR O (Jp O O) ?_
 refine JD 4 O ?_
 exact zq.1) : p := k ⟨h⟩
theorem kQ (h : q) (k : Bx q → p := by
 intro zq
 refine Jm (k := 1) O O O O O O O O m6 m5 ?_
 exact zq.1) : p := k ⟨h⟩
theorem kR (h : q) (k : Bx q → p := by
 intro zq
 refine NQ ?_
 refine Kk ((r5, .cells (List.toArray yx.cells) 91 (0, 0)) :: yL) [(1, .grow (V1 (0 : Nat) (fun r => .map (some r)) (fun r => [wU r]))), (2, .pure)] 4 [0, 2, 1, 3] m4 m4 (fun p hp => (F'.1 hp).elim (fun h => h ▸ N') fun h => (M' (M' (M' (M' h))))) ?_
 refine Xk (k := 0) O O O O O (Ji (xs := yx.cells) (n := 3) O (kn 0 O) O O (ItL.len _)) ?_
 refine ku ?_
 refine QV (k := 1) O O O O O Jad YD fun rm => ?_
 revert rm
 exact zq.1) : p := k ⟨h⟩
theorem kS (h : q) (k : Bx q → p := by
 intro zq
 refine MP ?_
 refine J2 (k := 1) (n := 4) (cs' := List.toArray (({ tx0L with chain := (Jf y0.er).1, nonce := (Jf y1.er).1, tip := (Jn y2.er).1, price := (Jn y3.er).1, gas := (Jf y4.er).1, dest := (JK y5.er).1, value := (Jn y6.er).1 } : TxL)).cells) (vs := #[_, _, _, _]) rfl rfl rfl rfl rfl rfl rfl m8 m4 rfl ?_
 refine MP ?_
 refine Jm (k := 1) (cs' := List.toArray (({ tx0L with chain := (Jf y0.er).1, nonce := (Jf y1.er).1, tip := (Jn y2.er).1, price := (Jn y3.er).1, gas := (Jf y4.er).1, dest := (JK y5.er).1, value := (Jn y6.er).1, data := (Js y7.er 0 (4096 : Nat)).1 } : TxL)).cells) rfl rfl rfl rfl rfl rfl rfl rfl m4 rfl ?_
 refine kB ?_
 refine KG O O O Jnm (Jas 16 129) fun zz => ?_
 revert zz
 exact zq.1) : p := k ⟨h⟩
theorem kc (h : q) (k : Bx q → p := by
 intro zq
 refine Jt O O O (J7 O) ?_
 refine Jt O O O (J7 O) ?_
 exact zq.1) : p := k ⟨h⟩
theorem kV (h : q) (k : Bx q → p := by
 intro zq
 refine J5 4 O ?_
 exact zq.1) : p := k ⟨h⟩
theorem kW (h : q) (k : Bx q → p := by
 intro zq
 refine JD 2 O (V0 1 O ?_)
 exact zq.1) : p := k ⟨h⟩
theorem kX (h : p := by
 refine Nd ?_
 exact JL (i + 1) m3 m3 (lK O) (S') (fun _ _ h => h)) : p := h
theorem g8 (h : q) (k : Bx q → p := by
 intro zq
 refine J5 7 O ?_
 exact zq.1) : p := k ⟨h⟩
theorem kY (h : p := by exact ⟨⟨_, zL, 0, zin, fun _ => ⟨⟨hne, fun _ => ⟨by omega, hmn⟩, by rw [hu]; exact hun, by rw [hkk, hu, ← yer]; exact hG, by rw [hkk, hu, ← yer, ItL.er_xs]; exact hfo, by unfold txF; rw [hkk, hu, ← yer, ItL.er_xs]; exact hok0⟩, by unfold txF; rw [hkk, hu, ← yer, ItL.er_xs]; exact zer⟩, fun h => absurd rfl h⟩, rfl, hs1.weakL (.cons _ (.cons _ (.cons _ (.cons _ (.cons _ (.cons _ ((List.sublist_append_right _ _))))))))⟩) : p := h
theorem kZ (h : q) (k : Bx q → p := by
 intro zq
 refine LR O (Jp O O) ?_
 exact zq.1) : p := k ⟨h⟩
theorem g6 (h : q) (k : Bx q → p := by
 intro zq
 refine NE ?_
 refine Jr (k := 3) O O O O O (fun _ hS => (Ja O O m0)) ?_
 refine Jr (k := 4) O O O O O (fun _ hS => Jc (v := Jk s) O (.inl (hS _ (J0 (n := 0) O))) O O) ?_
 refine Jr (k := 5) O O O O O (fun _ hS => (Jw O)) ?_
 refine Jr (k := 6) O O O O O (fun _ hS => (JH O O O)) ?_
 refine Jr (k := 7) O O O O O (fun _ hS => (Ja O O m0)) ?_
 refine Jr (k := 8) O O O O O (fun _ hS => (Ja O O m0)) ?_
 exact zq.1) : p := k ⟨h⟩
theorem g7 (h : q) (k : Bx q → p := by
 intro zq
 refine LR O (Ki (vs := [_]) O (kn 1 O) O O O O) ?_
 refine NR ?_
 refine LR O (Jo (r := [_, _, _, _]) O O) ?_
 exact zq.1) : p := k ⟨h⟩
theorem Fa (h : q) (k : Bx q → p := by
 intro zq
 refine MZ ?_
 refine JR (cs := List.toArray (t.cells)) O O O O fun r0 => ?_
 revert r0
 exact zq.1) : p := k ⟨h⟩
theorem gc (h : q) (k : Bx q → p := by
 intro zq
 refine JY B' ?_
 exact zq.1) : p := k ⟨h⟩
theorem gp (h : q) (k : Bx q → p := by
 intro zq
 refine J5 6 O ?_
 exact zq.1) : p := k ⟨h⟩
theorem gh (h : p := by
 refine KF 11 O ?_
 refine MW fun w1 hs1 => ?_
 rw [jA fun j x hx => hinv j (by have := (La'.1 hx).1; omega) x hx]
 rfl) : p := h
theorem gi (h : q) (k : Bx q → p := by
 intro zq
 refine Kl ?_
 refine Jv 9 O ?_
 refine LR O (JZ O hs O) ?_
 refine JI O (LR O (JZ O hs' O) (JP 3 O ?_))
 exact zq.1) : p := k ⟨h⟩
theorem gj (h : q) (k : Bx q → p := by
 intro zq
 refine Jm (k := 2) O O O O O O O O m6 m5 ?_
 refine Jm (k := 3) O O O O O O O O m6 m5 ?_
 exact zq.1) : p := k ⟨h⟩
theorem gk (h : p := by
 refine JD 5 O ?_
 refine MT fun w1 hs1 => ?_
 exact ⟨rfl, hs1.keep⟩) : p := h
theorem gr (h : q) (k : Bx q → p := by
 intro zq
 refine J5 3 O ?_
 refine J4 mh ?_
 refine LR O (Jy O O) ?_
 refine J5 3 O ?_
 refine J4 mh ?_
 refine LR O (Jy O O) ?_
 refine J5 3 O ?_
 exact zq.1) : p := k ⟨h⟩
theorem gl (h : q) (k : Bx q → p := by
 intro zq
 refine JI O ?_
 exact zq.1) : p := k ⟨h⟩
theorem gu (h : q) (k : Bx q → p := by
 intro zq
 refine J5 2 O ?_
 exact zq.1) : p := k ⟨h⟩
theorem Fb (h : q) (k : Bx q → p := by
 intro zq
 refine JP 4 O ?_
 refine KB 6 m4 m4 ?_
 refine N0 ?_
 refine Jt O O O (Ja (off' := pre.length + 13) O O O) ?_
 refine N0 ?_
 refine Jt O O O (Ja (off' := pre.length + 7) O O O) ?_
 refine KR ?_
 exact zq.1) : p := k ⟨h⟩
theorem gv (h : q) (k : Bx q → p := by
 intro zq
 refine Ku 6 O ?_
 exact zq.1) : p := k ⟨h⟩
theorem gm (h : q) (k : Bx q → p := by
 intro zq
 refine LR O (Ki (vs := [_, _, _, _]) O (kn 1 O) O O O O) ?_
 refine MP ?_
 refine MY ?_
 refine LR O (Jo (r := (n0 t).cells) O m4) ?_
 refine LN O fun r3 => ?_
 refine Je (k := 0) (n := 36) (ys := (n0 t).cells) O O O O O O O O O ?_
 refine kB ?_
 refine MP ?_
 revert r3
 exact zq.1) : p := k ⟨h⟩
theorem gx (h : q) (k : Bx q → p := by
 intro zq
 refine Jv 5 O ?_
 exact zq.1) : p := k ⟨h⟩
theorem gy (h : q) (k : Bx q → p := by
 intro zq
 refine Ku 3 O ?_
 refine Nf ?_
 refine Jr (k := 14) O O O O O (fun _ hS => (Ja O O m0)) ?_
 refine Qy (k := 15) (q := 0) (cs' := List.toArray ({ n0 t with chain := t.chain, nonce := t.nonce }).cells) rfl rfl rfl rfl rfl rfl rfl rfl rfl m4 rfl (fun p hp => by rw [U'.1 hp]; exact M' (M' N')) ?_
 refine N2 ?_
 refine KJ ?_
 exact zq.1) : p := k ⟨h⟩
theorem gw (h : q) (k : Bx q → p := by
 intro zq
 refine Jv 4 O ?_
 exact zq.1) : p := k ⟨h⟩
theorem gA (h : q) (k : Bx q → p := by
 intro zq
 refine JD 4 O ?_
 exact zq.1) : p := k ⟨h⟩
theorem gB (h : p := by
 refine KF 7 O ?_
 refine NZ fun w1 hs1 => ?_
 first | exact (Wv (.inl (by show y > 1; omega))).symm | exact (Wv (.inr (.inl (hX.trans ma)))).symm | exact (Wv (.inr (.inr ma))).symm) : p := h
theorem gC (h : q) (k : Bx q → p := by
 intro zq
 refine Nr ?_
 refine Jr (k := 7) O O O O O (fun _ _ => JJ O O) ?_
 refine VD (k := 8) O O O O O Jh4 (jN (w := 4) m7 m3) ?_
 refine Jr (k := 9) O O O O O (fun _ hS => (Ja O O m0)) ?_
 refine Jr (k := 10) O O O O O (fun _ hS => (Jc O (.inl (hS _ (J0 (n := 0) O))) O O)) ?_
 refine Jr (k := 11) O O O O O (fun _ hS => (Jw O)) ?_
 exact zq.1) : p := k ⟨h⟩
theorem gz (h : q) (k : Bx q → p := by
 intro zq
 refine Jv 3 O ?_
 exact zq.1) : p := k ⟨h⟩
theorem gH (h : q) (k : Bx q → p := by
 intro zq
 refine NG ?_
 refine NM ?_
 refine kV ?_
 refine J4 mt ?_
 refine LR O (Kt (kl := some (.i64, (((lookE s p).2.1 : Nat) : Int))) (kh := some (.i64, (((lookE s p).2.1 + (lookE s p).2.2.1 : Nat) : Int))) (m := (lookE s p).2.1) (n := (lookE s p).2.1 + (lookE s p).2.2.1) O O O O O O m3 m3 (r := (s.take ((lookE s p).2.1 + (lookE s p).2.2.1)).drop (lookE s p).2.1) O) ?_
 exact zq.1) : p := k ⟨h⟩
theorem gJ (h : q) (k : Bx q → p := by
 intro zq
 refine Jv 1 O ?_
 refine LR O (Qn (j := j) O O O O O m3 O) ?_
 refine LR O (Jc (v := .pointer (some ⟨q, pre.length + kj, none⟩)) O (kn 0 O) O hwj) ?_
 refine gp ?_
 exact zq.1) : p := k ⟨h⟩
theorem gK (h : q) (k : Bx q → p := by
 intro zq
 refine J4 m9 ?_
 refine Nd ?_
 exact zq.1) : p := k ⟨h⟩
theorem gE (h : q) (k : Bx q → p := by
 intro zq
 refine J4 M4 ?_
 refine JY ((B' (l₁ := z.L)).cons _) ?_
 change HL _ _ _ (_ :: _ :: _ :: (r5, _) :: (r4, _) :: z.L) _ _ _ _
 refine MP ?_
 refine Jm (k := 3) (cs' := List.toArray (({ tx0L with chain := (Jf y0.er).1, nonce := (Jf y1.er).1, tip := (Jn y2.er).1, price := (Jn y3.er).1, gas := (Jf y4.er).1, dest := (JK y5.er).1, value := (Jn y6.er).1, data := (Js y7.er 0 (4096 : Nat)).1, accP := Ke z.row, acc := z.ys } : TxL)).cells) rfl rfl rfl rfl rfl rfl rfl rfl m4 rfl ?_
 refine JP 9 O ?_
 exact zq.1) : p := k ⟨h⟩
theorem gF (h : p := by
 refine kT fun r1 => ?_
 refine kB ?_
 refine NR ?_
 refine gA ?_
 refine N3 fun w1 hs1 => ?_
 exact ⟨_, rfl, hs1⟩) : p := h
theorem gG (h : q) (k : Bx q → p := by
 intro zq
 refine LR O (JG (j := 0) O hs O O O mg mG) ?_
 refine LR O (Ky ItL.len oR O hs Mp O O) ?_
 refine LN O fun r3 => ?_
 refine Je (k := 0) (n := 3) (ys := y.cells) O O O O O (ItL.len _) O (ItL.one _) O ?_
 revert r3
 exact zq.1) : p := k ⟨h⟩
theorem gX (h : q) (k : Bx q → p := by
 intro zq
 refine LR O (Ji (xs := [Km ts.length p]) (n := 1) O (kn 1 O) O O O) ?_
 refine kV ?_
 refine KA O O O Jng (Xy hgo hgR (t := u) (ch := ch) (n := n) (s := s) htl hS m3 hch) oR fun y2 => ?_
 refine gc ?_
 change HL _ _ _ ((r14, _) :: (r6, _) :: (y.L ++ y2.L)) _ _ _ _
 refine MR ?_
 refine LN O fun r16 => ?_
 refine Je (k := 0) (n := 60) (ys := y2.x.cells) O O O O O O O O O ?_
 revert y2 r16
 exact zq.1) : p := k ⟨h⟩
theorem gL (h : q) (k : Bx q → p := by
 intro zq
 refine gz ?_
 refine N5 ?_
 refine JI O (LR O (Kt (kl := some (.i64, ((lookE s a).2.1 : Int))) (kh := some (.i64, (((((lookE s a).2.1 + (lookE s a).2.2.1) : Nat)) : Int))) (m := (lookE s a).2.1) (n := ((lookE s a).2.1 + (lookE s a).2.2.1)) O O O O O O m3 m3 O) (LR O (Jo (r := [_, _, _]) O O) ?_))
 refine gl ?_
 refine Nt ?_
 refine JD 5 O ?_
 exact zq.1) : p := k ⟨h⟩
theorem gM (h : q) (k : Bx q → p := by
 intro zq
 refine Jr (k := 0) O O O O O (fun _ hS => (Ja O O m0)) ?_
 exact zq.1) : p := k ⟨h⟩
theorem gN (h : q) (k : Bx q → p := by
 intro zq
 refine Jr (k := 0) O O O O O (fun _ hS => (Jw O)) ?_
 refine Jr (k := 1) O O O O O (fun _ hS => (Jw O)) ?_
 exact zq.1) : p := k ⟨h⟩
theorem gO (h : q) (k : Bx q → p := by
 intro zq
 refine Je (k := 0) (n := 3) (ys := yx.cells) O O O O O (ItL.len _) O (ItL.one _) O ?_
 exact zq.1) : p := k ⟨h⟩
theorem gQ (h : p := by
 refine Jr (k := 15) O O O O O (fun _ hS => (J7 O)) ?_
 refine KJ ?_
 refine JD 3 O ?_
 refine MT fun w1 hs1 => ?_
 refine ⟨congrArg (fun z => Ending.returned (Value.tuple #[Jk z, .int .i64 0])) ?_, hs1.keep⟩
 unfold VW lastE
 simp only [List.flatten_cons, List.flatten_nil, List.append_nil, *]
 rfl) : p := h
theorem gR (h : q) (k : Bx q → p := by
 intro zq
 refine Nb ?_
 refine Ns ?_
 first | (refine Ju O O O Jns (Zl (R := R) (caps := []) (pr := W6) ht.auL ht.auS Jnr (fun x _ => (wS x).toR)) oR ?_) | refine LK O ?_
 refine N4 ?_
 exact zq.1) : p := k ⟨h⟩
theorem gS (h : q) (k : Bx q → p := by
 intro zq
 refine ⟨?_, hs1.keep⟩
 exact zq.1) : p := k ⟨h⟩
theorem gT (h : q) (k : Bx q → p := by
 intro zq
 refine Jh O O (.cons (Jj (vs := (QY 0).cells) O (kn 3 O) O O) (.cons (Jg O) .nil)) (fun w1 hs1 => ?_)
 revert w1 hs1
 exact zq.1) : p := k ⟨h⟩
theorem gU (h : q) (k : Bx q → p := by
 intro zq
 refine Jh O O (.cons (Jj (vs := [_, _, _, _]) O (kn 0 O) O O) (.cons (Jg O) .nil)) (fun w1 hs1 => ?_)
 revert w1 hs1
 exact zq.1) : p := k ⟨h⟩
theorem gZ (h : q) (k : Bx q → p := by
 intro zq
 refine LR O (Ja (off' := pre.length + 0) O O O) ?_
 exact zq.1) : p := k ⟨h⟩
theorem G0 (h : q) (k : Bx q → p := by
 intro zq
 refine NG ?_
 refine LR O (Jo (r := [_, _, _, _, _]) O O) ?_
 refine Je (k := 0) (n := 5) (ys := sp0L.cells) O O O O O O O O O ?_
 refine JD 6 O ?_
 exact zq.1) : p := k ⟨h⟩
theorem gV (h : p := by
 refine kT fun r1 => ?_
 refine LN O fun r2 => ?_
 refine kB ?_
 refine NR ?_
 refine gA ?_
 refine N3 fun w1 hs1 => ?_
 exact ⟨(_, _), rfl, hs1⟩) : p := h
theorem gW (h : q) (k : Bx q → p := by
 intro zq
 refine MP ?_
 refine LR O (Jc (v := .int .i64 (ua : Int)) O (kn 0 O) O O) ?_
 refine KC O ?_
 refine J4 ny ?_
 refine KC O ?_
 refine MP ?_
 first | (refine Jm (k := 0) (cs' := #[Jk s, .int .i64 ((ua - 1 : Nat) : Int), .int .i64 ke]) O O O O O O O O O O ?_) | (refine Jm (k := 0) (cs' := #[Jk s, .int .i64 ((ua - 1 : Nat) : Int), .int .i64 ue]) O O O O O O O O O O ?_)
 refine JD 9 O ?_
 exact zq.1) : p := k ⟨h⟩
theorem GA (h : q) (k : Bx q → p := by
 intro zq
 refine LR O (Ji (xs := [Km ts.length p]) (n := 1) O (kn 0 O) O O O) ?_
 refine kV ?_
 refine KA O O O Jng (Xy hgo hgR (t := t) (ch := ch) (n := n) (s := s) htl hS m3 hch) oR fun y => ?_
 refine gc ?_
 change HL _ _ _ ((r6, _) :: y.L) _ _ _ _
 refine MR ?_
 refine LN O fun r14 => ?_
 refine Je (k := 0) (n := 60) (ys := y.x.cells) O O O O O O O O O ?_
 revert y r14
 exact zq.1) : p := k ⟨h⟩
theorem Ge (h : q) (k : Bx q → p := by
 intro zq
 refine Jr (k := 4) O O O O O (fun _ hS => (JH O O O)) ?_
 refine Jr (k := 5) O O O O O (fun _ hS => (J7 O)) ?_
 refine KJ ?_
 refine JP 2 O ?_
 exact zq.1) : p := k ⟨h⟩
theorem G1 (h : q) (k : Bx q → p := by
 intro zq
 refine MZ ?_
 refine JR (cs := List.toArray ([uV ch])) O O O O fun r2 => ?_
 refine LN O fun r4 => ?_
 revert r2 r4
 exact zq.1) : p := k ⟨h⟩
theorem G2 (h : q) (k : Bx q → p := by
 intro zq
 refine Jh O O (.cons (Jj (vs := y.x.cells) O (kn 3 O) O O) (.cons (Jg O) .nil)) (fun w1 hs1 => ?_)
 revert w1 hs1
 exact zq.1) : p := k ⟨h⟩
theorem G3 (h : p := by
 refine JD 3 O ?_
 refine Jh O O (.cons (Jj (vs := [_, _, _]) O (kn 0 O) O O) .nil) (fun w1 hs1 => ?_)
 exact ⟨rfl, hs1.keep⟩) : p := h
theorem G5 (h : q) (k : Bx q → p := by
 intro zq
 refine JP 4 O ?_
 exact zq.1) : p := k ⟨h⟩
theorem G6 (h : q) (k : Bx q → p := by
 intro zq
 refine LR O (WC (kl := some 1) (kh := none) (a := 1) (b := (y :: r).length) (m := r.length) O hs O O ⟨_, rfl⟩ trivial O O mG (Lc') mG) ?_
 exact zq.1) : p := k ⟨h⟩
theorem G4 (h : q) (k : Bx q → p := by
 intro zq
 refine JD 5 O ?_
 exact zq.1) : p := k ⟨h⟩
theorem G7 (h : q) (k : Bx q → p := by
 intro zq
 refine Kl ?_
 refine Jv 8 O ?_
 exact zq.1) : p := k ⟨h⟩
theorem G8 (h : p := by exact zq h0 hkm hdep (Region.noSelect_spec hsel) (fun E E' listed a hp hT => ⟨hT.1, hTp _ _ _ hp hT.2⟩) (hlt k hkm) (fun E' listed' a' hL => hseq _ hL.1) (l.length + n) listed E a inv (Region.free_spec h0 hr.1.2) hSE nT hr' hr.2 h1 fun x => next _ _ hSE.grow (h2 x)) : p := h
theorem G9 (h : q) (k : Bx q → p := by
 intro zq
 first | (refine LR O (Ja O O m0) ?_) | refine LK O ?_
 exact zq.1) : p := k ⟨h⟩
theorem Ga (h : p := by
 refine Jx (T := VF r s row own) (L0 := [_]) (Rl := []) (B' (l₁ := [_])) O O O Jfu (YC hbk hlen) oN fun x => ?_
 refine JD 2 O ?_
 refine KP O O .nil (fun w1 hs1 => ?_)
 exact ⟨x, rfl, hs1.weakL (List.sublist_append_left _ _)⟩) : p := h
theorem gP (h : q) (k : Bx q → p := by
 intro zq
 refine Jt O O O (JH O O O) ?_
 exact zq.1) : p := k ⟨h⟩
theorem Gg (h : q) (k : Bx q → p := by
 intro zq
 refine Nk ?_
 refine N0 ?_
 refine Nk ?_
 refine N0 ?_
 refine WK nD ?_
 refine N0 ?_
 refine Nk ?_
 refine Jt O O O (Kt (kl := some (.i64, ((a : Nat) : Int))) (kh := some (.i64, ((a + n : Nat) : Int))) (m := a) (n := a + n) O O O O O O m3 m3 (r := (s.take (a + n)).drop a) O) ?_
 exact zq.1) : p := k ⟨h⟩
theorem Gh (h : p := by exact JL (i + 1) m3 m3 (lK rfl) (T') (fun _ _ h => h)) : p := h
theorem Gi (h : q) (k : Bx q → p := by
 intro zq
 refine Jv 6 O ?_
 refine Ql m3 m3 ?_
 refine J4 mN ?_
 refine Nd ?_
 exact zq.1) : p := k ⟨h⟩
theorem Gj (h : p := by
 refine KF 11 O ?_
 refine MW fun w1 hs1 => ?_
 rw [decide_eq_true (wA nC mM hinv)]
 rfl) : p := h
theorem Gk (h : q) (k : Bx q → p := by
 intro zq
 refine Jt O O O (J7 O) ?_
 refine KR ?_
 exact zq.1) : p := k ⟨h⟩
theorem Gl (h : q) (k : Bx q → p := by
 intro zq
 refine Jt O O O (Ji (xs := t.cells) (n := 36) O (kn 1 O) O O O) ?_
 exact zq.1) : p := k ⟨h⟩
theorem Gb (h : q) (k : Bx q → p := by
 intro zq
 refine MP ?_
 refine MY ?_
 exact zq.1) : p := k ⟨h⟩
theorem Gc (h : q) (k : Bx q → p := by
 intro zq
 refine J1 Tryz.func96 O O fun w => ?_
 refine kT fun r1 => ?_
 refine kB ?_
 refine LN O fun r3 => ?_
 refine Jm (k := 0) (cs' := #[fV 185]) O O O O O O O O O O ?_
 refine kV ?_
 refine NR ?_
 refine J5 11 O ?_
 revert w r1 r3
 exact zq.1) : p := k ⟨h⟩
theorem Gd (h : q) (k : Bx q → p := by
 intro zq
 refine Ju O O O Vw (Kx (R := []) y) oN ?_
 refine MR ?_
 refine LN O fun r9 => ?_
 refine Je (k := 0) (n := 4) (ys := wC (Jn y.er).1) O O O O O O O O O ?_
 refine g8 ?_
 revert r9
 exact zq.1) : p := k ⟨h⟩
theorem Gf (h : p := by
 refine JD 9 O ?_
 refine N3 fun w1 hs1 => ?_
 exact ⟨(), rfl, hs1⟩) : p := h
theorem Gm (h : q) (k : Bx q → p := by
 intro zq
 refine Kl ?_
 refine Jv 9 O ?_
 exact zq.1) : p := k ⟨h⟩
theorem Gn (h : q) (k : Bx q → p := by
 intro zq
 refine LR O (Ji (xs := t.cells) (n := 3) O (kn 0 O) O O (ItL.len t)) ?_
 exact zq.1) : p := k ⟨h⟩
theorem Gp (h : q) (k : Bx q → p := by
 intro zq
 refine LR O (Jc O (Kn (k := 1) O) O O) ?_
 exact zq.1) : p := k ⟨h⟩
theorem Gq (h : q) (k : Bx q → p := by
 intro zq
 refine LR O (Qh O O) ?_
 exact zq.1) : p := k ⟨h⟩
theorem GC (h : q) (k : Bx q → p := by
 intro zq
 refine gx ?_
 refine JT m3 m3 ?_
 refine Nd ?_
 exact zq.1) : p := k ⟨h⟩
theorem Gr (h : q) (k : Bx q → p := by
 intro zq
 first | refine KC O ?_ | refine LK O ?_
 first | refine LR O (Jp O O) ?_ | refine LR O (Jy O O) ?_ | refine LK O ?_
 refine N4 ?_
 exact zq.1) : p := k ⟨h⟩
theorem Gs (h : q) (k : Bx q → p := by
 intro zq
 refine JO (n := 1) (sz := 1) (vs := [_]) (zs := [_]) (r := [_]) O O O O O O O O O me O fun rb => ?_
 revert rb
 exact zq.1) : p := k ⟨h⟩
theorem Gu (h : q) (k : Bx q → p := by
 intro zq
 refine LR O (Qn (j := i) (off' := pre.length) O O O O O m3 hpl) ?_
 exact zq.1) : p := k ⟨h⟩
theorem Gv (h : q) (k : Bx q → p := by
 intro zq
 refine Jr (k := 19) O O O O O (fun _ hS => (Jb O O)) ?_
 refine Jr (k := 20) O O O O O (fun _ hS => (Jb O O)) ?_
 refine Jr (k := 21) O O O O O (fun _ hS => (J7 O)) ?_
 refine Jr (k := 22) O O O O O (fun _ hS => (J7 O)) ?_
 exact zq.1) : p := k ⟨h⟩
theorem Gw (h : p := by exact Z') : p := h
theorem Gx (h : q) (k : Bx q → p := by
 intro zq
 refine Je (k := 0) (n := 3) (ys := y.cells) O O O O O (ItL.len y) O (ItL.one y) O ?_
 exact zq.1) : p := k ⟨h⟩
theorem Gy (h : q) (k : Bx q → p := by
 intro zq
 refine KP O O .nil (fun w1 hs1 => ?_)
 revert w1 hs1
 exact zq.1) : p := k ⟨h⟩
theorem GD (h : p := by
 obtain ⟨rfl, _⟩ := List.cons.inj hw
 rfl) : p := h
theorem Gt (h : q) (k : Bx q → p := by
 intro zq
 refine N5 ?_
 refine NQ ?_
 exact zq.1) : p := k ⟨h⟩
theorem Fc (h : q) (k : Bx q → p := by
 intro zq
 refine NG ?_
 refine NM ?_
 refine gu ?_
 refine LR O (Kt (kl := some (.i64, ((uq : Nat) : Int))) (kh := some (.i64, ((uq + un : Nat) : Int))) (m := uq) (n := uq + un) O O O O O O m3 m3 (r := (s.take (uq + un)).drop uq) O) ?_
 refine gl ?_
 exact zq.1) : p := k ⟨h⟩
theorem Fd (h : q) (k : Bx q → p := by
 intro zq
 refine Jr (k := 3) O O O O O (fun _ hS => (J7 O)) ?_
 refine KJ ?_
 refine gA ?_
 exact zq.1) : p := k ⟨h⟩
theorem Hs (h : q) (k : Bx q → p := by
 intro zq
 refine LR O (Qa O O) ?_
 exact zq.1) : p := k ⟨h⟩
theorem GI (h : q) (k : Bx q → p := by
 intro zq
 refine Jr (k := 8) O O O O O (fun _ hS => (Jo (r := [_, _, _, _, _]) O O)) ?_
 exact zq.1) : p := k ⟨h⟩
theorem GJ (h : q) (k : Bx q → p := by
 intro zq
 refine Jh O O (.cons (Jg O) (.cons (Jg O) (.cons (Jg O) .nil))) (fun w1 hs1 => ?_)
 revert w1 hs1
 exact zq.1) : p := k ⟨h⟩
theorem GL (h : q) (k : Bx q → p := by
 intro zq
 refine KF 8 O ?_
 exact zq.1) : p := k ⟨h⟩
theorem Fw (h : q) (k : Bx q → p := by
 intro zq
 refine Nb ?_
 refine Ns ?_
 first | (refine Ju O O O Jnk (WN (R := R) (caps := []) (pr := fun a => decide (a.keys.length > 16)) ht.accL ht.accS (enters_of Tryz.func94 m4 rfl) (fun x hx => zV (ht.acc x hx))) oR ?_) | refine LK O ?_
 exact zq.1) : p := k ⟨h⟩
theorem GB (h : q) (k : Bx q → p := by
 intro zq
 refine Jx (T := [Jak r s row own]) (L0 := J9 5 (s.map bV) row) (Rl := []) (O') O O O (enters_of Tryz.func172 m4 O) (jJ r s row own) oN fun u => ?_
 change HL _ _ _ (Jak r s row true :: J9 5 (s.map bV) row) _ _ _ _
 refine g8 ?_
 refine MP ?_
 refine LR O (Jc (v := JV s.length row) O (kn 0 O) O O) ?_
 revert u
 exact zq.1) : p := k ⟨h⟩
theorem Fx (h : q) (k : Bx q → p := by
 intro zq
 refine N3 fun w1 hs1 => ?_
 refine NL ?_
 unfold Jbr RcL.er
 first | (rw [if_neg mF]; done) | (rw [if_pos mF, if_pos mj]; done) | (rw [if_pos mF, if_neg mj]; done)
 revert w1 hs1
 exact zq.1) : p := k ⟨h⟩
theorem GZ (h : q) (k : Bx q → p := by
 intro zq
 refine MQ ?_
 refine gl ?_
 exact zq.1) : p := k ⟨h⟩
theorem GK (h : q) (k : Bx q → p := by
 intro zq
 refine Je (k := 0) (n := 2) (ys := y.cells) O O O O O O O O O ?_
 refine kB ?_
 refine LR O (Ji (xs := x.cells) (n := 2) O (kn 1 O) O O O) ?_
 refine LR O (Ji (xs := y.cells) (n := 2) O (kn 0 O) O O O) ?_
 exact zq.1) : p := k ⟨h⟩
theorem H0 (h : p := by
 refine KF 10 O ?_
 refine Np fun w1 hs1 => ?_
 rw [if_neg mq, if_neg m3, if_neg mq, if_neg m3]
 rfl) : p := h
theorem H1 (h : q) (k : Bx q → p := by
 intro zq
 refine Nz ?_
 refine gu ?_
 exact zq.1) : p := k ⟨h⟩
theorem GO (h : q) (k : Bx q → p := by
 intro zq
 refine LR O (JZ O hs O) ?_
 exact zq.1) : p := k ⟨h⟩
theorem GP (h : p := by
 refine gA ?_
 exact Ng) : p := h
theorem GQ (h : q) (k : Bx q → p := by
 intro zq
 first | refine Jt O O O (Jp O O) ?_ | refine Jt O O O (Jy O O) ?_
 exact zq.1) : p := k ⟨h⟩
theorem GR (h : q) (k : Bx q → p := by
 intro zq
 refine Yf O O O O (J7 O) ?_
 refine Jab ?_
 refine hK _ _ _ _ _ (wD O ?_)
 exact zq.1) : p := k ⟨h⟩
theorem GS (h : q) (k : Bx q → p := by
 intro zq
 refine Ju O O O Jnh hck (fun q hq => .inl (M' (M' (M' (M' (M' (M' (Y' hq)))))))) ?_
 exact zq.1) : p := k ⟨h⟩
theorem Hl (h : q) (k : Bx q → p := by
 intro zq
 refine gc ?_
 change HL _ _ _ ((_, _) :: (r3, _) :: (r2, _) :: yL) _ _ _ _
 refine MR ?_
 refine LN O fun r5 => ?_
 refine gO ?_
 refine Jm (k := 2) (cs' := #[.int .i64 (WM (s.drop 1)).2]) O O O O O O O O O O ?_
 refine kV ?_
 refine kI ?_
 revert r5
 exact zq.1) : p := k ⟨h⟩
theorem GT (h : q) (k : Bx q → p := by
 intro zq
 refine Jh O O (.cons (JX O (kn 2 O) O O) (.cons (JX O (kn 3 O) O O) (.cons (JX O (kn 4 O) O O) .nil))) (fun w1 hs1 => ?_)
 revert w1 hs1
 exact zq.1) : p := k ⟨h⟩
theorem GU (h : p := by exact Jcq h0 nT hdep (Region.noSelect_spec hsel) (hlt k hkm) (fun E' listed' a' hL => hseq _ hL.1) (l.length + n) listed E a inv (Region.free_spec h0 hr.1.2) hSE hr' h1 (next _ _ hSE h2)) : p := h
theorem GN (h : q) (k : Bx q → p := by
 intro zq
 refine JD 3 O ?_
 exact zq.1) : p := k ⟨h⟩
theorem GV (h : q) (k : Bx q → p := by
 intro zq
 refine KC O ?_
 exact zq.1) : p := k ⟨h⟩
theorem GW (h : p := by
 rw [if_pos hz30] at hler
 have h2 := congrArg List.length hler
 rw [D'] at h2
 omega) : p := h
theorem GX (h : q) (k : Bx q → p := by
 intro zq
 refine J2 (k := 0) (n := 5) (cs' := #[_, _, _, _, _]) (vs := #[_, _, _, _, _]) O O O O O O O m8 O m5 ?_
 exact zq.1) : p := k ⟨h⟩
theorem DI (h : q) (k : Bx q → p := by
 intro zq
 refine MZ ?_
 refine LN O fun r2 => ?_
 revert r2
 exact zq.1) : p := k ⟨h⟩
theorem H5 (h : q) (k : Bx q → p := by
 intro zq
 refine Ws O O ?_
 refine LR O (Qn (m := 3) (j := n) (off' := n * 3) O O O O O m3 m3) ?_
 refine Y9 ?_
 exact zq.1) : p := k ⟨h⟩
theorem H6 (h : q) (k : Bx q → p := by
 intro zq
 refine Nq ?_
 refine LR O (Ky ItL.len oR O hs hy O O) ?_
 exact zq.1) : p := k ⟨h⟩
theorem H7 (h : q) (k : Bx q → p := by
 intro zq
 refine LR O (Ji (xs := x.cells) (n := 3) O (kn 0 O) O O (ItL.len x)) ?_
 exact zq.1) : p := k ⟨h⟩
theorem H8 (h : q) (k : Bx q → p := by
 intro zq
 refine LR O (Ji (xs := y.cells) (n := 3) O (kn 0 O) O O (ItL.len y)) ?_
 exact zq.1) : p := k ⟨h⟩
theorem H9 (h : q) (k : Bx q → p := by
 intro zq
 refine NT fun r0 => ?_
 refine gp ?_
 refine LR O (Ji (xs := [.bool l, Jk b, Km xs.length p]) (n := 3) O (kn 0 O) O O O) ?_
 revert r0
 exact zq.1) : p := k ⟨h⟩
theorem Ha (h : q) (k : Bx q → p := by
 intro zq
 refine JD 2 O (vf 2 O ?_)
 exact zq.1) : p := k ⟨h⟩
theorem Hb (h : q) (k : Bx q → p := by
 intro zq
 refine Jr (k := 1) O O O O O (fun _ hS => (Jw O)) ?_
 refine Jr (k := 2) O O O O O (fun _ hS => (JH O O O)) ?_
 refine Jr (k := 3) O O O O O (fun _ hS => (Ja O O m0)) ?_
 exact zq.1) : p := k ⟨h⟩
theorem Hc (h : q) (k : Bx q → p := by
 intro zq
 refine Jr (k := 4) O O O O O (fun _ hS => (Jw O)) ?_
 refine Jr (k := 5) O O O O O (fun _ hS => (JH O O O)) ?_
 refine Jr (k := 6) O O O O O (fun _ hS => (Ja O O m0)) ?_
 exact zq.1) : p := k ⟨h⟩
theorem Hd (h : p := by exact .inr ⟨(back2 v).symm.trans g1, go E undef hSE (.inl (T')) g2⟩) : p := h
theorem He (h : q) (k : Bx q → p := by
 intro zq
 first | refine LR O (Jc O (Kn (k := 0) O) O O) ?_ | refine LK O ?_
 exact zq.1) : p := k ⟨h⟩
theorem Fy (h : q) (k : Bx q → p := by
 intro zq
 refine J2 (k := 1) (n := 4) (cs' := List.toArray (({ tx0L with chain := (Jf y0.er).1, nonce := (Jf y1.er).1, tip := (Jn y2.er).1 } : TxL)).cells) (vs := #[_, _, _, _]) rfl rfl rfl rfl rfl rfl rfl m8 m4 rfl ?_
 exact zq.1) : p := k ⟨h⟩
theorem Hf (h : q) (k : Bx q → p := by
 intro zq
 refine NG ?_
 refine NI ?_
 exact zq.1) : p := k ⟨h⟩
theorem Hk (h : p := by
 refine KF 10 O ?_
 refine Np fun w1 hs1 => ?_
 rw [if_neg mq, if_pos ma, if_neg mq, if_pos ma]
 rfl) : p := h
theorem H2 (h : p := by
 refine Jv 6 O ?_
 refine J4 mt ?_
 refine g8 ?_
 refine J4 nB ?_
 refine Nd ?_
 exact JL (c + 1, (lookE s p).2.1 + (lookE s p).2.2.1) m3 m3 (lK O) (S') (fun _ _ h => h)) : p := h
theorem Fz (h : q) (k : Bx q → p := by
 intro zq
 refine gc ?_
 change HL _ _ _ ((r7, _) :: (rm, _) :: (r5, _) :: (_, _) :: (r3, _) :: (r2, _) :: (yL ++ zL)) _ _ _ _
 refine Je (k := 0) (n := 36) (ys := zx.cells) O O O O O O O O O ?_
 refine gp ?_
 refine MP ?_
 exact zq.1) : p := k ⟨h⟩
theorem H4 (h : q) (k : Bx q → p := by
 intro zq
 refine MR ?_
 refine JP 11 O ?_
 exact zq.1) : p := k ⟨h⟩
theorem Hn (h : q) (k : Bx q → p := by
 intro zq
 refine kT fun r1 => ?_
 refine LN O fun r2 => ?_
 revert r1 r2
 exact zq.1) : p := k ⟨h⟩
theorem Hp (h : q) (k : Bx q → p := by
 intro zq
 refine J1 Tryz.func4 O O fun w => ?_
 refine MZ ?_
 refine JR (cs := List.toArray ([Km ts.length p])) O O O O fun r6 => ?_
 refine kB ?_
 refine Ju O O O (enters_of Tryz.func6 m4 O) (Jj1 hgo hgR) oR ?_
 refine JP 10 O ?_
 revert w r6
 exact zq.1) : p := k ⟨h⟩
theorem HI (h : q) (k : Bx q → p := by
 intro zq
 refine Jv 1 O ?_
 exact zq.1) : p := k ⟨h⟩
theorem Hg (h : p := by
 refine KF 4 O ?_
 refine Gy fun w1 hs1 => ?_
 obtain ⟨xs1, hx1⟩ := hs1.now
 exact ⟨⟨_, rfl⟩, hs1.keep, .inl ⟨i, _, (by show i = N; omega), hx1⟩⟩) : p := h
theorem Hh (h : q) (k : Bx q → p := by
 intro zq
 refine JA Tryz.func16 O O fun w => ?_
 refine Kl ?_
 refine MU fun r3 rm => ?_
 revert w r3 rm
 exact zq.1) : p := k ⟨h⟩
theorem Hj (h : q) (k : Bx q → p := by
 intro zq
 refine Jm (k := 2) O O O O O O O O m6 m5 ?_
 exact zq.1) : p := k ⟨h⟩
theorem Ht (h : q) (k : Bx q → p := by
 intro zq
 refine Jr (k := 0) O O O O O (fun _ hS => (Jo (r := [_, _, _, _, _]) O O)) ?_
 refine NP ?_
 exact zq.1) : p := k ⟨h⟩
theorem Hu (h : q) (k : Bx q → p := by
 intro zq
 refine Ku 5 O ?_
 exact zq.1) : p := k ⟨h⟩
theorem Hv (h : p := by exact ⟨_, _, rfl, by decide⟩) : p := h
theorem Hw (h : p := by
 refine KF 14 O ?_
 refine MT fun w1 hs1 => ?_
 exact .inl ⟨fun h => absurd h hG, ⟨none, ⟨rfl, rfl⟩⟩, rfl, hs1.weakL (S')⟩) : p := h
theorem Hx (h : q) (k : Bx q → p := by
 intro zq
 change HL _ _ _ [Q2 q ys.tail.length (KX ys p) E] _ _ _ _
 exact zq.1) : p := k ⟨h⟩
theorem FA (h : q) (k : Bx q → p := by
 intro zq
 refine Jm (k := 2) (cs' := #[.int .i64 (de : Int), .int .i64 (lookE s a).1]) O O O O O O O O O O ?_
 refine kV ?_
 refine NI ?_
 refine gl ?_
 refine Nt ?_
 refine G4 ?_
 exact zq.1) : p := k ⟨h⟩
theorem Hy (h : q) (k : Bx q → p := by
 intro zq
 refine LR O (Ji (xs := (QY 3).cells) (n := 60) O (kn 0 O) O O O) ?_
 refine JI O (Je (k := 1) (n := 60) (ys := (QY 3).cells) O O O O O O O O O (JD 4 O ?_))
 exact zq.1) : p := k ⟨h⟩
theorem Hz (h : q) (k : Bx q → p := by
 intro zq
 first | refine LR O (Qa O O) ?_ | refine LK O ?_
 exact zq.1) : p := k ⟨h⟩
theorem HG (h : p := by exact ⟨rfl, hs1.keep⟩) : p := h
theorem HH (h : q) (k : Bx q → p := by
 intro zq
 refine Jm (k := 3) (cs' := #[.int .i64 0]) O O O O O O O O O O ?_
 refine GN ?_
 exact zq.1) : p := k ⟨h⟩
theorem HJ (h : q) (k : Bx q → p := by
 intro zq
 refine Wr (yz Tryz.prog w (eT re e0) [] Tryz.f192.ntmps) Tryz.func192 O O O O (L := eT re e0) (X := fun _ _ => True) (St.startT hT (fun p hp => nomatch hp) (List.pairwise_singleton _ _) (fun p hp => nomatch hp)) fun c₀ cs hu => ?_
 revert c₀ cs hu
 exact zq.1) : p := k ⟨h⟩
theorem GY (h : q) (k : Bx q → p := by
 intro zq
 refine JA Tryz.func95 O O fun w => ?_
 refine Fa fun r0 => ?_
 refine LN O fun r2 => ?_
 refine kV ?_
 refine NH ?_
 refine MY ?_
 refine MP ?_
 revert w r0 r2
 exact zq.1) : p := k ⟨h⟩
theorem HR (h : q) (k : Bx q → p := by
 intro zq
 refine MR ?_
 refine g8 ?_
 exact zq.1) : p := k ⟨h⟩
theorem HT (h : p := by
 subst hz7
 unfold Xv
 simp only [hkk, hz1, hz2, hz3, hx]
 rw [if_neg (by rw [h]; decide)]
 rfl) : p := h
theorem Hm (h : q) (k : Bx q → p := by
 intro zq
 refine LR O (WC (kl := some 1) (kh := none) (a := 1) (b := (b :: cr).length) (m := cr.length) O hsc O O ⟨_, rfl⟩ trivial O O mG (Lc') mG) ?_
 refine gp ?_
 refine J4 mm ?_
 refine Nd ?_
 exact zq.1) : p := k ⟨h⟩
theorem HV (h : q) (k : Bx q → p := by
 intro zq
 refine KF 9 O ?_
 refine Np fun w1 hs1 => ?_
 revert w1 hs1
 exact zq.1) : p := k ⟨h⟩
theorem HW (h : q) (k : Bx q → p := by
 intro zq
 refine Jq Tryz.func12 O O fun w => ?_
 refine MZ ?_
 refine NV fun r2 r3 => ?_
 revert w r2 r3
 exact zq.1) : p := k ⟨h⟩
theorem Hr (h : q) (k : Bx q → p := by
 intro zq
 refine Kl ?_
 refine Jv 10 O ?_
 exact zq.1) : p := k ⟨h⟩
theorem Hq (h : q) (k : Bx q → p := by
 intro zq
 refine Jv 6 O ?_
 exact zq.1) : p := k ⟨h⟩
theorem HK (h : p := by exact absurd h5 (m7)) : p := h
theorem HM (h : q) (k : Bx q → p := by
 intro zq
 refine kZ ?_
 refine J5 3 O ?_
 refine kZ ?_
 exact zq.1) : p := k ⟨h⟩
theorem HO (h : q) (k : Bx q → p := by
 intro zq
 first | refine Jt O O O (Jw O) ?_ | refine Kp O O O ?_
 exact zq.1) : p := k ⟨h⟩
theorem HP (h : p := by
 refine G4 ?_
 refine N3 fun w1 hs1 => ?_
 exact ⟨congrArg (fun b => Ending.returned (Value.bool b)) (decide_eq_decide.2 m3), hs1.keep⟩) : p := h
theorem HX (h : p := by exact qn ho (hnd i o ho) hw (hr E hE w hs) fun u w' ⟨x, e', hk, hf, hd⟩ => h _ _ w' hE.grow (hs.freshs hk hf hd) (e' ▸ (h2 x))) : p := h
theorem Do (h : q) (k : Bx q → p := by
 intro zq
 refine HI ?_
 refine NR ?_
 refine Fb ?_
 refine JO (n := 2) (sz := 1) (vs := [_, _]) (zs := [_, _]) (r := [_, _]) O O O O O O O O O me O fun rw => ?_
 refine J5 8 O ?_
 refine gZ ?_
 revert rw
 exact zq.1) : p := k ⟨h⟩
theorem HZ (h : q) (k : Bx q → p := by
 intro zq
 simp only [execOp, Sem.run_bind]
 exact zq.1) : p := k ⟨h⟩
theorem D0 (h : q) (k : Bx q → p := by
 intro zq
 refine Jr (k := 10) O O O O O (fun _ hS => (Jw O)) ?_
 exact zq.1) : p := k ⟨h⟩
theorem Fg (h : q) (k : Bx q → p := by
 intro zq
 refine LR O (Jc O (Kn (k := 5) O) O O) ?_
 refine GV ?_
 exact zq.1) : p := k ⟨h⟩
theorem D1 (h : p := by
 refine NG ?_
 refine LR O (Jo (r := [_]) O O) ?_
 refine KC O (Jcz O O ?_)
 exact Va O O ⟨by assumption, rfl⟩) : p := h
theorem D2 (h : q) (k : Bx q → p := by
 intro zq
 refine Ju O O O (enters_of Tryz.func17 m4 O) (Jjz hI1 hI2 heq) (fun q hq => .inl (M' (M' (M' hq)))) ?_
 exact zq.1) : p := k ⟨h⟩
theorem FB (h : q) (k : Bx q → p := by
 intro zq
 refine Nt ?_
 refine JD 6 O ?_
 refine kq fun w1 hs1 => ?_
 refine gS ?_
 unfold lookE
 revert w1 hs1
 exact zq.1) : p := k ⟨h⟩
theorem D3 (h : p := by exact .inl ⟨g1.same (back1 v).symm (back2 v).symm, fun x => go _ _ hSE.grow (.inl (List.sublist_append_right _ _)) (g2 x)⟩) : p := h
theorem Dt (h : q) (k : Bx q → p := by
 intro zq
 refine JP 2 O ?_
 exact zq.1) : p := k ⟨h⟩
theorem D4 (h : q) (k : Bx q → p := by
 intro zq
 refine Jr (k := 3) O O O O O (fun _ hS => (Jw O)) ?_
 exact zq.1) : p := k ⟨h⟩
theorem D5 (h : q) (k : Bx q → p := by
 intro zq
 refine Ku 3 O ?_
 exact zq.1) : p := k ⟨h⟩
theorem D6 (h : q) (k : Bx q → p := by
 intro zq
 refine LR O (Jo (r := [_, _]) O O) ?_
 exact zq.1) : p := k ⟨h⟩
theorem D7 (h : q) (k : Bx q → p := by
 intro zq
 first | (refine Jt O O O (Ja O O m0) ?_) | refine Kp O O O ?_
 first | refine Jt O O O (Jc O (kn 0 O) O O) ?_ | refine Kp O O O ?_
 exact zq.1) : p := k ⟨h⟩
theorem D8 (h : q) (k : Bx q → p := by
 intro zq
 refine Vv (k := 9) (cs := #[_, _, _, _, _]) O O O O O O fun r3 => ?_
 revert r3
 exact zq.1) : p := k ⟨h⟩
theorem DH (h : p := by
 refine G4 ?_
 refine MW fun w1 hs1 => ?_
 rw [← vz]
 rfl) : p := h
theorem Ho (h : q) (k : Bx q → p := by
 intro zq
 refine GV ?_
 refine MP ?_
 exact zq.1) : p := k ⟨h⟩
theorem Dh (h : q) (k : Bx q → p := by
 intro zq
 refine MZ ?_
 refine JR (cs := List.toArray (ItL.cells (.mk l b p xs))) O O O O fun r1 => ?_
 refine LN O fun r2 => ?_
 refine kV ?_
 refine LR O (Ji (xs := ItL.cells (.mk l b p xs)) (n := 3) O (kn 1 O) O O O) ?_
 revert r1 r2
 exact zq.1) : p := k ⟨h⟩
theorem DN (h : q) (k : Bx q → p := by
 intro zq
 refine MR ?_
 refine J5 8 O ?_
 exact zq.1) : p := k ⟨h⟩
theorem Dk (h : q) (k : Bx q → p := by
 intro zq
 refine NG ?_
 refine LR O (Jo (r := (QY 0).cells) O m4) ?_
 exact zq.1) : p := k ⟨h⟩
theorem Dm (h : p := by
 refine KF 1 O ?_
 refine Gy fun w1 hs1 => ?_
 exact .inl ⟨by assumption, (), rfl, hs1.weakL (S')⟩) : p := h
theorem Da (h : p := by exact .inr ⟨(back2 undef).symm.trans g1, go E undef hSE g2⟩) : p := h
theorem Db (h : q) (k : Bx q → p := by
 intro zq
 refine JI O (Je (k := 0) (n := 2) (ys := x.cells) O O O O O O O O O (J5 6 O ?_))
 refine LR O (JG (j := i) O hs' O O O mg m3) ?_
 exact zq.1) : p := k ⟨h⟩
theorem Dc (h : q) (k : Bx q → p := by
 intro zq
 refine HI ?_
 refine Nq ?_
 refine LR O (Ky FrE.len oR O hs hf O O) ?_
 refine LN O fun rx => ?_
 refine Je (k := 0) (n := 4) (ys := f.cells) O O O O O O O O O ?_
 revert rx
 exact zq.1) : p := k ⟨h⟩
theorem Dd (h : p := by exact absurd hj (tail_waits h2 h3 M9 inv _ i rfl hi hun j hjm)) : p := h
theorem De (h : q) (k : Bx q → p := by
 intro zq
 refine QO [4, 3] (L' := jo r2 r3 tx0L.cells _) m7 O ?_
 refine N8 fun w1 hs1 => ?_
 revert w1 hs1
 exact zq.1) : p := k ⟨h⟩
theorem Df (h : q) (k : Bx q → p := by
 intro zq
 refine ⟨congrArg (fun z => Ending.returned (TxL.val z)) ?_, hs1.keep⟩
 unfold yJ
 exact zq.1) : p := k ⟨h⟩
theorem kG (h : q) (k : Bx q → p := by
 intro zq
 refine Jq Tryz.func221 O O fun w => ?_
 refine DI fun r2 => ?_
 refine g8 ?_
 refine Hs ?_
 refine Dt ?_
 revert w r2
 exact zq.1) : p := k ⟨h⟩
theorem Dp (h : p := by
 rw [List.length_take, List.length_drop, hl, ← Nat.sub_mul]
 exact Nat.min_eq_left (Nat.mul_le_mul_right _ m3)) : p := h
theorem Dr (h : q) (k : Bx q → p := by
 intro zq
 refine gp ?_
 refine gK ?_
 exact zq.1) : p := k ⟨h⟩
theorem DK (h : q) (k : Bx q → p := by
 intro zq
 refine gw ?_
 refine N5 ?_
 exact zq.1) : p := k ⟨h⟩
theorem Ds (h : p := by
 rename_i h
 rw [D']
 have := (QC h).2.2
 omega) : p := h
theorem Du (h : p := by exact qn ho (hnd i o ho) hw (hr w hs) fun u w' ⟨x, e', hs'⟩ => h _ _ w' (h2 x).1 hs' (e' ▸ (h2 x).2)) : p := h
theorem Dv (h : p := by
 refine Jm (k := 2) (cs' := #[Km r.length (JU 3 1 p)]) O O O O O O O O O O ?_
 exact ND) : p := h
theorem Fh (h : q) (k : Bx q → p := by
 intro zq
 refine LR O (Jb O O) ?_
 exact zq.1) : p := k ⟨h⟩
theorem Dx (h : q) (k : Bx q → p := by
 intro zq
 refine kK ?_
 refine ZH O O O O (fun _ hS => (J7 O)) ?_
 refine ZH O O O O (fun _ hS => (J7 O)) ?_
 refine Jfa ?_
 refine GN ?_
 exact zq.1) : p := k ⟨h⟩
theorem Dy (h : p := by
 refine kB ?_
 refine JT m3 m3 ?_
 refine Nd ?_
 exact Gh) : p := h
theorem Ft (h : q) (k : Bx q → p := by
 intro zq
 refine QO [5, 4] (L' := jo r2 r3 tx0L.cells _) m7 O ?_
 exact zq.1) : p := k ⟨h⟩
theorem DA (h : q) (k : Bx q → p := by
 intro zq
 refine gx ?_
 refine LR O (Ji (xs := y.x.cells) (n := 60) O (kn 1 O) O O O) ?_
 refine JC O O O Jx2 hL ?_
 refine J5 9 O ?_
 exact zq.1) : p := k ⟨h⟩
theorem DB (h : p := by exact qn ho (hnd i o ho) hw (hq w hs) fun u w' ⟨e, hk'⟩ => h E _ w' hE (hs.more hk') (e ▸ hk)) : p := h
theorem FC (h : q) (k : Bx q → p := by
 intro zq
 refine LR O (Ji (xs := [Km ts.length p]) (n := 1) O (kn 2 O) O O O) ?_
 refine JI O (Ju O O O Jx1 hA oR ?_)
 refine H4 ?_
 exact zq.1) : p := k ⟨h⟩
theorem DC (h : q) (k : Bx q → p := by
 intro zq
 first | refine Jt O O O (JH O O O) ?_ | refine Kp O O O ?_
 exact zq.1) : p := k ⟨h⟩
theorem Di (h : q) (k : Bx q → p := by
 intro zq
 refine gw ?_
 refine MP ?_
 exact zq.1) : p := k ⟨h⟩
theorem Ea (h : p := by
 refine KF 12 O ?_
 refine MW fun w1 hs1 => ?_
 rw [jB hx ma hinv]
 rfl) : p := h
theorem Fi (h : q) (k : Bx q → p := by
 intro zq
 refine NG ?_
 refine LR O (Jo (r := rc0L.cells) O m4) ?_
 refine Je (k := 0) (n := 7) (ys := rc0L.cells) O O O O O O O O O ?_
 refine G4 ?_
 exact zq.1) : p := k ⟨h⟩
theorem Fj (h : q) (k : Bx q → p := by
 intro zq
 refine JR (cs := List.toArray (t.cells)) O O O O fun r0 => ?_
 refine gp ?_
 refine Gn ?_
 refine JI O (Ju O O O vh hgl oR ?_)
 refine MR ?_
 refine J5 13 O ?_
 revert r0
 exact zq.1) : p := k ⟨h⟩
theorem DL (h : p := by
 rw [List.perm_iff_count]
 intro x
 simp only [List.count_append, List.count_cons, List.count_nil]
 omega) : p := h
theorem DD (h : q) (k : Bx q → p := by
 intro zq
 refine Gb ?_
 refine N5 ?_
 exact zq.1) : p := k ⟨h⟩
theorem DE (h : q) (k : Bx q → p := by
 intro zq
 refine Jv 7 O ?_
 exact zq.1) : p := k ⟨h⟩
theorem DF (h : q) (k : Bx q → p := by
 intro zq
 refine N0 ?_
 refine Jt O O O (Ja O O m0) ?_
 exact zq.1) : p := k ⟨h⟩
theorem DG (h : q) (k : Bx q → p := by
 intro zq
 refine Nb ?_
 first | refine LR O (JZ O hseg O) ?_ | refine LK O ?_
 exact zq.1) : p := k ⟨h⟩
theorem DO (h : p := by exact .inl ⟨g1.same (back1 undef).symm (back2 undef).symm, fun x => go _ _ hSE.grow (g2 x)⟩) : p := h
theorem DP (h : p := by
 unfold wpOpIn
 simp only [ho]
 rw [if_neg (by rw [hw]; simp)]
 exact ⟨Qc, h E _ w hE hs hk⟩) : p := h
theorem DQ (h : q) (k : Bx q → p := by
 intro zq
 refine gz ?_
 refine H1 ?_
 refine JT m3 m3 ?_
 refine JC O O O (enters_of Tryz.func262 m4 O) (Jrl (v := m) m3) ?_
 refine G5 ?_
 exact zq.1) : p := k ⟨h⟩
theorem DR (h : q) (k : Bx q → p := by
 intro zq
 refine g8 ?_
 refine LR O (Ja (off' := pre.length + 17) O O O) ?_
 exact zq.1) : p := k ⟨h⟩
theorem Ee (h : q) (k : Bx q → p := by
 intro zq
 refine kV ?_
 refine LR O (Ji (xs := ({ zx with kind := ((126 : Nat) : Int) } : TxL).cells) (n := 36) rfl (kn 0 rfl) rfl rfl rfl) ?_
 exact zq.1) : p := k ⟨h⟩
theorem Ef (h : q) (k : Bx q → p := by
 intro zq
 refine Qj Tryz.func55 O O fun w => ?_
 refine MZ ?_
 refine LN O fun r4 => ?_
 refine kB ?_
 revert w r4
 exact zq.1) : p := k ⟨h⟩
theorem DS (h : p := by exact (hs1.own p (M' hp)).2.2) : p := h
theorem DT (h : q) (k : Bx q → p := by
 intro zq
 refine LR O (Jo (r := [_, _, _, _, _]) O O) ?_
 exact zq.1) : p := k ⟨h⟩
theorem DU (h : q) (k : Bx q → p := by
 intro zq
 refine Jr (k := 4) O O O O O (fun _ hS => (Ja O O m0)) ?_
 exact zq.1) : p := k ⟨h⟩
theorem DV (h : q) (k : Bx q → p := by
 intro zq
 refine Jr (k := 5) O O O O O (fun _ hS => (Jw O)) ?_
 refine Jr (k := 6) O O O O O (fun _ hS => (Jw O)) ?_
 exact zq.1) : p := k ⟨h⟩
theorem DW (h : q) (k : Bx q → p := by
 intro zq
 refine JR (cs := List.toArray (m.cells)) O O O O fun r3 => (JD 2 O (wh 3 O ?_))
 revert r3
 exact zq.1) : p := k ⟨h⟩
theorem DY (h : p := by exact ⟨_, _, rfl⟩) : p := h
theorem Eg (h : p := by
 refine NR ?_
 refine gA ?_
 refine N3 fun w1 hs1 => ?_
 exact ⟨(r1, r2), rfl, hs1⟩) : p := h
theorem DZ (h : p := by
 obtain ⟨q, hq, h1, h2⟩ := ih h
 exact ⟨q, M' hq, h1, h2⟩) : p := h
theorem E6 (h : p := by
 show 0 + 0 ≤ 1000000000
 decide) : p := h
theorem E8 (h : q) (k : Bx q → p := by
 intro zq
 refine JP 10 O ?_
 exact zq.1) : p := k ⟨h⟩
theorem DJ (h : q) (k : Bx q → p := by
 intro zq
 refine DE ?_
 refine MP ?_
 refine Nx ?_
 refine kV ?_
 refine LR O (Ki (vs := [_, _, _]) O (kn 0 O) O O O O) ?_
 refine Nt ?_
 refine gA ?_
 exact zq.1) : p := k ⟨h⟩
theorem EJ (h : p := by
 refine HV fun w1 hs1 => ?_
 rw [if_pos ma, if_pos ma]
 rfl) : p := h
theorem Eb (h : p := by
 have h1 := hT _ _ _ H j (ready_mono hj hji)
 have h2 := hlt _ inv (mem_ready.1 hr).1 j hj
 omega) : p := h
theorem Ed (h : q) (k : Bx q → p := by
 intro zq
 refine gx ?_
 refine N5 ?_
 refine Ju O O O eg hg oR ?_
 refine H4 ?_
 exact zq.1) : p := k ⟨h⟩
theorem EK (h : q) (k : Bx q → p := by
 intro zq
 refine GL ?_
 refine MW fun w1 hs1 => ?_
 revert w1 hs1
 exact zq.1) : p := k ⟨h⟩
theorem Eh (h : q) (k : Bx q → p := by
 intro zq
 refine Nz ?_
 refine G5 ?_
 exact zq.1) : p := k ⟨h⟩
theorem EN (h : q) (k : Bx q → p := by
 intro zq
 refine G4 ?_
 refine N3 fun w1 hs1 => ?_
 revert w1 hs1
 exact zq.1) : p := k ⟨h⟩
theorem DM (h : q) (k : Bx q → p := by
 intro zq
 refine kg ?_
 refine Fh ?_
 refine kQ ?_
 refine gj ?_
 refine JD 6 O ?_
 refine QO [1, 2, 3] (L' := [_, _, _]) m7 O ?_
 exact zq.1) : p := k ⟨h⟩
theorem Ej (h : q) (k : Bx q → p := by
 intro zq
 refine Jt O O O (JG (j := i) O hs O O O mg m3) ?_
 refine Jt O O O (Qr oR O hs m3 O (Ja1 hx)) ?_
 exact zq.1) : p := k ⟨h⟩
theorem Ek (h : p := by
 rw [getD_set_ne true hjk] at hun
 exact hun) : p := h
theorem Em (h : q) (k : Bx q → p := by
 intro zq
 refine Jr (k := 14) O O O O O (fun _ hS => (J7 O)) ?_
 exact zq.1) : p := k ⟨h⟩
theorem En (h : q) (k : Bx q → p := by
 intro zq
 refine LR O (Ji (xs := ({ zx with kind := ((0 : Nat) : Int) } : TxL).cells) (n := 36) rfl (kn 0 rfl) rfl rfl rfl) ?_
 exact zq.1) : p := k ⟨h⟩
theorem Eo (h : q) (k : Bx q → p := by
 intro zq
 refine LR O (Ji (xs := ({ zx with kind := ((k : Nat) : Int) } : TxL).cells) (n := 36) rfl (kn 0 rfl) rfl rfl rfl) ?_
 exact zq.1) : p := k ⟨h⟩
theorem Es (h : q) (k : Bx q → p := by
 intro zq
 refine Jm (k := 4) (cs' := #[.int .i64 0]) O O O O O O O O O O ?_
 refine GN ?_
 refine Zz O ?_
 exact zq.1) : p := k ⟨h⟩
theorem Et (h : q) (k : Bx q → p := by
 intro zq
 refine Jv 11 O ?_
 refine Nv ?_
 refine NQ ?_
 exact zq.1) : p := k ⟨h⟩
theorem Eu (h : q) (k : Bx q → p := by
 intro zq
 refine MR ?_
 refine LN O fun r8 => ?_
 revert r8
 exact zq.1) : p := k ⟨h⟩
theorem Ev (h : q) (k : Bx q → p := by
 intro zq
 simp only [execOp]
 rw [hf.eval hx, hf.eval hy]
 exact zq.1) : p := k ⟨h⟩
theorem Ew (h : q) (k : Bx q → p := by
 intro zq
 refine Jr (k := 0) O O O O O (fun _ hS => (Jw O)) ?_
 exact zq.1) : p := k ⟨h⟩
theorem Ex (h : q) (k : Bx q → p := by
 intro zq
 refine Jr (k := 7) O O O O O (fun _ hS => (Jw O)) ?_
 exact zq.1) : p := k ⟨h⟩
theorem Ey (h : q) (k : Bx q → p := by
 intro zq
 refine Jr (k := 8) O O O O O (fun _ hS => (Jw O)) ?_
 exact zq.1) : p := k ⟨h⟩
theorem EZ (h : p := by
 refine kT fun r1 => ?_
 refine kB ?_
 refine NI ?_
 refine N1 ?_
 exact G3) : p := h
theorem EA (h : p := by exact ⟨Z', Z'⟩) : p := h
theorem EB (h : q) (k : Bx q → p := by
 intro zq
 refine LR O (Jy O O) ?_
 exact zq.1) : p := k ⟨h⟩
theorem EC (h : q) (k : Bx q → p := by
 intro zq
 simp only [ne_eq, not_true_eq_false, if_false]
 exact zq.1) : p := k ⟨h⟩
theorem ED (h : q) (k : Bx q → p := by
 intro zq
 refine J2 (k := 0) (n := 4) (cs' := #[_, _, _, _]) (vs := #[_, _, _, _]) O O O O O O O m8 O m5 ?_
 exact zq.1) : p := k ⟨h⟩
theorem EE (h : q) (k : Bx q → p := by
 intro zq
 refine J2 (k := 2) (n := 4) (cs' := #[_, _, _, _]) (vs := #[_, _, _, _]) O O O O O O O m8 O m5 ?_
 exact zq.1) : p := k ⟨h⟩
theorem EO (h : q) (k : Bx q → p := by
 intro zq
 refine MZ ?_
 refine JR (cs := List.toArray (b.cells)) O O O O fun r0 => ?_
 revert r0
 exact zq.1) : p := k ⟨h⟩
theorem EF (h : p := by
 refine G7 ?_
 refine Ju O O O Jno (Jfz hs hl hn) oR ?_
 exact GP) : p := h
theorem EG (h : q) (k : Bx q → p := by
 intro zq
 refine Jt O O O (Jb O O) ?_
 exact zq.1) : p := k ⟨h⟩
theorem Dg (h : p := by
 refine Hf ?_
 refine FB fun w1 hs1 => ?_
 rw [if_neg m3, if_neg m3, hlk, if_neg mC, if_pos mC]
 rfl) : p := h
theorem Ec (h : q) (k : Bx q → p := by
 intro zq
 refine g8 ?_
 refine MP ?_
 exact zq.1) : p := k ⟨h⟩
theorem EL (h : p := by
 rw [List.perm_iff_count]
 intro x
 simp only [List.count_append, List.count_cons]
 omega) : p := h
theorem E9 (h : q) (k : Bx q → p := by
 intro zq
 refine GL ?_
 refine N3 fun w1 hs1 => ?_
 refine NL ?_
 revert w1 hs1
 exact zq.1) : p := k ⟨h⟩
theorem EH (h : q) (k : Bx q → p := by
 intro zq
 show t.data.length > 4096 ∨ (t.acc.map AxL.er).length > 16 ∨ _ ∨ t.auths.length > 8
 rw [D']
 exact zq.1) : p := k ⟨h⟩
theorem EQ (h : q) (k : Bx q → p := by
 intro zq
 refine Gq ?_
 refine G5 ?_
 exact zq.1) : p := k ⟨h⟩
theorem EI (h : p := by
 refine KF 5 O ?_
 exact NJ) : p := h
theorem F0 (h : q) (k : Bx q → p := by
 intro zq
 refine NG ?_
 refine N5 ?_
 exact zq.1) : p := k ⟨h⟩
theorem ES (h : q) (k : Bx q → p := by
 intro zq
 refine Ns ?_
 first | (refine LR O (JW (j := a) O O O O m3 O) ?_) | refine LK O ?_
 refine GZ ?_
 exact zq.1) : p := k ⟨h⟩
theorem ET (h : q) (k : Bx q → p := by
 intro zq
 refine KF 14 O ?_
 refine MT fun w1 hs1 => ?_
 revert w1 hs1
 exact zq.1) : p := k ⟨h⟩
theorem Dz (h : q) (k : Bx q → p := by
 intro zq
 refine Ku 1 O ?_
 exact zq.1) : p := k ⟨h⟩
theorem EU (h : q) (k : Bx q → p := by
 intro zq
 refine LR O (Jc O (kn 3 O) O O) ?_
 exact zq.1) : p := k ⟨h⟩
theorem EV (h : p := by exact List.length_replicate) : p := h
theorem EW (h : q) (k : Bx q → p := by
 intro zq
 refine hKr _ _ ?_
 refine Kl ?_
 exact zq.1) : p := k ⟨h⟩
theorem EX (h : p := by
 rw [List.length_drop, List.length_take]
 omega) : p := h
theorem EM (h : q) (k : Bx q → p := by
 intro zq
 refine kB ?_
 refine MP ?_
 refine kI ?_
 exact zq.1) : p := k ⟨h⟩
theorem Ep (h : q) (k : Bx q → p := by
 intro zq
 refine Hf ?_
 refine N1 ?_
 refine G4 ?_
 refine kJ fun w1 hs1 => ?_
 refine gS ?_
 unfold Yj
 revert w1 hs1
 exact zq.1) : p := k ⟨h⟩
theorem Fk (h : q) (k : Bx q → p := by
 intro zq
 refine Gq ?_
 refine NQ ?_
 exact zq.1) : p := k ⟨h⟩
theorem F3 (h : q) (k : Bx q → p := by
 intro zq
 refine Jr (k := 10) O O O O O (fun _ hS => (J7 O)) ?_
 refine KJ ?_
 refine gp ?_
 refine N5 ?_
 exact zq.1) : p := k ⟨h⟩
theorem F1 (h : p := by
 rw [vN, List.length_zip, e1, e2, ZA, Nat.min_self]
 show 0 + n ≤ n
 omega) : p := h
theorem F2 (h : q) (k : Bx q → p := by
 intro zq
 refine MP ?_
 refine MP ?_
 exact zq.1) : p := k ⟨h⟩
theorem F4 (h : p := by
 have := Nat.eq_of_beq_eq_true h0
 omega) : p := h
theorem EY (h : q) (k : Bx q → p := by
 intro zq
 refine gx ?_
 refine MP ?_
 refine LR O (Jc (v := Km zs.length pz) O (kn 0 O) O O) ?_
 refine Fk ?_
 exact zq.1) : p := k ⟨h⟩
theorem F5 (h : p := by
 have h2 : (128 : Nat) ^ 9 = 9223372036854775808 := by decide
 omega) : p := h
theorem F6 (h : p := by
 show ¬ (t.acc.map AxL.er).length > 16
 rw [D']
 omega) : p := h
end Go.SL
