import Derived.WalkKit
import Derived.CallsIn
import Derived.RangeFuncIn
import Derived.RangeFuncRecord
import Derived.RangeFuncSeq
import Derived.RangeFuncLeaves
import Derived.RangeFuncBound
import Derived.TacticsIn
import Derived.Shelf.Abstract
import Derived.Orders
import Derived.StillTail
import Derived.Sort.QuietThIn
import Derived.Sort.Grow
import Derived.ChangeKeysEq
import Derived.Laws.BytesString
import Derived.ProofKit
import Derived.OpenShut
import Derived.ShutString
import Derived.ChangeOld
import Derived.Below
import Derived.Laws.Small
import Derived.Laws.IdiomStrings
namespace Go.SL
set_option linter.all false
structure Bx (q : Prop) : Prop where
  of : q
variable {p q : Prop}
theorem m0 (h : p := by omega) : p := h
theorem m5 (h : p := by kernel_rfl) : p := h
theorem m6 (h : p := by first | exact (fun _ h => absurd h List.not_mem_nil) | simp [SubS] | (intro p hp; simp [hp])) : p := h
theorem m7 (h : p := by decide) : p := h
theorem m8 (h : p := by exact show _ = Value.int .i64 ((i + 1 : Nat) : Int) from by rw [wrap_i64 (by omega) (by omega)]; congr 1 <;> omega) : p := h
theorem m9 (h : p := by assumption) : p := h
theorem ma (h : p := by rw [wrap_i64 (by omega) (by omega)]; omega) : p := h
theorem mb (h : p := by first | (simp only [Nat.zero_add, Nat.reduceAdd, Nat.reduceMul, Nat.zero_mul, Nat.mul_one, Nat.add_zero]; exact rfl) | exact rfl) : p := h
theorem mc (h : p := by first | exact KM _ _ | exact Kl (by omega) (by decide) (by omega) | (rw [wrap_i64 (by omega) (by omega)]; omega)) : p := h
theorem me (h : p := by first | rfl | omega) : p := h
theorem mf (h : p := by show (madeCells #[_] _).toList = _; rw [KO]; exact rfl) : p := h
theorem mg (h : p := by rw [Int.tmod_eq_emod_of_nonneg (by omega)]; omega) : p := h
theorem mh (h : p := by simp) : p := h
theorem mi (h : p := by first | (simp only [List.setIfInBounds_toArray, List.set_cons_zero, List.set_cons_succ]; exact rfl) | exact rfl) : p := h
theorem mj (h : p := by first | (simp only [List.set_cons_zero, List.set_cons_succ]; exact rfl) | exact rfl) : p := h
theorem ml (h : p := by simp only; omega) : p := h
theorem mm (h : p := by simp only [List.mem_cons, List.mem_append, hq, or_true, true_or]) : p := h
theorem mn (h : p := by exact show _ = Value.int .i64 (((N + 255) / 256 : Nat) : Int) from congrArg (Value.int .i64) (by first | exact KM _ _ | exact Kl (by omega) (by decide) (by omega) | (rw [wrap_i64 (by omega) (by omega)]; omega))) : p := h
theorem mo (h : p := by exact show _ = Value.int .i64 ((N + 255 : Nat) : Int) from congrArg (Value.int .i64) (by first | exact KM _ _ | exact Kl (by omega) (by decide) (by omega) | (rw [wrap_i64 (by omega) (by omega)]; omega))) : p := h
theorem mq (h : p := by exact show _ = Value.int .i64 ((i / 8 : Nat) : Int) from congrArg (Value.int .i64) (by first | exact KM _ _ | exact Kl (by omega) (by decide) (by omega))) : p := h
theorem ms (h : p := by rw [Ka]; exact rfl) : p := h
theorem mt (h : p := by exact show _ = Value.int .i64 ((i / 8 : Nat) : Int) from congrArg (Value.int .i64) (by rw [Kl (by omega) (by omega) (by omega)]; omega)) : p := h
theorem mu (h : p := by first | exact KM _ _ | exact Kl (by omega) (by decide) (by omega)) : p := h
theorem mw (h : p := by unfold VF; first | (rw [if_pos (by assumption)]) | (rw [if_neg (by assumption), if_pos (by assumption)]; have := hp8 (by assumption); omega) | (rw [if_neg (by assumption), if_neg (by assumption)]; rfl)) : p := h
theorem my (h : p := by exact show _ = Value.int .i64 ((i % 8 : Nat) : Int) from congrArg (Value.int .i64) (by first | exact KM _ _ | exact Kl (by omega) (by decide) (by omega))) : p := h
theorem mz (h : p := by rw [if_neg (by omega)]; omega) : p := h
theorem mA (h : p := by simp_all) : p := h
theorem mB (h : p := by exact show _ = Value.int .i64 ((i % 8 : Nat) : Int) from congrArg (Value.int .i64) (by rw [Int.tmod_eq_emod_of_nonneg (by omega)]; omega)) : p := h
theorem mC (h : p := by exact show _ = Value.int .i64 ((i % 5 : Nat) : Int) from congrArg (Value.int .i64) (by rw [Int.tmod_eq_emod_of_nonneg (by omega)]; omega)) : p := h
theorem mD (h : p := by exact show _ = Value.int .i64 ((i % 8 * 8 : Nat) : Int) from congrArg (Value.int .i64) (by rw [wrap_i64 (by omega) (by omega)]; omega)) : p := h
theorem mE (h : p := by simp only [List.mem_append] at hq; rcases hq with h | h <;> simp [h]) : p := h
theorem mF (h : p := by simp only [List.size_toArray, List.length_append]; omega) : p := h
theorem mG (h : p := by exact show _ = Value.int .i64 ((A + y : Nat)) from congrArg (Value.int .i64) (by rw [wrap_i64 (by omega) (by omega)]; omega)) : p := h
theorem mH (h : p := by exact Nat.le_of_ble_eq_true rfl) : p := h
theorem mI (h : p := by rintro _ _ _ ⟨_, rfl, _⟩; rfl) : p := h
theorem mJ (h : p := by exact show _ = Value.int .i64 (((i % 5 + 1) % 5 : Nat) : Int) from congrArg (Value.int .i64) (by rw [Int.tmod_eq_emod_of_nonneg (by omega)]; omega)) : p := h
theorem mK (h : p := by rw [Kl (by omega) (by omega) (by omega)]; omega) : p := h
theorem mL (h : p := by exact show _ ≤ 64 from by omega) : p := h
theorem mM (h : p := by first | decide | omega) : p := h
theorem mN (h : p := by simp only [JJ, List.nil_append, List.append_nil]; exact List.Sublist.refl _) : p := h
theorem mO (h : p := by exact show _ = Value.int .i64 ((i % 5 + 1 : Nat) : Int) from congrArg (Value.int .i64) (by rw [wrap_i64 (by omega) (by omega)]; omega)) : p := h
theorem mP (h : p := by rw [List.mem_singleton.1 hp, List.append_nil]; exact List.mem_cons_self) : p := h
theorem mQ (h : p := by exact show _ = Value.int .i64 ((2 ^ (k + 1) : Nat) : Int) from congrArg (Value.int .i64) ((zF hk16).trans (by rw [Nat.pow_succ]))) : p := h
theorem mR (h : p := by exact show _ = uV (s.getD i 0).toNat from congrArg (Value.int .u64) (wrap_u64 (by omega) (by have := Vh (s.getD i 0); omega))) : p := h
theorem mT (h : p := by simp only [Nat.min_def]; split <;> omega) : p := h
theorem mU (h : p := by rw [List.mem_singleton.1 hp]; exact List.mem_cons_self) : p := h
theorem mV (h : p := by exact show _ = Value.int .i64 ((2 * i + 1 : Nat) : Int) from by rw [wrap_i64 (by omega) (by omega)]; congr 1 <;> omega) : p := h
theorem mW (h : p := by unfold Zy; omega) : p := h
theorem mX (h : p := by exact show _ = Value.int .i64 ((i / 5 + 5 * ((2 * (i % 5) + 3 * (i / 5)) % 5) : Nat) : Int) from congrArg (Value.int .i64) (by rw [wrap_i64 (by omega) (by omega)]; omega)) : p := h
theorem mY (h : p := by exact show _ = Value.int .i64 ((j + 1 : Nat) : Int) from by rw [wrap_i64 (by omega) (by omega)]; congr 1 <;> omega) : p := h
theorem mZ (h : p := by exact show _ = Value.int .i64 (((2 * (i % 5) + 3 * (i / 5)) % 5 : Nat) : Int) from congrArg (Value.int .i64) (by rw [Int.tmod_eq_emod_of_nonneg (by omega)]; omega)) : p := h
theorem n5 (h : p := by exact show _ = Value.int .i64 ((5 * ((2 * (i % 5) + 3 * (i / 5)) % 5) : Nat) : Int) from congrArg (Value.int .i64) (by rw [wrap_i64 (by omega) (by omega)]; omega)) : p := h
theorem n6 (h : p := by exact show _ = uV (u.getD i 0).toNat from congrArg (Value.int .u64) (wrap_u64 (z := ((u.getD i 0).toNat : Int)) (by omega) (by have := Vh (u.getD i 0); omega))) : p := h
theorem n7 (h : p := by rw [List.mem_singleton.1 hq]; exact List.mem_cons_self) : p := h
theorem n8 (h : p := by exact show _ = Value.int .i64 (((i % 5 + 5 - 1) % 5 : Nat) : Int) from congrArg (Value.int .i64) (by rw [Int.tmod_eq_emod_of_nonneg (by omega)]; omega)) : p := h
theorem n9 (h : p := by exact show _ = Value.int .i64 ((2 * (i % 5) + 3 * (i / 5) : Nat) : Int) from congrArg (Value.int .i64) (by rw [wrap_i64 (by omega) (by omega)]; omega)) : p := h
theorem na (h : p := by exact show _ = Value.int .i64 ((n * z : Nat) : Int) from congrArg (Value.int .i64) (by rw [← Int.natCast_mul]; exact wrap_i64 (by omega) (by omega))) : p := h
theorem nb (h : p := by rw [List.length_append]; omega) : p := h
theorem nc (h : p := by rcases List.mem_append.1 hq with h | h <;> simp [h]) : p := h
theorem nd (h : p := by exact show CallsIn (FW c.ro) 0 c.P g vs.toArray w _ from hc) : p := h
theorem ne (h : p := by exact show _ = Value.int .i64 ((tX i + 5 * tY i : Nat) : Int) from congrArg (Value.int .i64) (by rw [wrap_i64 (by omega) (by omega)]; omega)) : p := h
theorem nf (h : p := by rw [h] at hr; cases hr) : p := h
theorem ng (h : p := by exact show _ = Value.int .i64 ((i % 5 + 5 - 1 : Nat) : Int) from congrArg (Value.int .i64) (by rw [wrap_i64 (by omega) (by omega)]; omega)) : p := h
theorem nh (h : p := by exact show _ = Value.int .i64 ((136 * i + 136 : Nat) : Int) from congrArg (Value.int .i64) (by rw [wrap_i64 (by omega) (by omega)]; omega)) : p := h
theorem ni (h : p := by simp only; rw [show (i + 1 + 7) / 8 = i / 8 + 1 by omega]; rfl) : p := h
theorem nj (h : p := by exact show _ = Value.int .i64 ((2 * (i % 5) : Nat) : Int) from congrArg (Value.int .i64) (by rw [wrap_i64 (by omega) (by omega)]; omega)) : p := h
theorem nk (h : p := by exact show _ = Value.int .i64 ((3 * (i / 5) : Nat) : Int) from congrArg (Value.int .i64) (by rw [wrap_i64 (by omega) (by omega)]; omega)) : p := h
theorem nl (h : p := by exact show _ = Value.int .i64 ((i / 5 : Nat) : Int) from congrArg (Value.int .i64) (by rw [Kl (by omega) (by omega) (by omega)]; omega)) : p := h
theorem nm (h : p := by exact show _ = Value.int .i64 ((N : Nat) : Int) from congrArg (Value.int .i64) (by rw [Kl (by omega) (by decide) (by omega), hN]; rfl)) : p := h
theorem nn (h : p := by exact show _ = Value.int .i64 ((5 * tY i : Nat) : Int) from congrArg (Value.int .i64) (by rw [wrap_i64 (by omega) (by omega)]; omega)) : p := h
theorem np (h : p := by exact show _ = Value.int .i64 ((8 * s.length : Nat)) from congrArg (Value.int .i64) (by rw [wrap_i64 (by omega) (by omega)]; omega)) : p := h
theorem nq (h : p := by exact show _ = Value.int .i64 ((8 * i : Nat) : Int) from congrArg (Value.int .i64) (by rw [wrap_i64 (by omega) (by omega)]; omega)) : p := h
theorem nr (h : p := by show _ < 18446744073709551616; omega) : p := h
theorem nt (h : p := by exact show _ = Value.int .i64 ((K : Nat) : Int) from congrArg (Value.int .i64) (by rw [wrap_i64 (by omega) (by omega)]; omega)) : p := h
theorem nw (h : p := by exact show _ = uV (i % 8 * 8) from congrArg (Value.int .u64) (wrap_u64 (z := ((i % 8 * 8 : Nat) : Int)) (by omega) (by omega))) : p := h
theorem ny (h : p := by exact show _ = Value.int .i64 ((H + th.length : Nat) : Int) from by rw [wrap_i64 (by omega) (by omega)]; congr 1 <;> omega) : p := h
theorem nz (h : p := by simpa using h) : p := h
theorem nA (h : p := by exact show _ = Value.int .i64 ((l.length + 8 : Nat) : Int) from by rw [wrap_i64 (by omega) (by omega)]; congr 1 <;> omega) : p := h
theorem nB (h : p := by exact show _ = Value.int .i64 ((l.length + 7 : Nat) : Int) from by rw [wrap_i64 (by omega) (by omega)]; congr 1 <;> omega) : p := h
theorem nC (h : p := by exact show _ = Value.int .i64 ((32 * (i + 1) : Nat) : Int) from by rw [wrap_i64 (by omega) (by omega)]; congr 1 <;> omega) : p := h
theorem nD (h : p := by exact show i < xs.length by omega) : p := h
theorem nE (h : p := by exact show _ = Value.int .i64 ((2 * (i + 1) : Nat) : Int) from by rw [wrap_i64 (by omega) (by omega)]; congr 1 <;> omega) : p := h
theorem nF (h : p := by exact show _ = Value.int .i64 ((32 * i + M : Nat) : Int) from by rw [wrap_i64 (by omega) (by omega)]; congr 1 <;> omega) : p := h
theorem nG (h : p := by have := m4 (by assumption); omega) : p := h
theorem nH (h : p := by exact show _ = Value.int .i64 ((n + 1 - i : Nat) : Int) from by rw [wrap_i64 (by omega) (by omega)]; congr 1 <;> omega) : p := h
theorem nI (h : p := by simp only; rw [← hvc]; exact .cons _ (.cons _ (List.Sublist.refl _))) : p := h
theorem nJ (h : p := by exact show _ = bV (UInt8.ofNat pick.toNat) from Jaj (m4 (by assumption)).2.1 (by have := m4 (by assumption); omega)) : p := h
theorem nL (h : p := by exact show _ = Value.int .i64 ((n + 1 : Nat) : Int) from by rw [wrap_i64 (by omega) (by omega)]; congr 1 <;> omega) : p := h
theorem nM (h : p := by exact show _ = some (KE ls.length (Qv row)) from by rw [Vw _ _ hok.zero]; rfl) : p := h
theorem nN (h : p := by exact show _ = uV (pick.toNat) from congrArg (Value.int .u64) ((wrap_u64 (by omega) (by omega)).trans (by omega))) : p := h
theorem nO (h : p := by simp only [List.toList_toArray]; rw [List.append_assoc, List.drop_left' lA, ← hX, List.take_left' lB]) : p := h
theorem nP (h : p := by intro e he; simp at he; rcases he with rfl | rfl | rfl | rfl | rfl | rfl | rfl <;> exact ⟨_, rfl⟩) : p := h
theorem nQ (h : p := by have := congrArg List.length hX; simp only [List.size_toArray, List.length_append] at this ⊢; omega) : p := h
theorem nR (h : p := by simp; omega) : p := h
theorem nS (h : p := by intro e he; simp at he; rcases he with rfl | rfl | rfl | rfl | rfl | rfl <;> exact ⟨_, rfl⟩) : p := h
theorem nT (h : p := by simp only [List.toList_toArray]; rw [List.append_assoc, List.drop_left' lA, List.take_left' lB]) : p := h
theorem nU (h : p := by simp only [List.toList_toArray, List.drop_zero]; rw [List.append_assoc, List.take_left' lA]) : p := h
theorem nV (h : p := by intro e he; simp at he; rcases he with rfl | rfl | rfl | rfl | rfl <;> exact ⟨_, rfl⟩) : p := h
theorem nW (h : p := by rw [List.length_map, hsl]; omega) : p := h
theorem nX (h : p := by simp only [List.mem_cons, not_or]; exact ⟨hnq, fun hm => apartR (.inl hm) p hp rfl⟩) : p := h
theorem nY (h : p := by exact show _ = uV (items.length) from congrArg (Value.int .u64) (wrap_u64 (by omega) (by omega))) : p := h
theorem nZ (h : p := by have := (KC (hx i h)).1; unfold VF at this ⊢; rw [if_neg h8] at this ⊢; exact this) : p := h
theorem M0 (h : p := by exact show _ = uV (bits.length) from congrArg (Value.int .u64) (wrap_u64 (by omega) (by omega))) : p := h
theorem M1 (h : p := by cases hdep) : p := h
theorem M2 (h : p := by exact show i < ins.length by omega) : p := h
theorem M3 (h : p := by intro e he; simp at he; rcases he with rfl | rfl | rfl | rfl <;> exact ⟨_, rfl⟩) : p := h
theorem M4 (h : p := by exact show CallsIn (FW c.ro) (0 - 1) c.P gf _ w2 _ from callsIn_wide (n := 0) |>.2 hcalls) : p := h
theorem M5 (h : p := by rw [ha]; rfl) : p := h
theorem M6 (h : p := by rw [List.length_map]; exact h) : p := h
theorem M7 (h : p := by exact show _ = uV (i % 8) from congrArg (Value.int .u64) (wrap_u64 (by omega) (by omega))) : p := h
theorem M8 (h : p := by exact show _ = Value.int .i64 ((N : Nat) : Int) from congrArg (Value.int .i64) (by omega)) : p := h
theorem M9 (h : p := by exact show [x0][0]? = some x0 from rfl) : p := h
theorem Ma (h : p := by simp only; rw [← hvc]; exact .cons _ (.cons _ (.cons _ (List.Sublist.refl _)))) : p := h
theorem Mb (h : p := by simp only [List.toList_toArray]; rw [List.take_left' (by rw [List.length_map])]) : p := h
theorem Mc (h : p := by simp only; rw [htki, Wo]; exact List.Sublist.refl _) : p := h
theorem Md (h : p := by have := congrArg List.length hX; simp only [List.length_append] at this; omega) : p := h
theorem Me (h : p := by rw [List.length_drop]; omega) : p := h
theorem Mf (h : p := by intro e he; simp at he; rcases he with rfl | rfl | rfl <;> exact ⟨_, rfl⟩) : p := h
theorem Mg (h : p := by exact show _ = bV (UInt8.ofNat ((Y.getD (i / 8) 0).toNat + 2 ^ (i % 8))) from Jfk hlt8) : p := h
theorem Mh (h : p := by exact show ¬ ((k = 4 ∧ n < items.length) ∨ (k = 6 ∧ n < bits.length)) by omega) : p := h
theorem Mi (h : p := by exact show body.wpIn ((FW none).inRound (w.heap.size + 1)) 0 c.P _ a₁ _ from hb2) : p := h
theorem Mj (h : p := by have := (q2 (by omega)).2.1; omega) : p := h
theorem Mk (h : p := by show YC a.p + i * 2 + 1 = _; omega) : p := h
theorem Ml (h : p := by show (Va (J3 _ _) && true) = true; rw [ZN]; rfl) : p := h
theorem Mm (h : p := by rw [List.length_map, hl.1]) : p := h
theorem Mn (h : p := by rw [List.length_map, ha.1]) : p := h
theorem Mo (h : p := by rw [List.length_map, hb.1]) : p := h
theorem Mp (h : p := by intro e he; simp at he; rcases he with rfl | rfl <;> exact ⟨_, rfl⟩) : p := h
theorem Mq (h : p := by rw [Bool.not_eq_true]; assumption) : p := h
theorem Mr (h : p := by rw [← Jk1 v.x, v.er]; exact hww) : p := h
theorem Ms (h : p := by rw [List.length_drop, List.length_map]; omega) : p := h
theorem Mt (h : p := by have := Z2.1 hv.1; omega) : p := h
theorem Mu (h : p := by simpa using (show m < ops.length by omega)) : p := h
theorem Mv (h : p := by exact show RoundIn (FW c.ro) (0 - 1) c.P q fn tmps assign body w _ from hR) : p := h
theorem Mw (h : p := by intro e he; simp at he; rcases he with rfl <;> exact ⟨_, rfl⟩) : p := h
theorem Mx (h : p := by exact show _ ≤ 8 from by omega) : p := h
theorem My (h : p := by split <;> omega) : p := h
theorem Mz (h : p := by rw [hn]; exact Nat.le_of_ble_eq_true hlen) : p := h
theorem MA (h : p := by rw [getD_replicate_false] at hl; cases hl) : p := h
theorem MB (h : p := by exact show _ = some (J3 (KG l N l.length).length _) from by rw [QH]; rfl) : p := h
theorem MC (h : p := by exact show i < s.accts.length by omega) : p := h
theorem MD (h : p := by rw [← Int.natCast_mul]; exact wrap_i64 (by omega) (by omega)) : p := h
theorem ME (h : p := by simpa using hb) : p := h
theorem MF (h : p := by rw [show ((0 : Nat) : Int) = 0 from rfl, Int.sub_zero]; rfl) : p := h
theorem MG (h : p := by rw [hmq, if_pos (fun e => absurd hv.1 (by rw [e]; decide))]) : p := h
theorem MH (h : p := by rw [hmq, if_neg hmod, if_pos (by have := Z2.1 hv.1; omega)]) : p := h
theorem MI (h : p := by rw [hl]; simp [bV, Function.comp_def]) : p := h
theorem MJ (h : p := by simp only [List.toList_toArray]; rw [List.take_left' hr1]) : p := h
theorem MK (h : p := by simp only [List.append_nil]; exact List.Sublist.refl _) : p := h
theorem ML (h : p := by rw [List.size_toArray, List.length_append, hr1]; omega) : p := h
theorem MM (h : p := by rw [List.mem_singleton.1 hp]; simp) : p := h
theorem MN (h : p := by show YC a.p + i * 2 + 0 = _; omega) : p := h
theorem MO (h : p := by simp only [List.mem_cons, not_or]; exact ⟨g2, g1⟩) : p := h
theorem MP (h : p := by rw [List.size_toArray, List.length_map, (habk 136).1]) : p := h
theorem MQ (h : p := by have := Z1.mp hok; omega) : p := h
theorem MR (h : p := by simpa using hy) : p := h
theorem MS (h : p := by rw [List.length_replicate]; omega) : p := h
theorem MT (h : p := by rw [YL (by rw [List.length_set]; omega), Zr, ← hY]) : p := h
theorem MU (h : p := by simp only [List.length_cons, List.length_nil]; omega) : p := h
theorem MV (h : p := by rw [Kl (by omega) (by decide) (by omega), hN]; rfl) : p := h
theorem MW (h : p := by rw [List.length_reverse, QC]; exact Nat.le_refl _) : p := h
theorem MX (h : p := by exact show St c L X w.drew from hs.drew) : p := h
theorem MY (h : p := by have := Vh (s.getD i 0); omega) : p := h
theorem MZ (h : p := by simp only; rw [hst0]; exact List.Sublist.refl _) : p := h
theorem N0 (h : p := by exact show i < a.slots.length by omega) : p := h
theorem N1 (h : p := by rw [hz]; rfl) : p := h
theorem N2 (h : p := by rw [Zs, if_pos (by assumption)] at hb1; omega) : p := h
theorem N3 (h : p := by rw [s.er_len]; omega) : p := h
theorem N4 (h : p := by exact show i < items.length by omega) : p := h
theorem N5 (h : p := by rw [List.length_map]; omega) : p := h
theorem N6 (h : p := by exact show 0 < items.length by omega) : p := h
theorem N7 (h : p := by decide +kernel) : p := h
theorem N8 (h : p := by exact show m < ops.length by omega) : p := h
theorem N9 (h : p := by rw [hx]; exact hk) : p := h
theorem Na (h : p := by rw [hl.1]; omega) : p := h
theorem Nb (h : p := by rw [hc.1]; omega) : p := h
theorem Nc (h : p := by rw [QG]; decide) : p := h
theorem Nd (h : p := by simpa using hx) : p := h
theorem Nf (h : p := by simpa using ho) : p := h
theorem Ng (h : p := by simpa using ht) : p := h
theorem Nh (h : p := by rw [KH]; omega) : p := h
theorem Ni (h : p := by simp at h ⊢; omega) : p := h
theorem Nj (h : p := by rw [hdl]; exact hL.1) : p := h
theorem Nk (h : q) (k : Bx q → p := by
 intro zq
 refine pT rfl rfl rfl fun w1 hs1 => ?_
 refine ⟨?_, hs1.keep⟩
 revert w1 hs1
 exact zq.1) : p := k ⟨h⟩
theorem Nl (h : q) (k : Bx q → p := by
 intro zq
 refine JN ?_
 refine Jt 2 rfl ?_
 refine LN rfl fun r1 => ?_
 revert r1
 exact zq.1) : p := k ⟨h⟩
theorem Nm (h : q) (k : Bx q → p := by
 intro zq
 refine Jb rfl rfl rfl (Jg rfl) ?_
 exact zq.1) : p := k ⟨h⟩
theorem Nn (h : q) (k : Bx q → p := by
 intro zq
 refine Jh m0 m0 ?_
 refine J0 2 rfl ?_
 refine Jr ?_
 exact zq.1) : p := k ⟨h⟩
theorem No (h : q) (k : Bx q → p := by
 intro zq
 refine Jb rfl rfl rfl (Ju rfl rfl rfl) ?_
 exact zq.1) : p := k ⟨h⟩
theorem Np (h : q) (k : Bx q → p := by
 intro zq
 refine LW 1 [0] rfl rfl ?_
 first | refine LR rfl (Jl rfl hs rfl) ?_ | refine LK rfl ?_
 exact zq.1) : p := k ⟨h⟩
theorem Nq (h : q) (k : Bx q → p := by
 intro zq
 refine Jt 1 rfl ?_
 refine LR rfl (Ji (xs := [.int .u64 0, .int .u64 0, .int .u64 0, .int .u64 0, .slice none 0 0, J3 i row, .int .i64 0]) (n := 7) rfl (kn 0 rfl) rfl rfl rfl) ?_
 refine Jv (k := 1) (n := 7) (ys := [.int .u64 0, .int .u64 0, .int .u64 0, .int .u64 0, .slice none 0 0, J3 i row, .int .i64 0]) rfl rfl rfl rfl rfl rfl rfl honeV rfl ?_
 refine J0 3 rfl ?_
 refine Jn rfl rfl (.cons (J4 (vs := [_, _, _, _, _, _, _]) rfl (kn 1 rfl) rfl rfl) .nil) (fun w1 hs1 => ?_)
 revert w1 hs1
 exact zq.1) : p := k ⟨h⟩
theorem Nr (h : q) (k : Bx q → p := by
 intro zq
 refine Jn rfl rfl (.cons (Jx rfl) (.cons (Jx rfl) .nil)) (fun w1 hs1 => ?_)
 revert w1 hs1
 exact zq.1) : p := k ⟨h⟩
theorem Ns (h : p := by exact ⟨rfl, hs1.keep⟩) : p := h
theorem Nt (h : q) (k : Bx q → p := by
 intro zq
 refine Jk (k := 0) rfl rfl rfl rfl rfl (fun _ hS => (Jw rfl rfl rfl)) ?_
 refine JY (k := 1) rfl rfl rfl rfl rfl (Jd rfl (kn 0 rfl) rfl rfl) ?_
 refine JU (k := 2) rfl rfl rfl rfl rfl Jmn hpk oR ?_
 refine Jk (k := 4) rfl rfl rfl rfl rfl (fun _ hS => (Jw rfl rfl rfl)) ?_
 refine JY (k := 5) rfl rfl rfl rfl rfl (Jd rfl (kn 1 rfl) rfl rfl) ?_
 refine Jk (k := 6) rfl rfl rfl rfl rfl (fun _ _ => (Ju rfl rfl rfl)) ?_
 refine Qw mo ?_
 refine Jk (k := 7) rfl rfl rfl rfl rfl (fun _ _ => (Ju rfl rfl rfl)) ?_
 exact zq.1) : p := k ⟨h⟩
theorem Nu (h : q) (k : Bx q → p := by
 intro zq
 refine LR rfl (Jq (vs := [_, _, _]) rfl (kn 0 rfl) rfl rfl rfl rfl) ?_
 exact zq.1) : p := k ⟨h⟩
theorem Nv (h : p := by
 refine KQ 5 rfl ?_
 refine Jn rfl rfl .nil (fun w1 hs1 => ?_)
 obtain ⟨xs1, hx1⟩ := hs1.now
 exact ⟨⟨_, rfl⟩, hs1.keep, .inr ⟨_, hx1⟩⟩) : p := h
theorem Nw (h : q) (k : Bx q → p := by
 intro zq
 refine LR rfl (Jq (vs := [_, _, _, _, _, _, _]) rfl (kn 0 rfl) rfl rfl rfl rfl) ?_
 exact zq.1) : p := k ⟨h⟩
theorem Nx (h : q) (k : Bx q → p := by
 intro zq
 first | refine LR rfl (Jw rfl rfl rfl) ?_ | refine LK rfl ?_
 exact zq.1) : p := k ⟨h⟩
theorem Ny (h : q) (k : Bx q → p := by
 intro zq
 refine Jk (k := 1) rfl rfl rfl rfl rfl (fun _ hS => (Jd rfl (.inl (hS _ (Kh (n := 0) rfl))) rfl rfl)) ?_
 refine Jk (k := 2) rfl rfl rfl rfl rfl (fun _ hS => (Jw rfl rfl rfl)) ?_
 refine Jk (k := 3) rfl rfl rfl rfl rfl (fun _ hS => (Jd rfl (.inl (hS _ (Kh (n := 1) rfl))) rfl rfl)) ?_
 exact zq.1) : p := k ⟨h⟩
theorem Nz (h : p := by
 refine pT rfl rfl rfl fun w1 hs1 => ?_
 exact Ns) : p := h
theorem NA (h : q) (k : Bx q → p := by
 intro zq
 refine Nl fun r1 => ?_
 refine LN rfl fun r2 => ?_
 revert r1 r2
 exact zq.1) : p := k ⟨h⟩
theorem NB (h : q) (k : Bx q → p := by
 intro zq
 refine Qe (k := 16) (dv := [_, _, _, _, _]) (n := 5) (sz := 7) (vs := [_, _, _, _, _]) (zs := [_, _, _, _, _, _, _, _, _, _, _, _, _, _, _, _, _, _, _, _, _, _, _, _, _, _, _, _, _, _, _, _, _, _, _]) (r := [uV ya, uV yb, uV yc, uV yd, KE ybits.length ypb, KE yitems.length ypi, .int .i64 ypick, uV nonce, uV 0, uV 0, uV 0, .slice none 0 0, .slice none 0 0, .int .i64 0, uV ba, uV bb, uV bc, uV bd, .slice none 0 0, .slice none 0 0, .int .i64 0, uV za, uV zb, uV zc, uV zd, KE zbits.length zpb, KE zitems.length zpi, .int .i64 zpick, uV 0, uV 0, uV 0, uV 0, .slice none 0 0, KE us.length (Qv rw2), .int .i64 0]) rfl rfl rfl rfl rfl rfl rfl rfl rfl rfl rfl rfl rfl ms rfl fun rb => ?_
 refine Jk (k := 17) rfl rfl rfl rfl rfl (fun _ hS => (J5 (r := [_, _, _, _, _, _, _]) rfl rfl)) ?_
 refine Qe (k := 18) (dv := [_]) (n := 1) (sz := 7) (vs := [_]) (zs := [_, _, _, _, _, _, _]) (r := [.int .u64 0, .int .u64 0, .int .u64 0, .int .u64 0, .slice none 0 0, .slice (some ⟨rb, 0, none⟩) 5 5, .int .i64 0]) rfl rfl rfl rfl rfl rfl rfl rfl rfl rfl rfl rfl rfl ms rfl fun rc => ?_
 refine Kc ?_
 revert rb rc
 exact zq.1) : p := k ⟨h⟩
theorem NC (h : p := by exact Jm (i + 1) m0 m0 (lK rfl) (List.Sublist.refl _) (fun _ _ h => h)) : p := h
theorem ND (h : q) (k : Bx q → p := by
 intro zq
 refine Jj m8 ?_
 refine J0 2 rfl ?_
 refine Jr ?_
 exact zq.1) : p := k ⟨h⟩
theorem NE (h : q) (k : Bx q → p := by
 intro zq
 refine LR rfl (Jl rfl hs rfl) ?_
 exact zq.1) : p := k ⟨h⟩
theorem NF (h : q) (k : Bx q → p := by
 intro zq
 refine JD [(r2, .cells #[.int .u64 0, .int .u64 0, .int .u64 0, .int .u64 0, .slice none 0 0, J3 i row, .int .i64 0] 81 (0, 0))] [(0, .pure), (1, .pure), (2, .pure), (3, .pure), (4, .pure), (5, .pure), (6, .pure), (7, .pure), (8, .grow (VS (slV 1) (.cells #[uV (s.getD i 0).toNat, uV 0, uV 0, uV 0, .slice none 0 0, .slice none 0 0, .int .i64 0] 81 (0, 0))))] 9 [0, 1, 2, 3, 4, 5, 6, 7, 8] m5 m5 m6 ?_
 refine Jk (k := 0) rfl rfl rfl rfl rfl (fun _ hS => (Jw rfl rfl rfl)) ?_
 refine Jk (k := 1) rfl rfl rfl rfl rfl (fun _ hS => (Jd rfl (.inl (hS _ (Kh (n := 0) rfl))) rfl rfl)) ?_
 refine Jk (k := 2) rfl rfl rfl rfl rfl (fun _ hS => (Jg rfl)) ?_
 refine Jk (k := 3) rfl rfl rfl rfl rfl (fun _ hS => (Jg rfl)) ?_
 refine Jk (k := 4) rfl rfl rfl rfl rfl (fun _ _ => Vt (j := i) rfl rfl rfl rfl m0 rfl) ?_
 refine Jk (k := 5) rfl rfl rfl rfl rfl (fun _ _ => (Ju rfl rfl rfl)) ?_
 refine Qw mR ?_
 exact zq.1) : p := k ⟨h⟩
theorem NG (h : q) (k : Bx q → p := by
 intro zq
 refine JR 7 m5 m5 ?_
 refine Nm ?_
 refine Jb rfl rfl rfl (Jw rfl rfl rfl) ?_
 refine Jb rfl rfl rfl (Jd rfl (JG (k := 1) rfl) rfl rfl) ?_
 refine Nm ?_
 refine Jb rfl rfl rfl (Jf (j := VF k pick i) rfl hst rfl rfl rfl mw (hx i hil)) ?_
 refine Jb rfl rfl rfl (Ko oR rfl hst hty.1 rfl rfl) ?_
 refine Jb rfl rfl rfl (Ji (xs := (X0 items i).cells) (n := 7) rfl (kn 0 rfl) rfl rfl (X0 items i).len) ?_
 exact zq.1) : p := k ⟨h⟩
theorem NH (h : p := by
 refine Nq fun w1 hs1 => ?_
 have hiM : i = s.length := by omega
 rw [hiM, List.take_length] at hrow hs1
 have hrow2 : rowOk 7 (s.map Zu).length (KL (s.map Zu)) row := by rw [List.length_map]; exact hrow
 have hvr : J3 i row = KE (s.map Zu).length (Qv row) := by rw [hiM, List.length_map]; exact (Vw _ _ (fun h => by rw [h] at hrow; exact hrow.1)).symm
 exact ⟨⟨.mk 0 0 0 0 [] none (s.map Zu) (Qv row) 0, JJ 81 (KL (s.map Zu)) row ++ [], YR N5 (Ke hrow2 m7) (fun x hx => by obtain ⟨b, _, rfl⟩ := List.mem_map.1 hx; exact Jsi b) i0, Jsj s _⟩, congrArg (fun z => Ending.returned (Value.agg #[.int .u64 0, .int .u64 0, .int .u64 0, .int .u64 0, .slice none 0 0, z, .int .i64 0])) hvr, hs1.weakL (.cons _ (.cons _ MK))⟩) : p := h
theorem NI (h : q) (k : Bx q → p := by
 intro zq
 refine yw [(r1, .cells #[J3 n row3] 109 (0, 0))] [(0, .pure), (1, .pure), (2, .pure), (3, .pure), (4, .pure), (5, .act (Jdq (slV 1) (.cells #[Jy sv] 9 (0, 0))))] 6 m5 m5 (fun p hp => List.mem_singleton.1 hp ▸ List.mem_cons_self) ?_
 refine ZJ rfl rfl rfl rfl (fun _ hS => (Jd rfl (.inl (hS _ (Kh (n := 0) rfl))) rfl rfl)) ?_
 refine ZJ rfl rfl rfl rfl (fun _ hS => (Jg rfl)) ?_
 refine ZJ rfl rfl rfl rfl (fun _ hS => (Jg rfl)) ?_
 refine ZJ rfl rfl rfl rfl (fun _ hS => (Qc (a := ls2.getD (2 * i) []) (b := ls2.getD (2 * i + 1) []) rfl rfl m0)) ?_
 refine yx rfl rfl rfl rfl Jer hkc ?_
 refine Yy (n := 1) (sz := 1) (vs := [_]) (zs := [_]) (r := [Jy sv]) rfl rfl rfl rfl rfl rfl rfl rfl rfl rfl mf rfl (fun p hp => List.mem_singleton.1 hp ▸ List.mem_cons_self) fun rv => ?_
 refine Jgw ?_
 revert rv
 exact zq.1) : p := k ⟨h⟩
theorem NJ (h : q) (k : Bx q → p := by
 intro zq
 refine J9 1 rfl ?_
 refine JD [] [(3, .pure), (5, .pure), (6, .pure), (7, .pure), (8, .pure)] 9 [0, 1, 3, 4, 5, 6, 2, 7, 8] m5 m5 m6 ?_
 refine JY (k := 0) rfl rfl rfl rfl rfl (Ji (xs := (Ty.mk k (N : Int) p ins).cells) (n := 3) rfl (kn 1 rfl) rfl rfl (Ty.mk k (N : Int) p ins).len) ?_
 refine JY (k := 1) rfl rfl rfl rfl rfl (Ji (xs := (Vl.mk a b c d bits pb items pi pick).cells) (n := 7) rfl (kn 0 rfl) rfl rfl (Vl.mk a b c d bits pb items pi pick).len) ?_
 refine Jk (k := 3) rfl rfl rfl rfl rfl (fun _ hS => (Jw rfl rfl rfl)) ?_
 refine JY (k := 4) rfl rfl rfl rfl rfl (Jd rfl (kn 0 rfl) rfl rfl) ?_
 refine Jk (k := 5) rfl rfl rfl rfl rfl (fun _ hS => (Jl rfl hs rfl)) ?_
 refine Jk (k := 6) rfl rfl rfl rfl rfl (fun _ _ => (Ju rfl rfl rfl)) ?_
 exact zq.1) : p := k ⟨h⟩
theorem NK (h : q) (k : Bx q → p := by
 intro zq
 refine J9 6 rfl ?_
 exact zq.1) : p := k ⟨h⟩
theorem NL (h : q) (k : Bx q → p := by
 intro zq
 refine Nr fun w1 hs1 => ?_
 refine ⟨?_, hs1.keep⟩
 revert w1 hs1
 exact zq.1) : p := k ⟨h⟩
theorem NM (h : q) (k : Bx q → p := by
 intro zq
 refine JY (k := 0) rfl rfl rfl rfl rfl (Ji (xs := (Ty.mk k n p ins).cells) (n := 3) rfl (kn 1 rfl) rfl rfl (Ty.mk k n p ins).len) ?_
 refine Jk (k := 1) rfl rfl rfl rfl rfl (fun _ hS => (Jw rfl rfl rfl)) ?_
 refine JY (k := 2) rfl rfl rfl rfl rfl (Jd rfl (kn 0 rfl) rfl rfl) ?_
 refine Jk (k := 4) rfl rfl rfl rfl rfl (fun _ hS => (Jw rfl rfl rfl)) ?_
 exact zq.1) : p := k ⟨h⟩
theorem NN (h : q) (k : Bx q → p := by
 intro zq
 refine Jn rfl rfl (.cons (J4 (vs := [_, _, _, _, _, _, _, _]) rfl (kn 0 rfl) rfl rfl) (.cons (Jx rfl) .nil)) (fun w1 hs1 => ?_)
 revert w1 hs1
 exact zq.1) : p := k ⟨h⟩
theorem NO (h : q) (k : Bx q → p := by
 intro zq
 refine JS (k := 3) rfl rfl rfl rfl rfl Jqb (Ye (s := PB) m0) (fun q hq => by first | exact .inr hq | cases hq) fun x => ?_
 refine JU (k := 8) rfl rfl rfl rfl rfl Jho (Zq (hnb m0) Mj (Ke x.2 m7) (VX _)) (fun q hq => .inl (List.mem_append_left _ hq)) ?_
 revert x
 exact zq.1) : p := k ⟨h⟩
theorem NP (h : q) (k : Bx q → p := by
 intro zq
 refine YE (k := 0) rfl rfl rfl rfl rfl Jeq q8 fun mr => ?_
 refine JY (k := 3) rfl rfl rfl rfl rfl (Y9 (Yi (t := 3) m5) rfl rfl (kn 0 rfl) rfl rfl ⟨_, rfl⟩ ZT (j3 hkk)) ?_
 refine Jk (k := 4) rfl rfl rfl rfl rfl (fun _ hS => (Ju rfl rfl rfl)) ?_
 revert mr
 exact zq.1) : p := k ⟨h⟩
theorem NQ (h : q) (k : Bx q → p := by
 intro zq
 refine Jb rfl rfl rfl (J7 (j := i) (m := 1) (off' := i) rfl rfl rfl rfl m0 m0 m0) ?_
 exact zq.1) : p := k ⟨h⟩
theorem NR (h : q) (k : Bx q → p := by
 intro zq
 refine Jk (k := 4) rfl rfl rfl rfl rfl (fun E' hS => Jf (j := pick.toNat) rfl hst rfl rfl rfl m0 m0) ?_
 refine JY (k := 5) rfl rfl rfl rfl rfl (Ko oR rfl hst hty8.1 rfl rfl) ?_
 refine Jk (k := 6) rfl rfl rfl rfl rfl (fun _ hS => (Jw rfl rfl rfl)) ?_
 refine JY (k := 7) rfl rfl rfl rfl rfl (Jd rfl (kn 0 rfl) rfl rfl) ?_
 refine Jk (k := 8) rfl rfl rfl rfl rfl (fun E' hS => Jf (j := 0) rfl hs rfl rfl rfl me m0) ?_
 refine JY (k := 9) rfl rfl rfl rfl rfl (KV oR rfl hs hx8.1 rfl rfl) ?_
 refine Jk (k := 11) rfl rfl rfl rfl rfl (fun _ hS => (Jw rfl rfl rfl)) ?_
 refine JY (k := 12) rfl rfl rfl rfl rfl (Jd rfl (kn 0 rfl) rfl rfl) ?_
 exact zq.1) : p := k ⟨h⟩
theorem NS (h : p := by
 refine J0 4 rfl ?_
 exact Nz) : p := h
theorem NT (h : p := by
 obtain ⟨sv, hsv⟩ : ∃ x, x = WO (ls2.getD (2 * i) [] ++ ls2.getD (2 * i + 1) []) := ⟨_, rfl⟩
 rw [← hsv] at hkc
 refine NI fun rv => ?_
 refine JB (L0 := [_, _]) (xs := xs) (row := row3) (n := n) (sz := 1) (b := 16) (news := [Jy sv]) (List.perm_append_comm (l₁ := [_, _])) rfl rfl rfl rfl (kn 0 rfl) rfl rfl rfl rfl rfl m7 rfl rfl rfl m7 hr3 m0 m0 fun ra cap sp hra => ?_
 refine Ky (k := 2) (cs' := #[J3 (n + 1) (some (ra, cap, sp))]) rfl rfl rfl rfl rfl rfl rfl rfl rfl rfl ?_
 refine J0 2 rfl ?_
 refine Qm [2, 0] (L' := [_, _]) m7 rfl ?_
 exact Vg (n + 1, xs ++ [Jy sv], some (ra, cap, sp)) ⟨by omega, by simp only; omega, by simp only; rw [vp ls2 hii, ← hsv, hxs]; unfold VH; rw [List.map_append]; rfl, by rw [← hn]; exact hra⟩ rfl) : p := h
theorem NU (h : p := by
 refine JK 2 rfl ?_
 refine Jj my ?_
 refine Vf rfl (Jj M7 (LR rfl (ZI (n := i % 8) (b := ((2 ^ (i % 8) : Nat) : Int)) rfl rfl rfl Mx (Jci m0)) ?_))
 refine Vf rfl (Jj Mg (LR rfl (Kg (j := i / 8) (m := 1) (off' := i / 8) rfl rfl rfl rfl m0 m0 m0) ?_))
 refine Ky (k := 0) (cs' := ((Wp l N (i + 1)).map bV ++ sp2).toArray) rfl rfl rfl rfl rfl rfl nR rfl (by rw [YL m0, hst1]) rfl ?_
 refine JK 6 rfl ?_
 refine ND ?_
 exact Jm (i + 1, some (rr, cap2, sp2)) ⟨by simp only; omega, by simp only; rw [hst1, show (i + 1 + 7) / 8 = i / 8 + 1 by omega]; exact ⟨by rw [List.length_map, List.length_set]; omega, hra.2⟩⟩ ml (.cons rfl (.cons ni (.cons rfl .nil))) (List.Sublist.refl _) (fun _ _ h => h)) : p := h
theorem NV (h : q) (k : Bx q → p := by
 intro zq
 refine Jk (k := 0) rfl rfl rfl rfl rfl (fun _ hS => (Jw rfl rfl rfl)) ?_
 exact zq.1) : p := k ⟨h⟩
theorem NW (h : q) (k : Bx q → p := by
 intro zq
 refine Jk (k := 7) rfl rfl rfl rfl rfl (fun _ _ => ZI (n := i % 8) (b := ((2 ^ (i % 8) : Nat) : Int)) rfl rfl rfl Mx (Jci m0)) ?_
 refine Jk (k := 8) rfl rfl rfl rfl rfl (fun _ _ => wE (op := .or) (m := (Y.getD (i / 8) 0).toNat) (n := 2 ^ (i % 8)) rfl rfl rfl (Vh _) (Nat.pow_lt_pow_right m7 m0 : 2 ^ (i % 8) < 2 ^ 8) rfl) ?_
 refine Qw (Jke _ m0) ?_
 refine Jk (k := 9) rfl rfl rfl rfl rfl (fun _ _ => Kg (j := (i / 8)) (m := 1) (off' := (i / 8)) rfl rfl rfl rfl m0 m0 m0) ?_
 refine Xk (k := 10) (q := 0) (cs' := ((KG l N (i + 1)).map bV).toArray) rfl rfl rfl rfl rfl rfl rfl rfl nR (by rw [Jag, hst1]) rfl (fun _ h => nomatch h) ?_
 refine Kc ?_
 refine JK 5 rfl ?_
 exact zq.1) : p := k ⟨h⟩
theorem NX (h : q) (k : Bx q → p := by
 intro zq
 rw [← hY]
 refine JD [] [(0, .pure), (1, .pure), (2, .pure), (3, .pure), (4, .pure), (5, .pure), (6, .pure), (8, .pure), (9, .pure), (10, .pure), (12, .pure), (13, .turn), (14, .pure), (15, .turn)] 16 [0, 1, 2, 3, 4, 5, 6, 7, 8, 9, 10, 11, 12, 13, 14, 15] m5 m5 m6 ?_
 refine Jk (k := 0) rfl rfl rfl rfl rfl (fun _ hS => (Jg rfl)) ?_
 refine Jk (k := 1) rfl rfl rfl rfl rfl (fun _ hS => (Jg rfl)) ?_
 refine Jk (k := 2) rfl rfl rfl rfl rfl (fun _ hS => (Jg rfl)) ?_
 refine Jk (k := 3) rfl rfl rfl rfl rfl (fun _ hS => (Jg rfl)) ?_
 refine Jk (k := 4) rfl rfl rfl rfl rfl (fun _ hS => (Jg rfl)) ?_
 refine Jk (k := 5) rfl rfl rfl rfl rfl (fun _ hS => (Jg rfl)) ?_
 exact zq.1) : p := k ⟨h⟩
theorem NY (h : q) (k : Bx q → p := by
 intro zq
 refine Jk (k := 9) rfl rfl rfl rfl rfl (fun _ hS => (Jw rfl rfl rfl)) ?_
 refine Jk (k := 10) rfl rfl rfl rfl rfl (fun _ hS => (Jq (vs := [_, _, _, _]) rfl (.inl (hS _ (Kh (n := 1) rfl))) rfl rfl rfl rfl)) ?_
 refine Jk (k := 11) rfl rfl rfl rfl rfl (fun _ hS => (J5 (r := [_, _, _, _, _, _, _]) rfl rfl)) ?_
 refine Jk (k := 12) rfl rfl rfl rfl rfl (fun _ hS => (Jw rfl rfl rfl)) ?_
 refine Jk (k := 13) rfl rfl rfl rfl rfl (fun _ hS => (Jd rfl (.inl (hS _ (Kh (n := 1) rfl))) rfl rfl)) ?_
 refine Jk (k := 15) rfl rfl rfl rfl rfl (fun _ hS => (Jq (vs := [_, _, _, _, _, _, _]) rfl (.inl (hS _ (Kh (n := 2) rfl))) rfl rfl rfl rfl)) ?_
 exact zq.1) : p := k ⟨h⟩
theorem NZ (h : q) (k : Bx q → p := by
 intro zq
 refine LS 2 [] rfl rfl ?_
 exact zq.1) : p := k ⟨h⟩
theorem kc (h : q) (k : Bx q → p := by
 intro zq
 refine J8 (vs := [_]) (zs := [_]) (r := [_]) rfl rfl rfl rfl rfl rfl rfl rfl rfl mf rfl fun r1 => ?_
 revert r1
 exact zq.1) : p := k ⟨h⟩
theorem kd (h : p := by
 rw [List.perm_iff_count]
 intro x
 simp only [List.count_append, List.count_cons]
 omega) : p := h
theorem ke (h : q) (k : Bx q → p := by
 intro zq
 refine pT rfl rfl rfl fun w1 hs1 => ?_
 revert w1 hs1
 exact zq.1) : p := k ⟨h⟩
theorem kg (h : p := by exact Jm (i + 1, vs ++ [.mk 0 0 0 0 [] none [(.mk ya yb yc yd ybits ypb yitems ypi ypick), (.mk nonce 0 0 0 [] none [] none 0), (.mk ba bb bc bd [] none [] none 0), (.mk za zb zc zd zbits zpb zitems zpi zpick), .mk 0 0 0 0 [] none us (Qv rw2) 0] (some (⟨rb, 0, none⟩, 5)) 0], some (ra, cap, sp), _ :: (zL ++ (yL ++ (_ ++ (F ++ E))))) ⟨by simp only; omega, by simp only; rw [← hvc]; exact hra, fun z hz => Js3 hin (Ke hrow2 m7) hul hb3 hin2 hnu hba yok zok hz, Js4 her ha yer zer her2⟩ ml (lK rfl) Ma (fun _ _ h => h)) : p := h
theorem ki (h : q) (k : Bx q → p := by
 intro zq
 refine JD [(r1, .cells #[KE accts.length p] 24 (0, 0))] [(0, .grow (KA Jle (fun y => y.x.val) (fun y => y.L))), (1, .pure), (2, .pure), (3, .grow (KA v0 (fun y => y.x.val) (fun y => y.L))), (5, .pure), (6, .pure)] 7 [1, 2, 0, 3, 4, 5, 6] m5 m5 m6 ?_
 refine Jk (k := 1) rfl rfl rfl rfl rfl (fun _ hS => (Jw rfl rfl rfl)) ?_
 refine Jk (k := 2) rfl rfl rfl rfl rfl (fun _ hS => (Jd rfl (.inl (hS _ (Kh (n := 0) rfl))) rfl rfl)) ?_
 refine JS (k := 0) rfl rfl rfl rfl rfl Jzb Jcu oN fun t => ?_
 refine JS (k := 3) rfl rfl rfl rfl rfl (enters_of Tryz.func54 m5 rfl) (Jlb hs hn hb) oR fun v => ?_
 revert t v
 exact zq.1) : p := k ⟨h⟩
theorem kj (h : q) (k : Bx q → p := by
 intro zq
 refine Jt 2 rfl ?_
 exact zq.1) : p := k ⟨h⟩
theorem ko (h : q) (k : Bx q → p := by
 intro zq
 refine LR rfl (Ji (xs := (JF k 0 ins i).cells) (n := 3) rfl (kn 0 rfl) rfl rfl (JF k 0 ins i).len) ?_
 exact zq.1) : p := k ⟨h⟩
theorem kp (h : q) (k : Bx q → p := by
 intro zq
 refine Nm ?_
 refine Nm ?_
 exact zq.1) : p := k ⟨h⟩
theorem kq (h : q) (k : Bx q → p := by
 intro zq
 refine LT 0 rfl rfl ?_
 exact zq.1) : p := k ⟨h⟩
theorem kr (h : p := by exact Jm (i + 1) m0 m0 (lK rfl) (List.nil_sublist _) (fun _ _ h => h)) : p := h
theorem ku (h : q) (k : Bx q → p := by
 intro zq
 refine Jb rfl rfl rfl (JA rfl) ?_
 refine Kn ?_
 exact zq.1) : p := k ⟨h⟩
theorem kv (h : q) (k : Bx q → p := by
 intro zq
 refine LW 2 [] rfl rfl (J0 1 rfl (X6 2 rfl ?_))
 refine Nk fun w1 hs1 => ?_
 revert w1 hs1
 exact zq.1) : p := k ⟨h⟩
theorem kw (h : q) (k : Bx q → p := by
 intro zq
 refine QS (k := 3) (n := 1) (sz := 1) (vs := [_]) (zs := [_]) (r := [bV (UInt8.ofNat pick.toNat)]) rfl rfl rfl rfl rfl rfl rfl rfl rfl rfl rfl mf rfl fun rv => ?_
 refine JY (k := 4) rfl rfl rfl rfl rfl (KB (b := [UInt8.ofNat pick.toNat]) (row := some (rv, 1, [])) (e := 5) rfl ⟨rfl, rfl⟩ (fun p hp => .inl mU) rfl rfl rfl) ?_
 refine Jk (k := 16) rfl rfl rfl rfl rfl (fun _ hS => (Qc (a := [UInt8.ofNat pick.toNat]) (b := Vj (X0 items 0) (JF k pick ins 0)) rfl rfl MU)) ?_
 refine Jk (k := 17) rfl rfl rfl rfl rfl (fun _ hS => (JA rfl)) ?_
 refine Kc ?_
 refine J0 5 rfl ?_
 refine Nk fun w1 hs1 => ?_
 rw [Qr, if_neg m9, if_neg m9, if_neg m9, if_neg m9, if_pos m9, Jkj h81]
 revert rv w1 hs1
 exact zq.1) : p := k ⟨h⟩
theorem kz (h : q) (k : Bx q → p := by
 intro zq
 refine JD [] [(0, .pure), (3, .grow (KA (jf (Wv PB)) (fun x => rV x) (fun x => rL x))), (4, .pure), (6, .pure), (7, .pure), (9, .pure), (11, .pure), (12, .pure), (13, .pure), (14, .pure)] 15 [0, 1, 2, 4, 5, 6, 7, 9, 10, 11, 12, 3, 8, 13, 14] m5 m5 m6 ?_
 refine Nt ?_
 refine Qw mn ?_
 refine Jk (k := 9) rfl rfl rfl rfl rfl (fun _ hS => (Jw rfl rfl rfl)) ?_
 refine JY (k := 10) rfl rfl rfl rfl rfl (Jd rfl (kn 0 rfl) rfl rfl) ?_
 refine Jk (k := 11) rfl rfl rfl rfl rfl (fun _ hS => (Jl rfl hsb rfl)) ?_
 refine Jk (k := 12) rfl rfl rfl rfl rfl (fun _ _ => (Ju rfl rfl rfl)) ?_
 refine Qw M0 ?_
 exact zq.1) : p := k ⟨h⟩
theorem kA (h : p := by
 refine Jb rfl rfl rfl (JA rfl) ?_
 refine ku ?_
 refine JK 6 rfl ?_
 refine Jj mQ ?_
 refine J0 2 rfl ?_
 refine Jr ?_
 refine wB (List.Perm.cons _ (Jei (_ :: JJ 9 (VH (SL.pairUp ls2)) row3) (Xz Ds) _)) ?_
 exact xX (k + 1, SL.pairUp ls2, row3, z2, D :: Ds) rfl ⟨hk, hr3, by rw [show lg m - (k + 1) = K by omega]; exact heq, by rw [show lg m - (k + 1) = K by omega]; simp only; omega, Zm ls2, by rw [hz2]; exact jx _⟩ ml (lK rfl) (.cons_cons _ ((List.Sublist.refl _).append (.cons _ (List.sublist_append_left _ _)))) (fun _ _ h => h)) : p := h
theorem kB (h : q) (k : Bx q → p := by
 intro zq
 refine JK 5 rfl ?_
 exact zq.1) : p := k ⟨h⟩
theorem kC (h : q) (k : Bx q → p := by
 intro zq
 refine JP 3 rfl ?_
 refine JD [] [(0, .pure), (1, .pure), (2, .pure), (3, .pure), (5, .pure)] 6 [0, 1, 2, 3, 4, 5] m5 m5 m6 ?_
 refine Jk (k := 0) rfl rfl rfl rfl rfl (fun _ hS => (Jg rfl)) ?_
 refine Jk (k := 1) rfl rfl rfl rfl rfl (fun _ hS => (Jg rfl)) ?_
 refine Jk (k := 2) rfl rfl rfl rfl rfl (fun _ _ => Jco (a := B) (b := y) rfl rfl m0 m0) ?_
 refine Jk (k := 3) rfl rfl rfl rfl rfl (fun _ hS => (Jw rfl rfl rfl)) ?_
 refine JY (k := 4) rfl rfl rfl rfl rfl (Jd rfl (kn 0 rfl) rfl rfl) ?_
 refine Jk (k := 5) rfl rfl rfl rfl rfl (fun _ hS => (Ju rfl rfl rfl)) ?_
 exact zq.1) : p := k ⟨h⟩
theorem kD (h : q) (k : Bx q → p := by
 intro zq
 refine JD [] [(0, .pure), (2, .pure), (4, .pure), (6, .pure), (8, .pure), (11, .pure), (13, .pure), (14, .pure), (15, .pure)] 16 [0, 1, 2, 3, 4, 5, 6, 7, 8, 9, 11, 12, 13, 10, 14, 15] m5 m5 m6 ?_
 refine NV ?_
 refine JY (k := 1) rfl rfl rfl rfl rfl (Jd rfl (kn 1 rfl) rfl rfl) ?_
 refine Jk (k := 2) rfl rfl rfl rfl rfl (fun _ hS => (Jw rfl rfl rfl)) ?_
 refine JY (k := 3) rfl rfl rfl rfl rfl (Jd rfl (kn 0 rfl) rfl rfl) ?_
 refine NR ?_
 refine Jk (k := 13) rfl rfl rfl rfl rfl (fun _ _ => (Ju rfl rfl rfl)) ?_
 refine Qw nN ?_
 exact zq.1) : p := k ⟨h⟩
theorem kE (h : q) (k : Bx q → p := by
 intro zq
 refine Jb rfl rfl rfl (Jw rfl rfl rfl) ?_
 refine Jb rfl rfl rfl (Jd rfl (kn 0 rfl) rfl rfl) ?_
 exact zq.1) : p := k ⟨h⟩
theorem kF (h : q) (k : Bx q → p := by
 intro zq
 refine Jk (k := 5) rfl rfl rfl rfl rfl (fun _ hS => (Jw rfl rfl rfl)) ?_
 refine Jk (k := 6) rfl rfl rfl rfl rfl (fun _ hS => (Jd rfl (.inl (hS _ (Kh (n := 1) rfl))) rfl rfl)) ?_
 exact zq.1) : p := k ⟨h⟩
theorem kG (h : q) (k : Bx q → p := by
 intro zq
 refine LR rfl (JO rfl rfl) ?_
 exact zq.1) : p := k ⟨h⟩
theorem kH (h : q) (k : Bx q → p := by
 intro zq
 refine Jk (k := 1) rfl rfl rfl rfl rfl (fun _ hS => (Jw rfl rfl rfl)) ?_
 refine JY (k := 2) rfl rfl rfl rfl rfl (Jd rfl (kn 2 rfl) rfl rfl) ?_
 refine JY (k := 5) rfl rfl rfl rfl rfl (Jq (vs := [_, _, _]) rfl (kn 2 rfl) rfl rfl rfl rfl) ?_
 refine JY (k := 6) rfl rfl rfl rfl rfl (Jq (vs := [_, _, _, _, _, _, _]) rfl (kn 1 rfl) rfl rfl rfl rfl) ?_
 refine NP fun mr => ?_
 refine Qw (Jj7 hkk) ?_
 refine JU (k := 7) rfl rfl rfl rfl rfl hO.1 hO.2 oR ?_
 refine Jk (k := 8) rfl rfl rfl rfl rfl (fun _ hS => (Ju rfl rfl rfl)) ?_
 revert mr
 exact zq.1) : p := k ⟨h⟩
theorem kI (h : q) (k : Bx q → p := by
 intro zq
 refine LR rfl (J5 (r := [_, _, _, _]) rfl rfl) ?_
 exact zq.1) : p := k ⟨h⟩
theorem kJ (h : q) (k : Bx q → p := by
 intro zq
 refine Jk (k := 8) rfl rfl rfl rfl rfl (fun _ hS => (Jg rfl)) ?_
 refine Jk (k := 9) rfl rfl rfl rfl rfl (fun _ hS => (Jg rfl)) ?_
 refine Jk (k := 10) rfl rfl rfl rfl rfl (fun _ _ => Kg (j := i) (m := 1) (off' := i) rfl rfl rfl rfl m0 m0 m0) ?_
 refine JY (k := 11) rfl rfl rfl rfl rfl (Jd rfl (kn 0 rfl) rfl (jo (xs := Y.map bV) (v := bV (Y.getD (i) 0)) (Xs m0))) ?_
 refine Jk (k := 12) rfl rfl rfl rfl rfl (fun _ _ => Kg (j := i) (m := 1) (off' := i) rfl rfl rfl rfl m0 m0 m0) ?_
 exact zq.1) : p := k ⟨h⟩
theorem kK (h : q) (k : Bx q → p := by
 intro zq
 refine kj ?_
 refine Qp (cs := (a.map uV).toArray) rfl rfl rfl rfl fun r1 => ?_
 refine KK (cs := (z25.map uV).toArray) rfl rfl rfl rfl fun r2 => ?_
 revert r1 r2
 exact zq.1) : p := k ⟨h⟩
theorem kL (h : p := by
 refine LR rfl (J5 (r := [_, _, _]) rfl rfl) ?_
 refine J8 (vs := [_]) (zs := [_, _, _]) (r := [_, _, _]) rfl rfl rfl rfl rfl rfl rfl rfl rfl ms rfl fun r2 => ?_
 refine LR rfl (J5 (r := [_, _, _]) rfl rfl) ?_
 refine LT 1 rfl rfl ?_
 refine J0 3 rfl ?_
 refine Jn rfl rfl (.cons (J4 (vs := [_, _, _]) rfl (kn 1 rfl) rfl rfl) .nil) (fun w1 hs1 => ?_)
 exact ⟨r2, rfl, hs1.weakL ((List.cons_sublist_cons).2 (List.nil_sublist _))⟩) : p := h
theorem kM (h : q) (k : Bx q → p := by
 intro zq
 refine JN ?_
 refine Jt 9 rfl ?_
 refine NE ?_
 refine JP 4 rfl ?_
 refine Js (σ := Nat) (fun i => i ≤ xs.length ∧ ∀ j, j < i → ∀ y, xs[j]? = some y → pr y = false) (fun i => [(0, KE xs.length p), (1, .func (.func g) #[] caps.toArray), (7, .int .i64 (xs.length : Int)), (8, .int .i64 (i : Int))]) (fun _ => []) (fun _ _ _ => True) (fun i => xs.length - i) 0 ⟨by omega, fun j hj => absurd hj m0⟩ (lK rfl) (List.nil_sublist _) (fun _ _ h => h) ?_
 exact zq.1) : p := k ⟨h⟩
theorem kN (h : p := by
 refine LR rfl (KN rfl rfl) ?_
 refine J0 4 rfl ?_
 refine ke fun w1 hs1 => ?_
 exact ⟨(r1, r2), rfl, hs1⟩) : p := h
theorem kP (h : q) (k : Bx q → p := by
 intro zq
 first | refine LR rfl (JO rfl rfl) ?_ | refine LK rfl ?_
 exact zq.1) : p := k ⟨h⟩
theorem kQ (h : q) (k : Bx q → p := by
 intro zq
 refine LR rfl (Jf (j := i) rfl hs rfl rfl rfl rfl m0) ?_
 refine LR rfl (Ko oR rfl hs hy rfl rfl) ?_
 exact zq.1) : p := k ⟨h⟩
theorem kR (h : q) (k : Bx q → p := by
 intro zq
 refine Jb rfl rfl rfl (J7 (j := 0) rfl rfl rfl rfl rfl mM mb) ?_
 exact zq.1) : p := k ⟨h⟩
theorem kS (h : p := by
 refine JB (L0 := [_, _, _, _]) (xs := VH (RS.take i)) (row := row) (n := i) (sz := 1) (b := 16) (news := [Jy sv]) (List.perm_append_comm (l₁ := [_, _, _, _])) rfl rfl rfl rfl (kn 0 rfl) rfl rfl rfl rfl rfl m7 rfl rfl rfl m7 hrow m0 m0 fun ra cap sp hra => ?_
 refine JK 6 rfl ?_
 refine ND ?_
 refine Qm [4, 0] (L' := [_, _]) m7 rfl ?_
 exact Jm (i + 1, some (ra, cap, sp)) ⟨by simp only; omega, by simp only; rw [htki, Wo]; exact hra⟩ ml (lK rfl) Mc (fun _ _ h => h)) : p := h
theorem kT (h : q) (k : Bx q → p := by
 intro zq
 refine KQ 11 rfl ?_
 refine Nk fun w1 hs1 => ?_
 revert w1 hs1
 exact zq.1) : p := k ⟨h⟩
theorem kU (h : q) (k : Bx q → p := by
 intro zq
 refine JP 3 rfl ?_
 exact zq.1) : p := k ⟨h⟩
theorem kV (h : q) (k : Bx q → p := by
 intro zq
 refine LR rfl (Jf (j := i) rfl hseg rfl rfl rfl me m0) ?_
 refine LR rfl (KU AcL.len oR rfl hseg ha rfl rfl) ?_
 exact zq.1) : p := k ⟨h⟩
theorem kW (h : p := by
 change HC _ _ ((_, _) :: (_, _) :: _) [(rr, .cells (Y.map bV ++ sp2).toArray 5 (0, 0))] _ _ _
 refine Jt 4 rfl ?_
 refine Jj mq ?_
 refine JK 3 rfl ?_
 refine Jj mq ?_
 refine LR rfl (Kg (j := i / 8) (m := 1) (off' := i / 8) rfl rfl rfl rfl m0 m0 m0) ?_
 refine LR rfl (Jd rfl (kn 0 rfl) rfl (jo (xs := Y.map bV) (v := bV (Y.getD (i / 8) 0)) (Xs m0))) ?_
 exact NU) : p := h
theorem kX (h : q) (k : Bx q → p := by
 intro zq
 first | refine Jb rfl rfl rfl (JO rfl rfl) ?_ | refine JT rfl rfl rfl ?_
 first | refine Jb rfl rfl rfl (Jw rfl rfl rfl) ?_ | refine JT rfl rfl rfl ?_
 first | refine Jb rfl rfl rfl (Jd rfl (kn 1 rfl) rfl rfl) ?_ | refine JT rfl rfl rfl ?_
 first | refine Jb rfl rfl rfl (Ju rfl rfl rfl) ?_ | refine JT rfl rfl rfl ?_
 first | refine Jb rfl rfl rfl (Yk rfl rfl) ?_ | refine Jb rfl rfl rfl (Yl rfl rfl) ?_
 exact zq.1) : p := k ⟨h⟩
theorem kY (h : q) (k : Bx q → p := by
 intro zq
 refine JN ?_
 refine kj ?_
 refine LR rfl (Jd (v := .int .i64 (m : Int)) rfl (JG (k := 0) rfl) rfl rfl) ?_
 refine JP 4 rfl ?_
 refine Js (σ := Nat) (fun i => i ≤ m) (fun i => [(0, .func (.yield q) #[] #[]), (1, Vk ri), (2, Vk rt), (5, .int .i64 (m : Int)), (6, .int .i64 (i : Int))]) (fun _ => []) (fun i => XI i) (fun i => m - i) 0 (Nat.zero_le _) (lK rfl) (List.Sublist.refl _) (fun _ _ h => h) ?_
 exact zq.1) : p := k ⟨h⟩
theorem kZ (h : q) (k : Bx q → p := by
 intro zq
 refine Jt 3 rfl ?_
 refine LR rfl (Ji (xs := (JF k pick ins i).cells) (n := 3) rfl (kn 1 rfl) rfl rfl (JF k pick ins i).len) ?_
 refine LR rfl (Ji (xs := (X0 items i).cells) (n := 7) rfl (kn 0 rfl) rfl rfl (X0 items i).len) ?_
 refine Jc rfl rfl rfl Jqe (ih _ hix.2 (hi _ hix.2) _ (dp + 1) (hit _ hty.2) (hci _ hty.2)) (fun q hq => Or.inr (List.mem_append_right _ hq)) ?_
 refine JP 9 rfl ?_
 exact zq.1) : p := k ⟨h⟩
theorem g6 (h : q) (k : Bx q → p := by
 intro zq
 refine JD [] [(0, .pure), (1, .pure), (2, .pure), (3, .pure), (5, .pure), (6, .pure), (7, .pure), (8, .pure), (9, .pure), (10, .turn)] 11 [0, 1, 2, 3, 4, 5, 6, 7, 8, 9, 10] m5 m5 m6 ?_
 refine Jk (k := 0) rfl rfl rfl rfl rfl (fun _ hS => (Jg rfl)) ?_
 refine Jk (k := 1) rfl rfl rfl rfl rfl (fun _ hS => (Jg rfl)) ?_
 refine Jk (k := 2) rfl rfl rfl rfl rfl (fun _ _ => (Ju rfl rfl rfl)) ?_
 exact zq.1) : p := k ⟨h⟩
theorem g7 (h : q) (k : Bx q → p := by
 intro zq
 refine KK (cs := #[.int .i64 0, .int .i64 0, .slice none 0 0]) rfl rfl rfl rfl fun r9 => ?_
 refine Jv (k := 0) (n := 3) (ys := (JF k 0 ins i).cells) rfl rfl rfl rfl rfl (JF k 0 ins i).len rfl (JF k 0 ins i).one rfl ?_
 revert r9
 exact zq.1) : p := k ⟨h⟩
theorem g8 (h : q) (k : Bx q → p := by
 intro zq
 refine LR rfl (J5 (r := [_, _, _, _, _, _, _]) rfl rfl) ?_
 exact zq.1) : p := k ⟨h⟩
theorem g9 (h : q) (k : Bx q → p := by
 intro zq
 refine LW 1 [0] rfl rfl ?_
 first | refine LR rfl (J5 (r := [_, _, _, _]) rfl rfl) ?_ | refine LK rfl ?_
 first | (refine LR rfl (jr rfl rfl rfl rfl rfl m5 rfl rfl rfl rfl) ?_) | refine LK rfl ?_
 exact zq.1) : p := k ⟨h⟩
theorem gc (h : q) (k : Bx q → p := by
 intro zq
 refine LR rfl (Jq (vs := [_, _, _, _, _, _, _, _]) rfl (kn 2 rfl) rfl rfl rfl rfl) ?_
 exact zq.1) : p := k ⟨h⟩
theorem gg (h : q) (k : Bx q → p := by
 intro zq
 refine LR rfl (KS rfl rfl) ?_
 exact zq.1) : p := k ⟨h⟩
theorem gh (h : p := by
 have e : TY = TY.take i ++ (x :: TY.drop (i + 1)) := by rw [← Qh hx, List.take_append_drop]
 rw [e, VU, Kp] at hH
 have := j8 (TY.drop (i + 1))
 have := h.at_
 omega) : p := h
theorem gi (h : q) (k : Bx q → p := by
 intro zq
 refine LW 2 [] rfl rfl (J0 1 rfl (ZE 1 rfl ?_))
 exact zq.1) : p := k ⟨h⟩
theorem gk (h : q) (k : Bx q → p := by
 intro zq
 refine Nm ?_
 refine No ?_
 exact zq.1) : p := k ⟨h⟩
theorem gl (h : p := by
 obtain ⟨z2, hz2⟩ : ∃ x, x = WO (z ++ z) := ⟨_, rfl⟩
 rw [← hz2] at hkz heq
 refine JR 7 m5 m5 ?_
 refine Jb rfl rfl rfl (Jd (v := J3 (SL.pairUp ls2).length row3) rfl (kn 1 rfl) rfl rfl) ?_
 refine kp ?_
 refine Jb rfl rfl rfl (Qc (a := z) (b := z) rfl rfl m0) ?_
 refine Qk rfl rfl rfl Jer hkz ?_
 exact kA) : p := h
theorem gm (h : q) (k : Bx q → p := by
 intro zq
 refine Jk (k := 3) rfl rfl rfl rfl rfl (fun _ _ => Kg (j := (i / 8)) (m := 1) (off' := (i / 8)) rfl rfl rfl rfl m0 m0 m0) ?_
 refine JY (k := 4) rfl rfl rfl rfl rfl (Jd rfl (kn 0 rfl) rfl (by rw [V1]; exact Xs m0)) ?_
 refine Jk (k := 5) rfl rfl rfl rfl rfl (fun _ hS => (Jg rfl)) ?_
 refine Jk (k := 6) rfl rfl rfl rfl rfl (fun _ _ => (Ju rfl rfl rfl)) ?_
 exact zq.1) : p := k ⟨h⟩
theorem gn (h : q) (k : Bx q → p := by
 intro zq
 refine LR rfl (Jf (j := i) rfl hs rfl rfl rfl me m0) ?_
 exact zq.1) : p := k ⟨h⟩
theorem gp (h : q) (k : Bx q → p := by
 intro zq
 refine Nl fun r1 => ?_
 refine kB ?_
 refine Nu ?_
 revert r1
 exact zq.1) : p := k ⟨h⟩
theorem gr (h : q) (k : Bx q → p := by
 intro zq
 refine J9 5 rfl ?_
 exact zq.1) : p := k ⟨h⟩
theorem gs (h : q) (k : Bx q → p := by
 intro zq
 refine Jt 5 rfl ?_
 refine LR rfl (Ji (xs := (Ty.mk k (N : Int) p ins).cells) (n := 3) rfl (kn 1 rfl) rfl rfl (Ty.mk k (N : Int) p ins).len) ?_
 refine LR rfl (Ji (xs := (Vl.mk a b c d bits pb items pi pick).cells) (n := 7) rfl (kn 0 rfl) rfl rfl (Vl.mk a b c d bits pb items pi pick).len) ?_
 refine Jc rfl rfl rfl Jvl (hrw m0) oR ?_
 refine J0 4 rfl ?_
 exact zq.1) : p := k ⟨h⟩
theorem gt (h : q) (k : Bx q → p := by
 intro zq
 refine J0 5 rfl ?_
 exact zq.1) : p := k ⟨h⟩
theorem gu (h : q) (k : Bx q → p := by
 intro zq
 refine QZ 4 [0] rfl rfl ?_
 exact zq.1) : p := k ⟨h⟩
theorem gw (h : q) (k : Bx q → p := by
 intro zq
 rw [QA _ n ins.length a b c d bits pb items pi pick _ rfl]
 exact zq.1) : p := k ⟨h⟩
theorem gx (h : q) (k : Bx q → p := by
 intro zq
 refine Jk (k := 7) rfl rfl rfl rfl rfl (fun _ hS => (J5 (r := [_, _, _, _, _, _, _]) rfl rfl)) ?_
 refine QS (k := 8) (n := 1) (sz := 7) (vs := [_]) (zs := [_, _, _, _, _, _, _]) (r := [uV (s.getD i 0).toNat, uV 0, uV 0, uV 0, .slice none 0 0, .slice none 0 0, .int .i64 0]) rfl rfl rfl rfl rfl rfl rfl rfl rfl rfl rfl ms rfl fun rb => ?_
 refine Kc ?_
 revert rb
 exact zq.1) : p := k ⟨h⟩
theorem gy (h : q) (k : Bx q → p := by
 intro zq
 refine LW 2 [0] rfl rfl ?_
 first | (refine LR rfl (Jf (j := i) rfl hseg rfl rfl rfl me m0) ?_) | refine LK rfl ?_
 first | (refine LR rfl (JW (off' := YC a.p + (i * 2 + 1)) rfl rfl Mk) ?_) | refine LK rfl ?_
 first | refine LR rfl (VB Ki (k := 1) (v := Jy x.2) oR rfl hseg hx rfl rfl) ?_ | refine LK rfl ?_
 refine kP ?_
 exact zq.1) : p := k ⟨h⟩
theorem gz (h : q) (k : Bx q → p := by
 intro zq
 refine LW 4 [0] rfl rfl (J0 1 rfl (X6 4 rfl ?_))
 refine Nk fun w1 hs1 => ?_
 unfold JM
 simp only [J6]
 revert w1 hs1
 exact zq.1) : p := k ⟨h⟩
theorem gA (h : q) (k : Bx q → p := by
 intro zq
 refine JN ?_
 refine kj ?_
 refine Qp (cs := (a.map uV).toArray) rfl rfl rfl rfl fun r1 => ?_
 refine Qp (cs := (b.map uV).toArray) rfl rfl rfl rfl fun r2 => ?_
 revert r1 r2
 exact zq.1) : p := k ⟨h⟩
theorem gB (h : q) (k : Bx q → p := by
 intro zq
 refine Jt 1 rfl ?_
 refine LN rfl fun r1 => ?_
 refine JK 6 rfl ?_
 refine VD rfl rfl rfl (enters_of Tryz.func177 m5 rfl) (Jfb ls2.length row2) fun rb => ?_
 refine KR ((List.Perm.swap _ _ _).trans (List.Perm.cons _ List.perm_middle.symm)) ?_
 change HL _ _ _ ((r1, .cells #[.slice none 0 0] 109 (0, 0)) :: (Xz Ds ++ ((rb, .cells #[J3 ls2.length row2] 109 (0, 0)) :: JJ 9 (VH ls2) row2))) _ _ _ _
 refine kU ?_
 revert r1 rb
 exact zq.1) : p := k ⟨h⟩
theorem gC (h : q) (k : Bx q → p := by
 intro zq
 refine LW 1 [0] rfl rfl ?_
 exact zq.1) : p := k ⟨h⟩
theorem gD (h : q) (k : Bx q → p := by
 intro zq
 refine JY (k := 1) rfl rfl rfl rfl rfl (Ji (xs := (Vl.mk a b c d bits pb items pi pick).cells) (n := 7) rfl (kn 0 rfl) rfl rfl (Vl.mk a b c d bits pb items pi pick).len) ?_
 refine Jk (k := 3) rfl rfl rfl rfl rfl (fun _ hS => (Jw rfl rfl rfl)) ?_
 refine JY (k := 4) rfl rfl rfl rfl rfl (Jd rfl (kn 1 rfl) rfl rfl) ?_
 exact zq.1) : p := k ⟨h⟩
theorem gE (h : p := by
 refine LR rfl (Ko oR rfl hst hty.1 rfl rfl) ?_
 refine Jv (k := 0) (n := 3) (ys := X.cells) rfl rfl rfl rfl rfl X.len rfl X.one rfl ?_
 refine gt ?_
 refine Jn rfl rfl (.cons (J4 (vs := X.cells) rfl (kn 0 rfl) rfl (by rw [X.len]; rfl)) .nil) (fun w1 hs1 => ?_)
 exact Ns) : p := h
theorem gF (h : q) (k : Bx q → p := by
 intro zq
 refine Jt 3 rfl ?_
 refine LR rfl (Ji (xs := Ty.cells (.mk k n p ins)) (n := 3) rfl (JG (k := 1) rfl) rfl rfl (Ty.len _)) ?_
 refine Vb rfl (Jc rfl rfl rfl (enters_of Tryz.func231 m5 rfl) (Jx9 ht (fun _ => Int.le_refl 0) (hx i hil)) (fun q hq => Or.inr (List.mem_cons_of_mem _ (List.mem_cons_of_mem _ hq))) ?_)
 exact zq.1) : p := k ⟨h⟩
theorem gG (h : p := by
 refine Nl fun r1 => ?_
 refine XO 7 [0] rfl rfl ?_
 refine LR rfl (Jd rfl (Or.inr hb) rfl rfl) ?_
 refine LR rfl (V5 rfl rfl) ?_
 exact NS) : p := h
theorem gH (h : q) (k : Bx q → p := by
 intro zq
 refine Jt 5 rfl ?_
 exact zq.1) : p := k ⟨h⟩
theorem gI (h : p := by exact xK h0 hkm hdep (Region.noSelect_spec hsel) (fun E E' listed a hp hT => ⟨hT.1, hTp _ _ _ hp hT.2⟩) (hlt k hkm) (fun E' listed' a' hL => hseq _ hL.1) l.length listed E a inv (Region.free_spec h0 hr.1.2) hSE M5 hr' hr.2 h1 fun x => next _ _ hSE.grow (h2 x)) : p := h
theorem gJ (h : q) (k : Bx q → p := by
 intro zq
 refine Jk (k := 1) rfl rfl rfl rfl rfl (fun _ hS => (J5 (r := [_, _, _]) rfl rfl)) ?_
 refine Jk (k := 2) rfl rfl rfl rfl rfl (fun _ hS => (J5 (r := [_, _, _]) rfl rfl)) ?_
 refine Jk (k := 4) rfl rfl rfl rfl rfl (fun _ hS => (Jq (vs := [_, _, _]) rfl (.inl (hS _ (Kh (n := 0) rfl))) rfl rfl rfl rfl)) ?_
 exact zq.1) : p := k ⟨h⟩
theorem gK (h : q) (k : Bx q → p := by
 intro zq
 first | refine Jb rfl rfl rfl (Jd rfl (kn 0 rfl) rfl rfl) ?_ | refine JT rfl rfl rfl ?_
 first | refine Jb rfl rfl rfl (Jg rfl) ?_ | refine JT rfl rfl rfl ?_
 exact zq.1) : p := k ⟨h⟩
theorem gL (h : q) (k : Bx q → p := by
 intro zq
 refine JP 4 rfl ?_
 refine JD [] [(1, .pure), (4, .pure), (6, .pure), (7, .pure), (8, .pure)] 9 [0, 1, 2, 4, 5, 6, 3, 7, 8] m5 m5 m6 ?_
 refine NM ?_
 refine JY (k := 5) rfl rfl rfl rfl rfl (Jd rfl (kn 0 rfl) rfl rfl) ?_
 refine Jk (k := 6) rfl rfl rfl rfl rfl (fun _ hS => (Jl rfl hs rfl)) ?_
 exact zq.1) : p := k ⟨h⟩
theorem gM (h : q) (k : Bx q → p := by
 intro zq
 refine LW 3 [] rfl rfl (J0 1 rfl (X6 2 rfl ?_))
 exact zq.1) : p := k ⟨h⟩
theorem gN (h : q) (k : Bx q → p := by
 intro zq
 refine JD [] [(0, .pure), (2, .pure), (3, .grow (VS (slV 1) (.cells #[bV (UInt8.ofNat pick.toNat)] 5 (0, 0)))), (5, .pure), (7, .pure), (9, .pure), (11, .pure), (13, .pure), (16, .pure), (17, .pure)] 18 [0, 1, 2, 5, 6, 7, 8, 9, 10, 11, 12, 13, 14, 15, 3, 4, 16, 17] m5 m5 m6 ?_
 refine NV ?_
 exact zq.1) : p := k ⟨h⟩
theorem gO (h : q) (k : Bx q → p := by
 intro zq
 refine JD [] [(0, .pure), (3, .grow (KA (jf (Wv PB)) (fun x => rV x) (fun x => rL x))), (4, .pure), (6, .pure), (7, .pure), (9, .pure)] 10 [0, 1, 2, 4, 5, 6, 7, 3, 8, 9] m5 m5 m6 ?_
 refine Nt ?_
 refine Qw mn ?_
 refine NO fun x => ?_
 refine Jk (k := 9) rfl rfl rfl rfl rfl (fun _ hS => (JA rfl)) ?_
 refine Kc ?_
 revert x
 exact zq.1) : p := k ⟨h⟩
theorem gP (h : q) (k : Bx q → p := by
 intro zq
 refine Nx ?_
 refine LW 1 [1] rfl rfl ?_
 first | refine LR rfl (Jl rfl hst rfl) ?_ | refine LK rfl ?_
 exact zq.1) : p := k ⟨h⟩
theorem gQ (h : p := by
 refine J0 10 rfl ?_
 refine ke fun w1 hs1 => ?_
 exact ⟨⟨some (r, cap, X4), by simp only [List.length_append]; omega, by have := congrArg List.length hX; simp only [List.length_append] at this; omega⟩, rfl, by simpa [JJ] using hs1⟩) : p := h
theorem gR (h : q) (k : Bx q → p := by
 intro zq
 refine Jk (k := 1) rfl rfl rfl rfl rfl (fun _ hS => (Jq (vs := [_]) rfl (.inl (hS _ (Kh (n := 0) rfl))) rfl rfl rfl rfl)) ?_
 refine JS (k := 0) rfl rfl rfl rfl rfl (enters_of Tryz.func56 m5 rfl) Jf1 oN fun t => ?_
 refine JS (k := 2) rfl rfl rfl rfl rfl (enters_of Tryz.func57 m5 rfl) (Jgd hs hn hb) oR fun v => ?_
 revert t v
 exact zq.1) : p := k ⟨h⟩
theorem gS (h : q) (k : Bx q → p := by
 intro zq
 refine Jk (k := 1) rfl rfl rfl rfl rfl (fun _ hS => (Jw rfl rfl rfl)) ?_
 refine JY (k := 2) rfl rfl rfl rfl rfl (Jd rfl (kn 0 rfl) rfl rfl) ?_
 exact zq.1) : p := k ⟨h⟩
theorem gU (h : q) (k : Bx q → p := by
 intro zq
 refine LR rfl (Jq (vs := [_]) rfl (kn 0 rfl) rfl rfl rfl rfl) ?_
 exact zq.1) : p := k ⟨h⟩
theorem gV (h : p := by exact Jm (i + 1, some (ra, cap, sp)) ⟨by simp only; omega, hra⟩ ml (lK rfl) (List.Sublist.refl _) (fun _ _ h => h)) : p := h
theorem gW (h : q) (k : Bx q → p := by
 intro zq
 refine Jb rfl rfl rfl (Jf (j := i) rfl hs rfl rfl rfl me m0) ?_
 exact zq.1) : p := k ⟨h⟩
theorem gX (h : q) (k : Bx q → p := by
 intro zq
 refine Jb rfl rfl rfl (ZI (n := i % 8 * 8) rfl rfl rfl mL (ql (qk (Vh _) m0))) ?_
 refine Jb rfl rfl rfl (Qa (op := .xor) (b := (((abS a u i).getD (i / 8) 0 ^^^ (u.getD i 0).toNat * 2 ^ (i % 8 * 8) : Nat) : Int)) rfl rfl rfl ((habk i).get _) (qk (Vh _) m0) rfl) ?_
 exact zq.1) : p := k ⟨h⟩
theorem gY (h : q) (k : Bx q → p := by
 intro zq
 refine Jk (k := 5) rfl rfl rfl rfl rfl (fun _ hS => (Qi rfl rfl)) ?_
 refine Jk (k := 6) rfl rfl rfl rfl rfl (fun _ hS => (Qi rfl rfl)) ?_
 exact zq.1) : p := k ⟨h⟩
theorem gZ (h : q) (k : Bx q → p := by
 intro zq
 refine KQ 7 rfl ?_
 refine Nk fun w1 hs1 => ?_
 revert w1 hs1
 exact zq.1) : p := k ⟨h⟩
theorem G0 (h : q) (k : Bx q → p := by
 intro zq
 refine JN ?_
 refine Jt 9 rfl ?_
 exact zq.1) : p := k ⟨h⟩
theorem G1 (h : q) (k : Bx q → p := by
 intro zq
 refine JK 6 rfl ?_
 exact zq.1) : p := k ⟨h⟩
theorem G3 (h : q) (k : Bx q → p := by
 intro zq
 refine Jk (k := 8) rfl rfl rfl rfl rfl (fun _ hS => (JA rfl)) ?_
 refine Kc ?_
 exact zq.1) : p := k ⟨h⟩
theorem G4 (h : q) (k : Bx q → p := by
 intro zq
 refine kj ?_
 refine Qp (cs := (l.map uV).toArray) rfl rfl rfl rfl fun r1 => ?_
 revert r1
 exact zq.1) : p := k ⟨h⟩
theorem G5 (h : q) (k : Bx q → p := by
 intro zq
 refine JP 4 rfl ?_
 exact zq.1) : p := k ⟨h⟩
theorem G6 (h : q) (k : Bx q → p := by
 intro zq
 refine LR rfl (Ji (xs := (s).cells) (n := 1) rfl (kn 0 rfl) rfl rfl rfl) ?_
 exact zq.1) : p := k ⟨h⟩
theorem G7 (h : q) (k : Bx q → p := by
 intro zq
 refine LW 1 [1] rfl rfl ?_
 refine Nx ?_
 exact zq.1) : p := k ⟨h⟩
theorem G8 (h : q) (k : Bx q → p := by
 intro zq
 refine QZ 6 [0] rfl rfl ?_
 refine NE ?_
 refine kU ?_
 exact zq.1) : p := k ⟨h⟩
theorem G9 (h : q) (k : Bx q → p := by
 intro zq
 refine gC ?_
 first | refine LR rfl (Jl rfl hseg rfl) ?_ | refine LK rfl ?_
 exact zq.1) : p := k ⟨h⟩
theorem Ga (h : q) (k : Bx q → p := by
 intro zq
 refine KQ 4 rfl ?_
 refine QK rfl rfl .nil (fun w1 hs1 => ?_)
 revert w1 hs1
 exact zq.1) : p := k ⟨h⟩
theorem Gb (h : p := by exact fun _ _ _ h => h.elim) : p := h
theorem Gc (h : q) (k : Bx q → p := by
 intro zq
 refine Np ?_
 refine LW 3 [] rfl rfl ?_
 exact zq.1) : p := k ⟨h⟩
theorem Gd (h : q) (k : Bx q → p := by
 intro zq
 refine Jk (k := 9) rfl rfl rfl rfl rfl (fun _ hS => (Jf (j := pick.toNat) rfl hst rfl rfl rfl nG nG)) ?_
 refine JY (k := 10) rfl rfl rfl rfl rfl (Ko oR rfl hst hty8.1 rfl rfl) ?_
 refine Jk (k := 11) rfl rfl rfl rfl rfl (fun _ hS => (Jw rfl rfl rfl)) ?_
 exact zq.1) : p := k ⟨h⟩
theorem Ge (h : q) (k : Bx q → p := by
 intro zq
 refine J0 4 rfl ?_
 exact zq.1) : p := k ⟨h⟩
theorem Gg (h : q) (k : Bx q → p := by
 intro zq
 refine Jb rfl rfl rfl (J7 (j := i % 5) (m := 1) (off' := i % 5) rfl rfl rfl rfl m0 m0 m0) ?_
 exact zq.1) : p := k ⟨h⟩
theorem Gh (h : q) (k : Bx q → p := by
 intro zq
 refine Jb rfl rfl rfl (J7 (j := i / 8) (m := 1) (off' := i / 8) rfl rfl rfl rfl m0 m0 m0) ?_
 exact zq.1) : p := k ⟨h⟩
theorem Gi (h : q) (k : Bx q → p := by
 intro zq
 refine Jk (k := 2) rfl rfl rfl rfl rfl (fun _ hS => (Jw rfl rfl rfl)) ?_
 exact zq.1) : p := k ⟨h⟩
theorem Gj (h : q) (k : Bx q → p := by
 intro zq
 refine Jk (k := 7) rfl rfl rfl rfl rfl (fun _ hS => (Jw rfl rfl rfl)) ?_
 exact zq.1) : p := k ⟨h⟩
theorem Gk (h : p := by
 refine Jt 3 rfl ?_
 refine Jh m0 m0 ?_
 refine J0 3 rfl ?_
 refine Jr ?_
 exact Jm ((i + j) / 2 + 1, j) ⟨⟨by simp only; omega, hj0⟩, Jea hso hx m9, hi2⟩ ml (lK rfl) (List.nil_sublist _) (fun _ _ h => h)) : p := h
theorem Gl (h : p := by
 have hpl := Wt ls2
 rw [List.take_of_length_le m0] at hxs
 obtain rfl : n = (SL.pairUp ls2).length := by omega
 subst hxs
 rw [← hn] at hr3
 refine ZE 2 rfl ?_
 have hkz := Je6 (s := z ++ z) nb
 exact gl) : p := h
theorem Gm (h : q) (k : Bx q → p := by
 intro zq
 refine Jb rfl rfl rfl (Jq (vs := [_, _, _, _, _, _, _]) rfl (kn 0 rfl) rfl rfl rfl rfl) ?_
 exact zq.1) : p := k ⟨h⟩
theorem Gn (h : q) (k : Bx q → p := by
 intro zq
 refine Jj nA ?_
 refine Vf rfl ?_
 refine Jj nB ?_
 refine Vf rfl ?_
 refine Jj nm ?_
 refine Wq (n := N) (b := 1) rfl rfl rfl rfl rfl rfl rfl rfl rfl m0 m0 fun rm => ?_
 rw [show List.replicate N (Value.int .u8 0) = (KG l N 0).map bV from by rw [KG, List.map_replicate]; rfl]
 revert rm
 exact zq.1) : p := k ⟨h⟩
theorem Gp (h : p := by
 refine Jn rfl rfl (.cons (J4 (vs := [_, _, _]) rfl (kn 0 rfl) rfl rfl) .nil) (fun w1 hs1 => ?_)
 exact Ns) : p := h
theorem Gq (h : q) (k : Bx q → p := by
 intro zq
 refine JK 7 rfl ?_
 exact zq.1) : p := k ⟨h⟩
theorem Gr (h : q) (k : Bx q → p := by
 intro zq
 refine Jn rfl rfl (.cons (Qj rfl (kn 1 rfl) rfl rfl) .nil) (fun w1 hs1 => ?_)
 revert w1 hs1
 exact zq.1) : p := k ⟨h⟩
theorem Gs (h : p := by
 refine ke fun w1 hs1 => ?_
 exact ⟨⟨row, hrow⟩, rfl, hs1.weakL (List.sublist_append_left _ _)⟩) : p := h
theorem Gt (h : q) (k : Bx q → p := by
 intro zq
 refine gu ?_
 refine LR rfl (Jf (j := i) rfl hseg rfl rfl rfl me m0) ?_
 refine LR rfl (JW (off' := YC a.p + (i * 2 + 0)) rfl rfl MN) ?_
 refine LR rfl (VB Ki (k := 0) (v := Jy x.1) oR rfl hseg hx rfl rfl) ?_
 refine kG ?_
 refine NZ ?_
 exact zq.1) : p := k ⟨h⟩
theorem Gu (h : q) (k : Bx q → p := by
 intro zq
 refine Km (LR rfl (Jd rfl (JG (k := 3) rfl) rfl rfl) (LR rfl (JO rfl rfl) ?_))
 refine LS 4 [0] rfl rfl ?_
 refine kq ?_
 refine LT 3 rfl rfl ?_
 refine Ky (k := 4) rfl rfl rfl rfl rfl rfl rfl rfl mi mj ?_
 refine KX (hK12 _ _ _ _ ?_)
 exact zq.1) : p := k ⟨h⟩
theorem Gv (h : q) (k : Bx q → p := by
 intro zq
 refine J0 1 rfl ?_
 refine hKr _ _ ?_
 refine JN ?_
 exact zq.1) : p := k ⟨h⟩
theorem Gw (h : p := by
 rw [if_neg hmod, if_neg MQ] at hmq
 refine G1 ?_
 refine LR rfl (Jco (a := B) (b := y) rfl rfl m0 m0) ?_
 refine Ge ?_
 refine ke fun w1 hs1 => ?_
 exact .inl ⟨by rw [hmq], (), by rw [hmq]; rfl, hs1.weakL (List.nil_sublist _)⟩) : p := h
theorem Gx (h : p := by
 refine Kc ?_
 refine gt ?_
 refine NL fun w1 hs1 => ?_
 rw [hb1 hz]
 rfl) : p := h
theorem Gy (h : q) (k : Bx q → p := by
 intro zq
 refine Jt 9 rfl ?_
 refine LR rfl (JZ (m := i) (kl := some i) (kh := none) (km := none) (q := n) (z := cap) rfl rfl rfl ⟨_, rfl⟩ trivial trivial rfl rfl rfl m0 m0 m0 (fun _ => rfl) rfl) ?_
 refine kB ?_
 refine gg ?_
 refine JP 10 rfl ?_
 exact zq.1) : p := k ⟨h⟩
theorem Gz (h : q) (k : Bx q → p := by
 intro zq
 refine KQ 12 rfl ?_
 refine Nk fun w1 hs1 => ?_
 revert w1 hs1
 exact zq.1) : p := k ⟨h⟩
theorem GA (h : q) (k : Bx q → p := by
 intro zq
 refine Jv (k := 0) (n := 7) (ys := (X0 items i).cells) rfl rfl rfl rfl rfl (X0 items i).len rfl (X0 items i).one rfl ?_
 exact zq.1) : p := k ⟨h⟩
theorem GB (h : q) (k : Bx q → p := by
 intro zq
 refine J8 (vs := [_]) (zs := [_]) (r := [_]) rfl rfl rfl rfl rfl rfl rfl rfl rfl mf rfl fun r2 => ?_
 revert r2
 exact zq.1) : p := k ⟨h⟩
theorem GC (h : p := by
 refine KQ 5 rfl ?_
 refine Jr ?_
 exact Jm (i, (i + j) / 2) ⟨⟨by simp only; omega, by simp only; omega⟩, hi1, Jeb hso hx m9⟩ ml (lK rfl) (List.nil_sublist _) (fun _ _ h => h)) : p := h
theorem GD (h : q) (k : Bx q → p := by
 intro zq
 refine Jn rfl rfl (.cons (J4 (vs := [_]) rfl (kn 0 rfl) rfl rfl) (.cons (Jx rfl) .nil)) (fun w1 hs1 => ?_)
 revert w1 hs1
 exact zq.1) : p := k ⟨h⟩
theorem GF (h : p := by exact Jdy h0 M5 hdep (Region.noSelect_spec hsel) (hlt k hkm) (fun E' listed' a' hL => hseq _ hL.1) l.length listed E a inv (Region.free_spec h0 hr.1.2) hSE hr' h1 (next _ _ hSE h2)) : p := h
theorem GG (h : p := by
 refine J9 1 rfl ?_
 have hg1 := YJ hm2e (i := 2 * i) m0
 have hg2 := YJ hm2e (i := 2 * i + 1) m0
 have hkc := Je6 (s := ls2.getD (2 * i) [] ++ ls2.getD (2 * i + 1) []) nb
 exact NT) : p := h
theorem GH (h : p := by
 refine ND ?_
 exact Jm (i + 1) m0 m0 (lK rfl) (.cons _ (List.Sublist.refl _)) (fun _ _ h => h)) : p := h
theorem GI (h : q) (k : Bx q → p := by
 intro zq
 first | refine Jb rfl rfl rfl (Jq (vs := [_, _, _, _]) rfl (kn 0 rfl) rfl rfl rfl rfl) ?_ | refine JT rfl rfl rfl ?_
 exact zq.1) : p := k ⟨h⟩
theorem GJ (h : q) (k : Bx q → p := by
 intro zq
 refine Jk (k := 0) rfl rfl rfl rfl rfl (fun _ hS => (Jg rfl)) ?_
 exact zq.1) : p := k ⟨h⟩
theorem GK (h : q) (k : Bx q → p := by
 intro zq
 refine LS 3 [] rfl rfl ?_
 exact zq.1) : p := k ⟨h⟩
theorem GL (h : q) (k : Bx q → p := by
 intro zq
 refine LW 2 [] rfl rfl ?_
 exact zq.1) : p := k ⟨h⟩
theorem GM (h : p := by
 obtain ⟨s', g1, g2, g3, g4⟩ := hq
 have hp' : p a' w' (μ s') := ⟨s', g1, g3, g4, rfl⟩
 refine ⟨⟨_, hp'⟩, ?_⟩
 have := (hfm a' w' ⟨_, hp'⟩).2 _ hp'
 omega) : p := h
theorem GN (h : q) (k : Bx q → p := by
 intro zq
 refine Jt 3 rfl ?_
 exact zq.1) : p := k ⟨h⟩
theorem GO (h : q) (k : Bx q → p := by
 intro zq
 refine Jt 4 rfl ?_
 exact zq.1) : p := k ⟨h⟩
theorem GP (h : q) (k : Bx q → p := by
 intro zq
 refine LR rfl (KN rfl rfl) ?_
 exact zq.1) : p := k ⟨h⟩
theorem GQ (h : q) (k : Bx q → p := by
 intro zq
 refine LS 1 [] rfl rfl ?_
 refine Ky (k := 2) (cs' := #[.int .u64 0, .int .u64 0, .int .u64 0, .int .u64 0, .slice none 0 0, J3 (i + 1) (some (ra, cap, sp)), .int .i64 0]) rfl rfl rfl rfl rfl rfl rfl rfl rfl rfl ?_
 exact zq.1) : p := k ⟨h⟩
theorem GR (h : q) (k : Bx q → p := by
 intro zq
 refine kD ?_
 refine JU (k := 10) rfl rfl rfl rfl rfl Jve hrec8 oR ?_
 refine Vi (k := 14) rfl rfl rfl rfl rfl Jmm (vq (by rw [hXl]; decide) nr) ?_
 refine Jk (k := 15) rfl rfl rfl rfl rfl (fun _ hS => (JA rfl)) ?_
 exact zq.1) : p := k ⟨h⟩
theorem GS (h : q) (k : Bx q → p := by
 intro zq
 refine Jb rfl rfl rfl (Jjk rfl rfl rfl m5 m5 (.scal m7 rfl rfl rfl rfl rfl (.scal m7 rfl rfl rfl rfl rfl .nil))) ?_
 refine Kz (congrArg (fun b => Value.bool (!b)) (Jjm x y)) ?_
 refine Kn ?_
 refine JP 2 rfl ?_
 exact zq.1) : p := k ⟨h⟩
theorem GT (h : p := by exact .inr ⟨(back2 v).symm.trans g1, go E undef hSE (.inl (List.Sublist.refl _)) g2⟩) : p := h
theorem GU (h : q) (k : Bx q → p := by
 intro zq
 refine JK 4 rfl ?_
 exact zq.1) : p := k ⟨h⟩
theorem GV (h : q) (k : Bx q → p := by
 intro zq
 refine LR rfl (Jl rfl hseg rfl) ?_
 exact zq.1) : p := k ⟨h⟩
theorem GW (h : p := by
 unfold wpOpIn
 simp only [ho]
 rw [if_pos (by unfold Region.wanted; rw [g3])]
 refine ⟨Qo, ?_⟩
 rw [Oper.semAt_eq _ _ _ (WT g2)]
 exact hp _ a w (frd hi hk hall) hs) : p := h
theorem GX (h : q) (k : Bx q → p := by
 intro zq
 refine gH ?_
 refine Nn ?_
 exact zq.1) : p := k ⟨h⟩
theorem GY (h : q) (k : Bx q → p := by
 intro zq
 refine gu ?_
 refine NE ?_
 refine NZ ?_
 exact zq.1) : p := k ⟨h⟩
theorem GZ (h : q) (k : Bx q → p := by
 intro zq
 refine LR rfl (Jd rfl (JG (k := 0) rfl) rfl rfl) ?_
 exact zq.1) : p := k ⟨h⟩
theorem H0 (h : q) (k : Bx q → p := by
 intro zq
 refine LR rfl (Jd rfl (JG (k := 1) rfl) rfl rfl) ?_
 exact zq.1) : p := k ⟨h⟩
theorem H1 (h : q) (k : Bx q → p := by
 intro zq
 refine Ky (k := 7) (cs' := #[J3 (i2 + 1) (some (ra2, cap2, sp2))]) rfl rfl rfl rfl rfl rfl rfl rfl rfl rfl ?_
 exact zq.1) : p := k ⟨h⟩
theorem H2 (h : q) (k : Bx q → p := by
 intro zq
 first | refine LR rfl (Jl rfl hsb rfl) ?_ | refine LK rfl ?_
 exact zq.1) : p := k ⟨h⟩
theorem H3 (h : p := by
 refine kj ?_
 refine gc ?_
 refine kq ?_
 refine gt ?_
 refine NN fun w1 hs1 => ?_
 rw [hset, if_neg m0, if_neg m0, if_pos m0]
 exact ⟨⟨a, 5, [], ha, rfl⟩, rfl, hs1.weakL (List.nil_sublist _)⟩) : p := h
theorem H4 (h : q) (k : Bx q → p := by
 intro zq
 refine LW 3 [] rfl rfl (J0 1 rfl (X6 4 rfl ?_))
 refine Nk fun w1 hs1 => ?_
 revert w1 hs1
 exact zq.1) : p := k ⟨h⟩
theorem H5 (h : p := by
 refine KQ 9 rfl ?_
 refine NL fun w1 hs1 => ?_
 rw [hb0 m9]
 rfl) : p := h
theorem H6 (h : p := by
 refine KQ 7 rfl ?_
 refine ke fun w1 hs1 => ?_
 exact ⟨⟨none, rfl, rfl⟩, rfl, hs1⟩) : p := h
theorem H7 (h : q) (k : Bx q → p := by
 intro zq
 refine LS 1 [] rfl rfl ?_
 refine Ky (k := 5) (cs' := #[.int .u64 0, .int .u64 0, .int .u64 0, .int .u64 0, .slice none 0 0, J3 (i + 1) (some (ra, cap, sp)), .int .i64 0]) rfl rfl rfl rfl rfl rfl rfl rfl rfl rfl ?_
 exact zq.1) : p := k ⟨h⟩
theorem H8 (h : q) (k : Bx q → p := by
 intro zq
 refine Jt 6 rfl ?_
 exact zq.1) : p := k ⟨h⟩
theorem H9 (h : q) (k : Bx q → p := by
 intro zq
 refine Jb rfl rfl rfl (Jd rfl (JG (k := 0) rfl) rfl rfl) ?_
 exact zq.1) : p := k ⟨h⟩
theorem Ha (h : q) (k : Bx q → p := by
 intro zq
 refine J0 3 rfl ?_
 exact zq.1) : p := k ⟨h⟩
theorem Hb (h : p := by
 refine LR rfl (Qa (op := .or) (b := ((Je n k : Nat) : Int)) rfl rfl rfl (Nat.mod_lt _ m7) (Nat.lt_of_le_of_lt (Nat.div_le_self _ _) hn) rfl) ?_
 exact NS) : p := h
theorem Hc (h : q) (k : Bx q → p := by
 intro zq
 refine Kn ?_
 refine Ks (k := 0) (off := i / 8) (xs := (abS a u i).map uV) (ys := (abS a u (i + 1)).map uV) rfl rfl rfl rfl rfl rfl (by rw [List.length_map, (habk i).1]; omega) (QV rfl) rfl ?_
 exact zq.1) : p := k ⟨h⟩
theorem Hd (h : q) (k : Bx q → p := by
 intro zq
 simp only [execOp, Sem.run_bind]
 exact zq.1) : p := k ⟨h⟩
theorem He (h : q) (k : Bx q → p := by
 intro zq
 refine J9 1 rfl ?_
 exact zq.1) : p := k ⟨h⟩
theorem Hf (h : q) (k : Bx q → p := by
 intro zq
 refine Jt 8 rfl ?_
 refine Jh m0 m0 ?_
 refine Vf rfl (ZF m0 m0 (LR rfl (jE (n := 1) (b := (((i + j) / 2 : Nat) : Int)) rfl rfl rfl m7 m0 m0) ?_))
 refine Vf rfl (Jh m0 m0 (JP 4 rfl ?_))
 exact zq.1) : p := k ⟨h⟩
theorem Hg (h : p := by
 refine Ga fun w1 hs1 => ?_
 obtain ⟨xs1, hx1⟩ := hs1.now
 exact ⟨⟨_, rfl⟩, hs1.keep, .inl ⟨i, _, (by show i = N; omega), hx1⟩⟩) : p := h
theorem Hh (h : q) (k : Bx q → p := by
 intro zq
 refine J0 2 rfl ?_
 refine Qm [1] (L' := [_]) m7 rfl ?_
 exact zq.1) : p := k ⟨h⟩
theorem Hi (h : q) (k : Bx q → p := by
 intro zq
 refine NJ ?_
 refine Qw nY ?_
 refine JU (k := 2) rfl rfl rfl rfl rfl Jvl (hrw m0) oR ?_
 refine Vi (k := 7) rfl rfl rfl rfl rfl Jmm (vq (by rw [hrl32 m0]; decide) nr) ?_
 refine G3 ?_
 exact zq.1) : p := k ⟨h⟩
theorem Hj (h : q) (k : Bx q → p := by
 intro zq
 refine kz ?_
 refine NO fun x => ?_
 refine Vi (k := 13) rfl rfl rfl rfl rfl Jmm (vq (by rw [VE (hnb m0) (VX _)]; decide) nr) ?_
 refine Jk (k := 14) rfl rfl rfl rfl rfl (fun _ hS => (JA rfl)) ?_
 refine Kc ?_
 revert x
 exact zq.1) : p := k ⟨h⟩
theorem Hk (h : q) (k : Bx q → p := by
 intro zq
 refine JN ?_
 refine J9 12 rfl ?_
 exact zq.1) : p := k ⟨h⟩
theorem Hl (h : q) (k : Bx q → p := by
 intro zq
 refine LR rfl (J5 (r := [_]) rfl rfl) ?_
 exact zq.1) : p := k ⟨h⟩
theorem Hm (h : q) (k : Bx q → p := by
 intro zq
 refine LW 4 [0] rfl rfl ?_
 exact zq.1) : p := k ⟨h⟩
theorem Hn (h : p := by exact ⟨⟨some (r1, cap1, sp1), by simp only [List.length_append, List.length_nil, lF]; omega, hsp1⟩, rfl, by simpa [JJ] using hs1⟩) : p := h
theorem Ho (h : p := by
 obtain ⟨_, r1, r2, r3⟩ := hrow h8 i x hx
 have hm := List.mem_of_getElem? hx
 exact ih x hm (hi x hm) _ 0 (hit _ r1) r2 r3 (hwi x hm)) : p := h
theorem Hp (h : q) (k : Bx q → p := by
 intro zq
 change HL _ _ _ (WE rv (.mk a b c d bits pb items pi pick) :: VM rt (.mk k n p ins) :: _) _ _ _ _
 refine kU ?_
 refine YZ [3, 0, 1, 2, 4, 5] (L' := [_, _, _, _, _, _]) m7 rfl ?_
 exact zq.1) : p := k ⟨h⟩
theorem Hq (h : q) (k : Bx q → p := by
 intro zq
 refine Jb rfl rfl rfl (Jw rfl rfl rfl) ?_
 refine Jb rfl rfl rfl (Jd rfl (kn 1 rfl) rfl rfl) ?_
 exact zq.1) : p := k ⟨h⟩
theorem Hr (h : q) (k : Bx q → p := by
 intro zq
 refine Jv (k := 0) (n := 3) (ys := y.cells) rfl rfl rfl rfl rfl y.len rfl y.one rfl ?_
 refine GU ?_
 refine LR rfl (Ji (xs := y.cells) (n := 3) rfl (kn 0 rfl) rfl rfl y.len) ?_
 exact zq.1) : p := k ⟨h⟩
theorem Hs (h : p := by
 refine Nn ?_
 exact Jm (i + 1) ⟨by omega, by rw [if_pos m9] at hinv; exact hinv⟩ m0 (lK rfl) (List.Sublist.refl _) (fun _ _ h => h)) : p := h
theorem Ht (h : q) (k : Bx q → p := by
 intro zq
 refine gn ?_
 refine LR rfl (KV oR rfl hs hix.1 rfl rfl) ?_
 refine KK (cs := #[.int .u64 0, .int .u64 0, .int .u64 0, .int .u64 0, .slice none 0 0, .slice none 0 0, .int .i64 0]) rfl rfl rfl rfl fun rv => ?_
 revert rv
 exact zq.1) : p := k ⟨h⟩
theorem Hu (h : p := by exact vd ho (hnd i o ho) hw (hr E hE w hs) fun u w' ⟨x, e', hk, hf, hd⟩ => h _ _ w' hE.grow (hs.freshs hk hf hd) (e' ▸ (h2 x))) : p := h
theorem Hv (h : q) (k : Bx q → p := by
 intro zq
 refine gk ?_
 refine Kz mO ?_
 refine No ?_
 refine Kz mJ ?_
 refine Jb rfl rfl rfl (J7 (j := (i % 5 + 1) % 5) (m := 1) (off' := (i % 5 + 1) % 5) rfl rfl rfl rfl m0 m0 m0) ?_
 exact zq.1) : p := k ⟨h⟩
theorem Hw (h : p := by
 refine J0 10 rfl ?_
 refine ke fun w1 hs1 => ?_
 exact ⟨⟨some (r2, cap2, sp2), by simp only [List.length_append]; omega, hsp2⟩, rfl, hs1.weakL (by simp [JJ])⟩) : p := h
theorem Hx (h : q) (k : Bx q → p := by
 intro zq
 refine KQ 8 rfl ?_
 refine Nk fun w1 hs1 => ?_
 revert w1 hs1
 exact zq.1) : p := k ⟨h⟩
theorem Hy (h : q) (k : Bx q → p := by
 intro zq
 refine kq ?_
 refine gt ?_
 refine Jn rfl rfl (.cons (J4 (vs := [_, _, _, _, _, _, _]) rfl (kn 0 rfl) rfl rfl) .nil) (fun w1 hs1 => ?_)
 revert w1 hs1
 exact zq.1) : p := k ⟨h⟩
theorem Hz (h : p := by
 refine Nn ?_
 exact NC) : p := h
theorem HE (h : q) (k : Bx q → p := by
 intro zq
 refine kR ?_
 refine Jb rfl rfl rfl (Jd rfl (kn 0 rfl) rfl rfl) ?_
 exact zq.1) : p := k ⟨h⟩
theorem HF (h : p := by
 refine kT fun w1 hs1 => ?_
 rw [jy fun j u v hu hv => hinv j u v (by have := (List.getElem?_eq_some_iff.1 hv).1; omega) hu hv]
 rfl) : p := h
theorem HG (h : q) (k : Bx q → p := by
 intro zq
 refine J0 2 rfl ?_
 refine Jr ?_
 exact zq.1) : p := k ⟨h⟩
theorem HH (h : q) (k : Bx q → p := by
 intro zq
 refine JN ?_
 refine Jt 8 rfl ?_
 exact zq.1) : p := k ⟨h⟩
theorem HI (h : q) (k : Bx q → p := by
 intro zq
 refine JR 8 m5 m5 ?_
 refine kp ?_
 refine gk ?_
 refine Kz m8 ?_
 exact zq.1) : p := k ⟨h⟩
theorem HJ (h : q) (k : Bx q → p := by
 intro zq
 refine kj ?_
 refine LN rfl fun r1 => ?_
 refine kB ?_
 refine Nw ?_
 refine GP ?_
 revert r1
 exact zq.1) : p := k ⟨h⟩
theorem HK (h : p := by exact .inl ⟨g1.same (back1 v).symm (back2 v).symm, fun x => go _ _ hSE.grow (.inl (List.sublist_append_right _ _)) (g2 x)⟩) : p := h
theorem HM (h : q) (k : Bx q → p := by
 intro zq
 first | (refine Jc rfl rfl rfl Jj3 hro oR ?_) | refine LK rfl ?_
 exact zq.1) : p := k ⟨h⟩
theorem HN (h : q) (k : Bx q → p := by
 intro zq
 refine JP 9 rfl ?_
 exact zq.1) : p := k ⟨h⟩
theorem HO (h : q) (k : Bx q → p := by
 intro zq
 refine Jk (k := 13) rfl rfl rfl rfl rfl (fun _ hS => (Jf (j := 0) rfl hs rfl rfl rfl me m0)) ?_
 refine JY (k := 14) rfl rfl rfl rfl rfl (KV oR rfl hs hx8.1 rfl rfl) ?_
 exact zq.1) : p := k ⟨h⟩
theorem HP (h : q) (k : Bx q → p := by
 intro zq
 refine Kz ng ?_
 refine No ?_
 refine Kz n8 ?_
 refine Jb rfl rfl rfl (J7 (j := (i % 5 + 5 - 1) % 5) (m := 1) (off' := (i % 5 + 5 - 1) % 5) rfl rfl rfl rfl m0 m0 m0) ?_
 exact zq.1) : p := k ⟨h⟩
theorem HR (h : q) (k : Bx q → p := by
 intro zq
 refine ZJ rfl rfl rfl rfl (fun _ hS => (Jg rfl)) ?_
 exact zq.1) : p := k ⟨h⟩
theorem HT (h : p := by
 obtain ⟨g1, g2, g3⟩ := hs.own p hp
 exact ⟨g1, g2, (hk.block p.1 (J1 g3) fun hm => (hx1 _ hm).2.2 p hp rfl).trans g3⟩) : p := h
theorem HU (h : q) (k : Bx q → p := by
 intro zq
 refine NE ?_
 refine G5 ?_
 exact zq.1) : p := k ⟨h⟩
theorem HV (h : q) (k : Bx q → p := by
 intro zq
 refine J0 2 rfl (ZE 1 rfl ?_)
 exact zq.1) : p := k ⟨h⟩
theorem HW (h : p := by
 obtain ⟨j, x, h1, rfl⟩ := Xd hs
 rw [Nat.zero_add]
 obtain ⟨_, r1, r2, r3⟩ := hrow m7 j x h1
 exact Wa x _ 0 r2 r3) : p := h
theorem HX (h : q) (k : Bx q → p := by
 intro zq
 refine Jk (k := 2) rfl rfl rfl rfl rfl (fun _ hS => (Ju rfl rfl rfl)) ?_
 refine Qw nJ ?_
 refine Jk (k := 5) rfl rfl rfl rfl rfl (fun _ hS => (Jw rfl rfl rfl)) ?_
 exact zq.1) : p := k ⟨h⟩
theorem HY (h : q) (k : Bx q → p := by
 intro zq
 refine JP 2 rfl ?_
 exact zq.1) : p := k ⟨h⟩
theorem HZ (h : p := by exact .inr ⟨(back2 undef).symm.trans g1, go E undef hSE g2⟩) : p := h
theorem D0 (h : q) (k : Bx q → p := by
 intro zq
 refine Vf rfl ?_
 exact zq.1) : p := k ⟨h⟩
theorem D1 (h : p := by exact absurd hj (tail_waits h2 h3 Mu inv _ i rfl hi hun j hjm)) : p := h
theorem D3 (h : q) (k : Bx q → p := by
 intro zq
 first | refine Jb rfl rfl rfl (Yk rfl rfl) ?_ | refine Jb rfl rfl rfl (Yl rfl rfl) ?_
 exact zq.1) : p := k ⟨h⟩
theorem D4 (h : p := by
 refine Nl fun r1 => ?_
 refine Goq 11 [0] rfl rfl ?_
 exact Nz) : p := h
theorem D5 (h : q) (k : Bx q → p := by
 intro zq
 refine LR rfl (J7 (j := i / 8) (m := 1) (off' := i / 8) rfl rfl rfl rfl m0 m0 m0) ?_
 exact zq.1) : p := k ⟨h⟩
theorem D6 (h : q) (k : Bx q → p := by
 intro zq
 refine gp fun r1 => ?_
 refine Jc rfl rfl rfl Jj1 hno oR ?_
 refine Vb rfl ?_
 revert r1
 exact zq.1) : p := k ⟨h⟩
theorem D7 (h : q) (k : Bx q → p := by
 intro zq
 refine Jv (k := 0) (n := 3) (ys := (JF k pick ins i).cells) rfl rfl rfl rfl rfl (JF k pick ins i).len rfl (JF k pick ins i).one rfl ?_
 refine JK 3 rfl ?_
 exact zq.1) : p := k ⟨h⟩
theorem D8 (h : q) (k : Bx q → p := by
 intro zq
 refine Jb rfl rfl rfl (JX rfl (JG (k := 1) rfl) rfl (Kj (by rw [hbln]; omega))) ?_
 exact zq.1) : p := k ⟨h⟩
theorem D9 (h : q) (k : Bx q → p := by
 intro zq
 refine Km (LS 3 [4] rfl rfl ?_)
 refine Jj mG ?_
 refine LT 4 rfl rfl ?_
 refine KX ?_
 refine Y6 (Qm [4, 5, 6, 7, 0] (L' := [_, _, _, _, _]) m7 rfl ?_)
 exact zq.1) : p := k ⟨h⟩
theorem Da (h : q) (k : Bx q → p := by
 intro zq
 refine J9 3 rfl ?_
 exact zq.1) : p := k ⟨h⟩
theorem Db (h : q) (k : Bx q → p := by
 intro zq
 refine J2 rfl rfl rfl Jzc (vo (n := 32 - s.length) m0) ?_
 rw [jO]
 refine LR rfl (Qc (a := s) (b := List.replicate (32 - s.length) 0) rfl rfl MS) ?_
 exact zq.1) : p := k ⟨h⟩
theorem Dc (h : q) (k : Bx q → p := by
 intro zq
 refine J0 6 rfl ?_
 refine Nk fun w1 hs1 => ?_
 revert w1 hs1
 exact zq.1) : p := k ⟨h⟩
theorem Dd (h : p := by
 refine gt ?_
 refine ke fun w1 hs1 => ?_
 exact ⟨⟨some (r1, cap1, sp1), by simp [lF], hsp1⟩, rfl, by simpa [JJ] using hs1⟩) : p := h
theorem De (h : p := by
 refine KQ 9 rfl ?_
 refine NL fun w1 hs1 => ?_
 rw [if_pos m0]
 rfl) : p := h
theorem Df (h : q) (k : Bx q → p := by
 intro zq
 refine NA fun r1 r2 => ?_
 refine kB ?_
 revert r1 r2
 exact zq.1) : p := k ⟨h⟩
theorem Dg (h : p := by
 refine Ha ?_
 refine Jr ?_
 exact Jm (i + 1) ⟨by omega, by omega⟩ m0 (lK rfl) (List.Sublist.refl _) (fun _ _ h => h)) : p := h
theorem Dh (h : q) (k : Bx q → p := by
 intro zq
 refine kj ?_
 refine Nw ?_
 refine Jc rfl rfl rfl vY (hon false false true false) oR ?_
 exact zq.1) : p := k ⟨h⟩
theorem Di (h : q) (k : Bx q → p := by
 intro zq
 refine G0 ?_
 refine NE ?_
 refine Vb rfl (LR rfl (Jl rfl hs' rfl) (JP 3 rfl ?_))
 exact zq.1) : p := k ⟨h⟩
theorem Dj (h : p := by exact vd ho (hnd i o ho) hw (hr w hs) fun u w' ⟨x, e', hs'⟩ => h _ _ w' (h2 x).1 hs' (e' ▸ (h2 x).2)) : p := h
theorem Dk (h : q) (k : Bx q → p := by
 intro zq
 refine LR rfl (J5 (r := [_, _, _]) rfl rfl) ?_
 exact zq.1) : p := k ⟨h⟩
theorem Dl (h : q) (k : Bx q → p := by
 intro zq
 refine LR rfl (Ji (xs := a.map uV) (n := 4) rfl (kn 1 rfl) rfl rfl Mn) ?_
 refine LR rfl (Ji (xs := b.map uV) (n := 4) rfl (kn 0 rfl) rfl rfl Mo) ?_
 exact zq.1) : p := k ⟨h⟩
theorem Dm (h : q) (k : Bx q → p := by
 intro zq
 refine ko ?_
 refine LR rfl (Ji (xs := (X0 items i).cells) (n := 7) rfl (kn 1 rfl) rfl rfl (X0 items i).len) ?_
 refine Jc rfl rfl rfl Jvk hbi oR ?_
 exact zq.1) : p := k ⟨h⟩
theorem Dn (h : p := by
 obtain ⟨Y, hY⟩ : ∃ Y, Y = WG l N i := ⟨_, rfl⟩
 rw [← hY] at hst1 hlt8 hra hZl ⊢
 exact kW) : p := h
theorem Do (h : q) (k : Bx q → p := by
 intro zq
 refine Jn rfl rfl (.cons (J4 (vs := [_, _, _, _, _, _, _]) rfl (kn 1 rfl) rfl rfl) .nil) (fun w1 hs1 => ?_)
 revert w1 hs1
 exact zq.1) : p := k ⟨h⟩
theorem Dp (h : q) (k : Bx q → p := by
 intro zq
 refine Jk (k := 9) rfl rfl rfl rfl rfl (fun _ hS => (JA rfl)) ?_
 refine Kc ?_
 exact zq.1) : p := k ⟨h⟩
theorem Dq (h : q) (k : Bx q → p := by
 intro zq
 refine Jt 1 rfl ?_
 exact zq.1) : p := k ⟨h⟩
theorem Dr (h : q) (k : Bx q → p := by
 intro zq
 refine Jv (k := 0) (n := 25) (ys := (qr (abS a u 136)).map uV) rfl rfl rfl rfl rfl (by rw [List.length_map, (yJ (habk 136)).1]) MP (VQ _) rfl ?_
 exact zq.1) : p := k ⟨h⟩
theorem Dt (h : q) (k : Bx q → p := by
 intro zq
 refine KR List.perm_append_comm ?_
 exact zq.1) : p := k ⟨h⟩
theorem Du (h : q) (k : Bx q → p := by
 intro zq
 refine LR rfl (J7 (j := 0) rfl rfl rfl rfl rfl mM mb) ?_
 exact zq.1) : p := k ⟨h⟩
theorem Dv (h : q) (k : Bx q → p := by
 intro zq
 refine LR rfl (Jf (j := i) rfl hs rfl rfl rfl rfl m0) ?_
 exact zq.1) : p := k ⟨h⟩
theorem Dw (h : p := by
 rw [KJ hx, VU, Kp, Kp, Xq, if_neg hn, ← h.at_]
 omega) : p := h
theorem Dx (h : p := by exact vd ho (hnd i o ho) hw (hq w hs) fun u w' ⟨e, hk'⟩ => h E _ w' hE (hs.more hk') (e ▸ hk)) : p := h
theorem Dy (h : q) (k : Bx q → p := by
 intro zq
 refine Jb rfl rfl rfl (JX rfl (kn 0 rfl) rfl (Kj (by rw [hBk.1]; omega))) ?_
 exact zq.1) : p := k ⟨h⟩
theorem Dz (h : q) (k : Bx q → p := by
 intro zq
 refine LR rfl (Ji (xs := (ys).cells) (n := 1) rfl (kn 3 rfl) rfl rfl rfl) ?_
 exact zq.1) : p := k ⟨h⟩
theorem DA (h : q) (k : Bx q → p := by
 intro zq
 refine LR rfl (Jq (vs := [_, _, _, _, _]) rfl (kn 0 rfl) rfl rfl rfl rfl) ?_
 exact zq.1) : p := k ⟨h⟩
theorem DB (h : q) (k : Bx q → p := by
 intro zq
 refine Nm ?_
 refine Jb rfl rfl rfl (Qi rfl rfl) ?_
 refine Jb rfl rfl rfl (Qi rfl rfl) ?_
 refine Jb rfl rfl rfl (JA rfl) ?_
 refine ku ?_
 exact zq.1) : p := k ⟨h⟩
theorem DC (h : q) (k : Bx q → p := by
 intro zq
 refine Gq ?_
 refine Nn ?_
 exact zq.1) : p := k ⟨h⟩
theorem DE (h : q) (k : Bx q → p := by
 intro zq
 refine JP 10 rfl ?_
 exact zq.1) : p := k ⟨h⟩
theorem DF (h : p := by
 rw [List.getD_eq_getElem?_getD, List.getElem?_eq_getElem h]
 exact ⟨rfl, List.getElem_mem h⟩) : p := h
theorem DG (h : p := by exact .inl ⟨g1.same (back1 undef).symm (back2 undef).symm, fun x => go _ _ hSE.grow (g2 x)⟩) : p := h
theorem DH (h : p := by
 refine ND ?_
 rw [Jkw m0] at hra ⊢
 refine Qm [2, 3, 0] (L' := [_, _, _]) m7 rfl ?_
 exact gV) : p := h
theorem DI (h : p := by
 unfold wpOpIn
 simp only [ho]
 rw [if_neg (by rw [hw]; simp)]
 exact ⟨Qo, h E _ w hE hs hk⟩) : p := h
theorem DJ (h : p := by
 obtain ⟨e, he, hb, hno⟩ := op6 i o ho' hiP hik
 exact absurd (hi.2.1 _ (hall e he hb)) hno) : p := h
theorem DK (h : q) (k : Bx q → p := by
 intro zq
 refine Jb rfl rfl rfl (JX rfl (kn 1 rfl) rfl (Kj (by rw [hsl]; omega))) ?_
 exact zq.1) : p := k ⟨h⟩
theorem DL (h : q) (k : Bx q → p := by
 intro zq
 refine Vb rfl ?_
 exact zq.1) : p := k ⟨h⟩
theorem DM (h : q) (k : Bx q → p := by
 intro zq
 refine Jb rfl rfl rfl (Jf (j := 0) rfl hst rfl rfl rfl me (Nat.lt_succ_self 0)) ?_
 refine Jb rfl rfl rfl (Ko oR rfl hst M9 rfl rfl) ?_
 exact zq.1) : p := k ⟨h⟩
theorem DN (h : q) (k : Bx q → p := by
 intro zq
 refine LR rfl (Ji (xs := (Ty.mk k n p ins).cells) (n := 3) rfl (kn 1 rfl) rfl rfl (Ty.mk k n p ins).len) ?_
 refine LS 2 [0] rfl rfl ?_
 exact zq.1) : p := k ⟨h⟩
theorem DO (h : q) (k : Bx q → p := by
 intro zq
 refine LR rfl (ZI (n := k % 64) (b := ((n * 2 ^ (k % 64) % 18446744073709551616 : Nat) : Int)) rfl rfl rfl mL (Jxu _)) ?_
 refine GK ?_
 exact zq.1) : p := k ⟨h⟩
theorem DP (h : q) (k : Bx q → p := by
 intro zq
 refine Ge ?_
 refine Nk fun w1 hs1 => ?_
 revert w1 hs1
 exact zq.1) : p := k ⟨h⟩
theorem DQ (h : p := by
 refine kT fun w1 hs1 => ?_
 rw [Jd7 fun j x hx => hinv j (by have := (List.getElem?_eq_some_iff.1 hx).1; omega) x hx]
 rfl) : p := h
theorem DR (h : p := by
 refine Ha ?_
 exact Nz) : p := h
theorem DS (h : p := by
 rw [KJ hx, VU, Kp, Kp, Xq, if_pos hf, ← h.at_]
 omega) : p := h
theorem DT (h : q) (k : Bx q → p := by
 intro zq
 refine Dq ?_
 refine LR rfl (Ji (xs := (abS a u 136).map uV) (n := 25) rfl (kn 0 rfl) rfl rfl (by rw [List.length_map, (habk 136).1])) ?_
 exact zq.1) : p := k ⟨h⟩
theorem DU (h : q) (k : Bx q → p := by
 intro zq
 refine LR rfl (Ji (xs := l.map uV) (n := 4) rfl (kn 0 rfl) rfl rfl Mm) ?_
 exact zq.1) : p := k ⟨h⟩
theorem DV (h : p := by exact ⟨fun a w => Classical.choose (h1 a w), fun a w => Classical.choose_spec (h1 a w)⟩) : p := h
theorem DW (h : p := by
 obtain ⟨h1, rfl⟩ := List.getElem?_eq_some_iff.1 h
 exact List.drop_eq_getElem_cons h1) : p := h
theorem DX (h : q) (k : Bx q → p := by
 intro zq
 refine QY (k := 0) rfl rfl ?_
 exact zq.1) : p := k ⟨h⟩
theorem DY (h : q) (k : Bx q → p := by
 intro zq
 refine Jv (k := 0) (n := 4) (ys := (xt a b).1.map uV) rfl rfl rfl rfl rfl (by rw [List.length_map]; exact Jbd) rfl (VQ _) rfl ?_
 exact zq.1) : p := k ⟨h⟩
theorem DZ (h : q) (k : Bx q → p := by
 intro zq
 refine LR rfl (Jq (vs := [_, _, _]) rfl (kn 1 rfl) rfl rfl rfl rfl) ?_
 exact zq.1) : p := k ⟨h⟩
theorem E0 (h : q) (k : Bx q → p := by
 intro zq
 refine LR rfl (Jq (vs := [_, _, _]) rfl (kn 2 rfl) rfl rfl rfl rfl) ?_
 exact zq.1) : p := k ⟨h⟩
theorem E1 (h : q) (k : Bx q → p := by
 intro zq
 change HC _ _ [(0, _), (1, _), (2, _), (8, _), (9, .int .i64 (i : Int)), (10, .int .i64 (j : Int))] _ _ _ _
 refine J9 8 rfl ?_
 exact zq.1) : p := k ⟨h⟩
theorem E2 (h : p := by
 refine KQ 6 rfl ?_
 refine ke fun w1 hs1 => ?_
 exact ⟨⟨row, hrow⟩, rfl, hs1⟩) : p := h
theorem E3 (h : q) (k : Bx q → p := by
 intro zq
 refine J9 7 rfl ?_
 exact zq.1) : p := k ⟨h⟩
theorem E4 (h : q) (k : Bx q → p := by
 intro zq
 refine KK (cs := (z25.map uV).toArray) rfl rfl rfl rfl fun r3 => ?_
 revert r3
 exact zq.1) : p := k ⟨h⟩
theorem E5 (h : q) (k : Bx q → p := by
 intro zq
 refine QZ 3 [3, 2] rfl rfl ?_
 refine VD rfl rfl rfl (enters_of Tryz.func162 m5 rfl) (Je1 (.mk k n p ins) (.mk a b c d bits pb items pi pick)) fun pp => ?_
 revert pp
 exact zq.1) : p := k ⟨h⟩
theorem E6 (h : q) (k : Bx q → p := by
 intro zq
 refine QZ 4 [2] rfl rfl ?_
 exact zq.1) : p := k ⟨h⟩
theorem E7 (h : q) (k : Bx q → p := by
 intro zq
 refine QZ 6 [0] rfl rfl ?_
 exact zq.1) : p := k ⟨h⟩
theorem E8 (h : q) (k : Bx q → p := by
 intro zq
 refine kq ?_
 refine gt ?_
 exact zq.1) : p := k ⟨h⟩
theorem E9 (h : p := by exact ⟨m, hm, fun k hp => Nat.le_of_not_lt fun hlt => hx ⟨k, hlt, hp⟩⟩) : p := h
theorem Ea (h : p := by
 rw [getD_set_ne true hjk] at hun
 exact hun) : p := h
theorem Eb (h : q) (k : Bx q → p := by
 intro zq
 refine Gj ?_
 refine Jk (k := 8) rfl rfl rfl rfl rfl (fun _ hS => (Jd rfl (.inl (hS _ (Kh (n := 1) rfl))) rfl rfl)) ?_
 exact zq.1) : p := k ⟨h⟩
theorem Ec (h : q) (k : Bx q → p := by
 intro zq
 refine Ja Tryz.func118 rfl rfl fun w => ?_
 refine HH ?_
 refine LR rfl (Jd (v := .int .i64 (bits.length : Int)) rfl (JG (k := 0) rfl) rfl rfl) ?_
 revert w
 exact zq.1) : p := k ⟨h⟩
theorem Ed (h : q) (k : Bx q → p := by
 intro zq
 refine NV ?_
 refine Jk (k := 1) rfl rfl rfl rfl rfl (fun _ hS => (Jd rfl (.inl (hS _ (Kh (n := 0) rfl))) rfl rfl)) ?_
 exact zq.1) : p := k ⟨h⟩
theorem Ee (h : q) (k : Bx q → p := by
 intro zq
 refine LW 3 [] rfl rfl (J0 1 rfl (ZE 1 rfl ?_))
 exact zq.1) : p := k ⟨h⟩
theorem Eg (h : q) (k : Bx q → p := by
 intro zq
 first | (refine Jc rfl rfl rfl Jqo hpl oR ?_) | refine LK rfl ?_
 exact zq.1) : p := k ⟨h⟩
theorem Eh (h : q) (k : Bx q → p := by
 intro zq
 refine Jk (k := 4) rfl rfl rfl rfl rfl (fun _ hS => (Jg rfl)) ?_
 exact zq.1) : p := k ⟨h⟩
theorem Ei (h : q) (k : Bx q → p := by
 intro zq
 refine LW 1 [] rfl rfl ?_
 exact zq.1) : p := k ⟨h⟩
theorem Ej (h : q) (k : Bx q → p := by
 intro zq
 refine gK ?_
 first | (refine Jb rfl rfl rfl (Jf (j := i) rfl hseg rfl rfl rfl me m0) ?_) | refine JT rfl rfl rfl ?_
 exact zq.1) : p := k ⟨h⟩
theorem Ek (h : q) (k : Bx q → p := by
 intro zq
 unfold JM
 simp only [J6]
 exact zq.1) : p := k ⟨h⟩
theorem El (h : p := by
 have h1 := h _ w (qV (n := c.n) Mz) hs
 rw [hro, hc, hn] at h1
 exact h1) : p := h
theorem Em (h : q) (k : Bx q → p := by
 intro zq
 refine J2 rfl rfl rfl Jj5 Jcb ?_
 refine kU ?_
 exact zq.1) : p := k ⟨h⟩
theorem En (h : q) (k : Bx q → p := by
 intro zq
 refine Jk (k := 6) rfl rfl rfl rfl rfl (fun E' hS => Jf (j := 0) rfl hst rfl rfl rfl me (Nat.lt_succ_self 0)) ?_
 exact zq.1) : p := k ⟨h⟩
theorem Eo (h : q) (k : Bx q → p := by
 intro zq
 refine LT 1 rfl rfl ?_
 exact zq.1) : p := k ⟨h⟩
theorem Ep (h : q) (k : Bx q → p := by
 intro zq
 refine DL ?_
 refine LR rfl (Jf (j := i) rfl hsb rfl rfl rfl me m0) ?_
 refine LR rfl (WX oR rfl hsb hy rfl) ?_
 exact zq.1) : p := k ⟨h⟩
theorem Ew (h : q) (k : Bx q → p := by
 intro zq
 rw [show (A ++ B) ++ sp = (A ++ X1) ++ (X3 ++ X4) by rw [List.append_assoc, hX]; simp only [List.append_assoc]]
 exact zq.1) : p := k ⟨h⟩
theorem Er (h : p := by
 refine gu ?_
 refine J2 rfl rfl rfl Jqa (Jfd hwd (n := 32) m7) ?_
 refine Dc fun w1 hs1 => ?_
 rw [if_pos m0]
 rfl) : p := h
theorem Es (h : p := by
 have h1 := hT _ _ _ H j (ready_mono hj hji)
 have h2 := hlt _ inv (mem_ready.1 hr).1 j hj
 omega) : p := h
theorem Et (h : p := by
 refine LR rfl (Ko oR rfl hst hy rfl rfl) ?_
 refine kq ?_
 refine Ge ?_
 exact Gp) : p := h
theorem Eu (h : p := by
 refine Vi (k := 7) rfl rfl rfl rfl rfl Jqh (Jro m0 m0) ?_
 refine G3 ?_
 exact DR) : p := h
theorem Ev (h : q) (k : Bx q → p := by
 intro zq
 refine gt ?_
 refine Nk fun w1 hs1 => ?_
 revert w1 hs1
 exact zq.1) : p := k ⟨h⟩
theorem Ex (h : q) (k : Bx q → p := by
 intro zq
 refine LR rfl (J5 (r := [_, _, _, _, _, _, _, _]) rfl rfl) ?_
 exact zq.1) : p := k ⟨h⟩
theorem Ey (h : q) (k : Bx q → p := by
 intro zq
 refine kG ?_
 refine NZ ?_
 exact zq.1) : p := k ⟨h⟩
theorem Ez (h : p := by
 refine ke fun w1 hs1 => ?_
 exact ⟨by rw [hkec2]; rfl, hs1.keep⟩) : p := h
theorem EA (h : q) (k : Bx q → p := by
 intro zq
 refine JR 7 m5 m5 ?_
 refine H9 ?_
 refine Jb rfl rfl rfl (Jd rfl (JG (k := 1) rfl) rfl rfl) ?_
 refine Nm ?_
 exact zq.1) : p := k ⟨h⟩
theorem EB (h : q) (k : Bx q → p := by
 intro zq
 refine Jb rfl rfl rfl (Ji (xs := (JF k 0 ins i).cells) (n := 3) rfl (kn 0 rfl) rfl rfl (JF k 0 ins i).len) ?_
 exact zq.1) : p := k ⟨h⟩
theorem EC (h : p := by
 refine QK rfl rfl .nil (fun w1 hs1 => ?_)
 exact ⟨(), rfl, hs1⟩) : p := h
theorem ED (h : q) (k : Bx q → p := by
 intro zq
 refine LR rfl (J7 (j := (tX i + 5 * tY i)) (m := 1) (off' := (tX i + 5 * tY i)) rfl rfl rfl rfl m0 m0 m0) ?_
 exact zq.1) : p := k ⟨h⟩
theorem EE (h : p := by
 refine KQ 8 rfl ?_
 refine NL fun w1 hs1 => ?_
 rw [show qA n k = ([], 1) from by unfold qA; rw [if_pos m0]]
 rfl) : p := h
theorem EF (h : p := by
 rw [wV, wL, KH]
 have : 1 * s.length ≤ (7 - d) * s.length := Nat.mul_le_mul_right _ m0
 omega) : p := h
theorem EG (h : p := by
 have : (ins.length : Int) * B ≤ 16 * B := Int.mul_le_mul_of_nonneg_right m0 m0
 omega) : p := h
theorem EH (h : p := by
 refine Dc fun w1 hs1 => ?_
 rw [Qr, if_neg m9, if_neg m9, if_neg m9, if_pos m9]
 rfl) : p := h
theorem EI (h : p := by
 rw [List.all_eq_true]
 intro x hx
 obtain ⟨b, _, rfl⟩ := List.mem_map.1 hx
 rfl) : p := h
theorem EJ (h : p := by
 simp at ho ⊢
 omega) : p := h
theorem EK (h : p := by
 refine kT fun w1 hs1 => ?_
 rw [hcg m0, ← hinv, List.drop_of_length_le N3]
 rfl) : p := h
theorem EL (h : p := by
 rw [List.perm_iff_count]
 intro x
 simp only [List.count_append]
 omega) : p := h
theorem EM (h : p := by
 refine KQ 10 rfl ?_
 refine NL fun w1 hs1 => ?_
 rw [if_neg m0, if_neg m0]
 rfl) : p := h
theorem EN (h : p := by
 have := Nat.eq_of_beq_eq_true h0
 omega) : p := h
theorem EO (h : p := by
 refine KQ 8 rfl ?_
 refine NL fun w1 hs1 => ?_
 rw [if_neg m0, if_pos m0]
 rfl) : p := h
theorem EP (h : p := by
 refine Dc fun w1 hs1 => ?_
 rw [Qr, if_neg m9, if_neg m9, if_pos m9]
 rfl) : p := h
theorem EQ (h : p := by
 rw [hcg m0, ← hinv, if_pos mA]
 rfl) : p := h
end Go.SL
