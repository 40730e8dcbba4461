import Derived.WalkKit
import Derived.CallsIn
import Derived.RangeFuncIn
import Derived.RangeFuncRecord
import Derived.RangeFuncSeq
import Derived.RangeFuncLeaves
import Derived.RangeFuncBound
import Derived.TacticsIn
import Derived.Shelf.Abstract
import Derived.Orders
import Derived.StillTail
import Derived.Sort.QuietThIn
import Derived.Sort.Grow
import Derived.ChangeKeysEq
import Derived.Laws.BytesString
namespace Go.SL
theorem O {α : Sort _} {a : α} : a = a := rfl
set_option linter.all false
structure Bx (q : Prop) : Prop where
  of : q
variable {p q : Prop}
theorem m5 (h : p := by omega) : p := h
theorem m6 (h : p := by kernel_rfl) : p := h
theorem m7 (h : p := by decide) : p := h
theorem m8 (h : p := by first | exact (fun _ h => absurd h List.not_mem_nil) | simp [SubS] | (intro p hp; simp [hp])) : p := h
theorem m9 (h : p := by assumption) : p := h
theorem ma (h : p := by first | (simp only [Nat.zero_add, Nat.reduceAdd, Nat.reduceMul, Nat.zero_mul, Nat.mul_one, Nat.add_zero]; exact rfl) | exact rfl) : p := h
theorem mb (h : p := by exact show _ = Value.int .i64 ((i + 1 : Nat) : Int) from by rw [wrap_i64 (by omega) (by omega)]; congr 1 <;> omega) : p := h
theorem mc (h : p := by rw [wrap_i64 (by omega) (by omega)]; omega) : p := h
theorem me (h : p := by first | rfl | omega) : p := h
theorem mf (h : p := by first | exact KT _ _ | exact Ku (by omega) (by decide) (by omega) | (rw [wrap_i64 (by omega) (by omega)]; omega)) : p := h
theorem mg (h : p := by show (madeCells #[_] _).toList = _; rw [KE]; exact rfl) : p := h
theorem mh (h : p := by simp only; omega) : p := h
theorem mi (h : p := by rw [Int.tmod_eq_emod_of_nonneg (by omega)]; omega) : p := h
theorem mj (h : p := by rw [JL]; exact rfl) : p := h
theorem ml (h : p := by simp) : p := h
theorem mm (h : p := by exact show _ = Value.int .i64 (((N + 255) / 256 : Nat) : Int) from congrArg (Value.int .i64) (by first | exact KT _ _ | exact Ku (by omega) (by decide) (by omega) | (rw [wrap_i64 (by omega) (by omega)]; omega))) : p := h
theorem mn (h : p := by exact show _ = Value.int .i64 ((N + 255 : Nat) : Int) from congrArg (Value.int .i64) (by first | exact KT _ _ | exact Ku (by omega) (by decide) (by omega) | (rw [wrap_i64 (by omega) (by omega)]; omega))) : p := h
theorem mo (h : p := by exact show _ = Value.int .i64 ((i / 8 : Nat) : Int) from congrArg (Value.int .i64) (by first | exact KT _ _ | exact Ku (by omega) (by decide) (by omega))) : p := h
theorem mp (h : p := by exact show _ = Value.int .i64 ((i / 8 : Nat) : Int) from congrArg (Value.int .i64) (by rw [Ku (by omega) (by omega) (by omega)]; omega)) : p := h
theorem mq (h : p := by rw [if_neg (by omega)]; omega) : p := h
theorem ms (h : p := by first | exact KT _ _ | exact Ku (by omega) (by decide) (by omega)) : p := h
theorem mt (h : p := by simp_all) : p := h
theorem mu (h : p := by unfold W1; first | (rw [if_pos (by assumption)]) | (rw [if_neg (by assumption), if_pos (by assumption)]; have := hp8 (by assumption); omega) | (rw [if_neg (by assumption), if_neg (by assumption)]; rfl)) : p := h
theorem mw (h : p := by exact show _ = Value.int .i64 ((i % 8 : Nat) : Int) from congrArg (Value.int .i64) (by first | exact KT _ _ | exact Ku (by omega) (by decide) (by omega))) : p := h
theorem my (h : p := by first | decide | omega) : p := h
theorem mz (h : p := by rw [List.mem_singleton.1 hp]; exact List.mem_cons_self) : p := h
theorem mA (h : p := by exact show _ = Value.int .i64 ((i % 8 : Nat) : Int) from congrArg (Value.int .i64) (by rw [Int.tmod_eq_emod_of_nonneg (by omega)]; omega)) : p := h
theorem mB (h : p := by exact show _ = Value.int .i64 ((i % 5 : Nat) : Int) from congrArg (Value.int .i64) (by rw [Int.tmod_eq_emod_of_nonneg (by omega)]; omega)) : p := h
theorem mC (h : p := by exact show _ = Value.int .i64 ((i % 8 * 8 : Nat) : Int) from congrArg (Value.int .i64) (by rw [wrap_i64 (by omega) (by omega)]; omega)) : p := h
theorem mD (h : p := by simp only [List.size_toArray, List.length_append]; omega) : p := h
theorem mE (h : p := by rintro _ _ _ ⟨_, rfl, _⟩; rfl) : p := h
theorem mF (h : p := by first | (simp only [List.set_cons_zero, List.set_cons_succ]; exact rfl) | exact rfl) : p := h
theorem mG (h : p := by exact show _ = Value.int .i64 (((i % 5 + 1) % 5 : Nat) : Int) from congrArg (Value.int .i64) (by rw [Int.tmod_eq_emod_of_nonneg (by omega)]; omega)) : p := h
theorem mH (h : p := by rw [Ku (by omega) (by omega) (by omega)]; omega) : p := h
theorem mI (h : p := by exact show _ = Value.int .i64 ((i % 5 + 1 : Nat) : Int) from congrArg (Value.int .i64) (by rw [wrap_i64 (by omega) (by omega)]; omega)) : p := h
theorem mJ (h : p := by exact show _ = Value.int .i64 ((2 ^ (k + 1) : Nat) : Int) from congrArg (Value.int .i64) ((zR hk16).trans (by rw [Nat.pow_succ]))) : p := h
theorem mK (h : p := by simp only [Nat.min_def]; split <;> omega) : p := h
theorem mL (h : p := by rw [List.length_append]; omega) : p := h
theorem mM (h : p := by exact show _ ≤ 64 from by omega) : p := h
theorem mN (h : p := by first | (simp only [List.setIfInBounds_toArray, List.set_cons_zero, List.set_cons_succ]; exact rfl) | exact rfl) : p := h
theorem mO (h : p := by exact show _ = Value.int .i64 ((2 * i + 1 : Nat) : Int) from by rw [wrap_i64 (by omega) (by omega)]; congr 1 <;> omega) : p := h
theorem mP (h : p := by unfold ZI; omega) : p := h
theorem mQ (h : p := by exact show _ = Value.int .i64 ((i / 5 + 5 * ((2 * (i % 5) + 3 * (i / 5)) % 5) : Nat) : Int) from congrArg (Value.int .i64) (by rw [wrap_i64 (by omega) (by omega)]; omega)) : p := h
theorem mR (h : p := by exact Nat.le_of_ble_eq_true rfl) : p := h
theorem mT (h : p := by simp only [JE, List.nil_append, List.append_nil]; exact List.Sublist.refl _) : p := h
theorem mU (h : p := by exact show _ = Value.int .i64 (((2 * (i % 5) + 3 * (i / 5)) % 5 : Nat) : Int) from congrArg (Value.int .i64) (by rw [Int.tmod_eq_emod_of_nonneg (by omega)]; omega)) : p := h
theorem mV (h : p := by exact show _ = Value.int .i64 ((5 * ((2 * (i % 5) + 3 * (i / 5)) % 5) : Nat) : Int) from congrArg (Value.int .i64) (by rw [wrap_i64 (by omega) (by omega)]; omega)) : p := h
theorem mW (h : p := by show (QE (J9 _ _) && true) = true; rw [WE]; rfl) : p := h
theorem mX (h : p := by exact show _ = uV (u.getD i 0).toNat from congrArg (Value.int .u64) (wrap_u64 (z := ((u.getD i 0).toNat : Int)) (by omega) (by have := Xl (u.getD i 0); omega))) : p := h
theorem mY (h : p := by rw [List.mem_singleton.1 hq]; exact List.mem_cons_self) : p := h
theorem mZ (h : p := by exact show _ = Value.int .i64 (((i % 5 + 5 - 1) % 5 : Nat) : Int) from congrArg (Value.int .i64) (by rw [Int.tmod_eq_emod_of_nonneg (by omega)]; omega)) : p := h
theorem n8 (h : p := by exact show _ = Value.int .i64 ((2 * (i % 5) + 3 * (i / 5) : Nat) : Int) from congrArg (Value.int .i64) (by rw [wrap_i64 (by omega) (by omega)]; omega)) : p := h
theorem n9 (h : p := by exact show _ = Value.int .i64 ((n * z : Nat) : Int) from congrArg (Value.int .i64) (by rw [← Int.natCast_mul]; exact wrap_i64 (by omega) (by omega))) : p := h
theorem na (h : p := by exact show _ = Value.int .i64 ((tX i + 5 * tY i : Nat) : Int) from congrArg (Value.int .i64) (by rw [wrap_i64 (by omega) (by omega)]; omega)) : p := h
theorem nb (h : p := by rw [h] at hr; cases hr) : p := h
theorem nc (h : p := by exact show _ = Value.int .i64 ((i % 5 + 5 - 1 : Nat) : Int) from congrArg (Value.int .i64) (by rw [wrap_i64 (by omega) (by omega)]; omega)) : p := h
theorem nf (h : p := by exact show _ = Value.int .i64 ((136 * i + 136 : Nat) : Int) from congrArg (Value.int .i64) (by rw [wrap_i64 (by omega) (by omega)]; omega)) : p := h
theorem ng (h : p := by simp only; rw [show (i + 1 + 7) / 8 = i / 8 + 1 by omega]; rfl) : p := h
theorem nh (h : p := by exact show _ = Value.int .i64 ((2 * (i % 5) : Nat) : Int) from congrArg (Value.int .i64) (by rw [wrap_i64 (by omega) (by omega)]; omega)) : p := h
theorem ni (h : p := by exact show _ = Value.int .i64 ((3 * (i / 5) : Nat) : Int) from congrArg (Value.int .i64) (by rw [wrap_i64 (by omega) (by omega)]; omega)) : p := h
theorem nj (h : p := by exact show _ = Value.int .i64 ((i / 5 : Nat) : Int) from congrArg (Value.int .i64) (by rw [Ku (by omega) (by omega) (by omega)]; omega)) : p := h
theorem nk (h : p := by exact show _ = Value.int .i64 ((N : Nat) : Int) from congrArg (Value.int .i64) (by rw [Ku (by omega) (by decide) (by omega), hN]; rfl)) : p := h
theorem nl (h : p := by exact show _ = Value.int .i64 ((5 * tY i : Nat) : Int) from congrArg (Value.int .i64) (by rw [wrap_i64 (by omega) (by omega)]; omega)) : p := h
theorem nm (h : p := by first | omega | (simp only [List.length_append, Qk]; omega)) : p := h
theorem nn (h : p := by show _ < 18446744073709551616; omega) : p := h
theorem np (h : p := by exact show _ = Value.int .i64 ((K : Nat) : Int) from congrArg (Value.int .i64) (by rw [wrap_i64 (by omega) (by omega)]; omega)) : p := h
theorem nq (h : p := by exact show _ = uV (i % 8 * 8) from congrArg (Value.int .u64) (wrap_u64 (z := ((i % 8 * 8 : Nat) : Int)) (by omega) (by omega))) : p := h
theorem nr (h : p := by exact show _ = uV (s.getD i 0).toNat from congrArg (Value.int .u64) (wrap_u64 (by omega) (by have := Xl (s.getD i 0); omega))) : p := h
theorem nt (h : p := by exact show _ = Value.int .i64 ((H + th.length : Nat) : Int) from by rw [wrap_i64 (by omega) (by omega)]; congr 1 <;> omega) : p := h
theorem nw (h : p := by exact show _ = Value.int .i64 ((l.length + 8 : Nat) : Int) from by rw [wrap_i64 (by omega) (by omega)]; congr 1 <;> omega) : p := h
theorem ny (h : p := by exact show _ = Value.int .i64 ((l.length + 7 : Nat) : Int) from by rw [wrap_i64 (by omega) (by omega)]; congr 1 <;> omega) : p := h
theorem nz (h : p := by exact show _ = Value.int .i64 ((32 * (i + 1) : Nat) : Int) from by rw [wrap_i64 (by omega) (by omega)]; congr 1 <;> omega) : p := h
theorem nA (h : p := by exact show _ = Value.int .i64 ((2 * (i + 1) : Nat) : Int) from by rw [wrap_i64 (by omega) (by omega)]; congr 1 <;> omega) : p := h
theorem nB (h : p := by exact show _ = Value.int .i64 ((32 * i + M : Nat) : Int) from by rw [wrap_i64 (by omega) (by omega)]; congr 1 <;> omega) : p := h
theorem nC (h : p := by rw [List.mem_singleton.1 hp, List.append_nil]; exact List.mem_cons_self) : p := h
theorem nD (h : p := by have := m4 (by assumption); omega) : p := h
theorem nE (h : p := by exact show _ = Value.int .i64 ((n + 1 - i : Nat) : Int) from by rw [wrap_i64 (by omega) (by omega)]; congr 1 <;> omega) : p := h
theorem nF (h : p := by exact show _ = bV (UInt8.ofNat pick.toNat) from Ja7 (m4 (by assumption)).2.1 (by have := m4 (by assumption); omega)) : p := h
theorem nG (h : p := by exact show _ = Value.int .i64 ((j + 1 : Nat) : Int) from by rw [wrap_i64 (by omega) (by omega)]; congr 1 <;> omega) : p := h
theorem nH (h : p := by exact show _ = Value.int .i64 ((n + 1 : Nat) : Int) from by rw [wrap_i64 (by omega) (by omega)]; congr 1 <;> omega) : p := h
theorem nI (h : p := by exact show _ = some (KA ls.length (KY row)) from by rw [QG _ _ hok.zero]; rfl) : p := h
theorem nJ (h : p := by exact show _ = uV (pick.toNat) from congrArg (Value.int .u64) ((wrap_u64 (by omega) (by omega)).trans (by omega))) : p := h
theorem nL (h : p := by simp only [List.toList_toArray]; rw [List.append_assoc, List.drop_left' lA, ← hX, List.take_left' lB]) : p := h
theorem nM (h : p := by intro e he; simp at he; rcases he with rfl | rfl | rfl | rfl | rfl | rfl | rfl <;> exact ⟨_, rfl⟩) : p := h
theorem nN (h : p := by have := congrArg List.length hX; simp only [List.size_toArray, List.length_append] at this ⊢; omega) : p := h
theorem nO (h : p := by first | exact .inl (by assumption) | exact .inr (by assumption)) : p := h
theorem nP (h : p := by exact show i < xs.length by omega) : p := h
theorem nQ (h : p := by intro e he; simp at he; rcases he with rfl | rfl | rfl | rfl | rfl | rfl <;> exact ⟨_, rfl⟩) : p := h
theorem nR (h : p := by simp only [List.toList_toArray]; rw [List.append_assoc, List.drop_left' lA, List.take_left' lB]) : p := h
theorem nS (h : p := by exact show _ = uV v.toNat from congrArg (Value.int .u64) (by rw [wrap_u64 (by omega) (by omega)]; omega)) : p := h
theorem nT (h : p := by show Xe s.p + i * 8 + 0 = _; omega) : p := h
theorem nU (h : p := by simp; omega) : p := h
theorem nV (h : p := by simp only [List.toList_toArray, List.drop_zero]; rw [List.append_assoc, List.take_left' lA]) : p := h
theorem nW (h : p := by intro e he; simp at he; rcases he with rfl | rfl | rfl | rfl | rfl <;> exact ⟨_, rfl⟩) : p := h
theorem nX (h : p := by rw [List.length_map, hsl]; omega) : p := h
theorem nY (h : p := by exact show _ = uV (items.length) from congrArg (Value.int .u64) (wrap_u64 (by omega) (by omega))) : p := h
theorem nZ (h : p := by have := (Qi (hx i h)).1; unfold W1 at this ⊢; rw [if_neg h8] at this ⊢; exact this) : p := h
theorem M0 (h : p := by exact show _ = uV (bits.length) from congrArg (Value.int .u64) (wrap_u64 (by omega) (by omega))) : p := h
theorem M1 (h : p := by exact show i < ins.length by omega) : p := h
theorem M2 (h : p := by intro e he; simp at he; rcases he with rfl | rfl | rfl | rfl <;> exact ⟨_, rfl⟩) : p := h
theorem M3 (h : p := by exact show _ = Value.int .i64 (i : Int) from by congr 1; omega) : p := h
theorem M4 (h : p := by exact show _ = Value.tuple #[.int .i64 v, .int .i64 (Jm7 (vl x.f 5))] from by rw [hv]; rfl) : p := h
theorem M5 (h : p := by rw [ha]; rfl) : p := h
theorem M6 (h : p := by rw [List.length_map]; exact h) : p := h
theorem M7 (h : p := by exact show _ = uV (i % 8) from congrArg (Value.int .u64) (wrap_u64 (by omega) (by omega))) : p := h
theorem M8 (h : p := by exact show [x0][0]? = some x0 from rfl) : p := h
theorem M9 (h : p := by simp only; rw [← hvc]; exact .cons _ (.cons _ (.cons _ (List.Sublist.refl _)))) : p := h
theorem Ma (h : p := by exact show i < s.accts.length by omega) : p := h
theorem Mb (h : p := by simp only [List.toList_toArray]; rw [List.take_left' (by rw [List.length_map])]) : p := h
theorem Mc (h : p := by simp only; rw [htki, Wf]; exact List.Sublist.refl _) : p := h
theorem Md (h : p := by have := congrArg List.length hX; simp only [List.length_append] at this; omega) : p := h
theorem Me (h : p := by exact show CallsIn (FW c.ro) 0 c.P g vs.toArray w _ from hc) : p := h
theorem Mf (h : p := by intro e he; simp at he; rcases he with rfl | rfl | rfl <;> exact ⟨_, rfl⟩) : p := h
theorem Mg (h : p := by exact show _ = bV (UInt8.ofNat ((Y.getD (i / 8) 0).toNat + 2 ^ (i % 8))) from Jgz hlt8) : p := h
theorem Mh (h : p := by simpa using h) : p := h
theorem Mi (h : p := by exact show ¬ ((k = 4 ∧ n < items.length) ∨ (k = 6 ∧ n < bits.length)) by omega) : p := h
theorem Mj (h : p := by have := (q2 (by omega)).2.1; omega) : p := h
theorem Mk (h : p := by rw [VH hp, if_pos (by omega)]; rfl) : p := h
theorem Ml (h : p := by rw [VH hp, if_neg (by omega)]; rfl) : p := h
theorem Mm (h : p := by rw [List.length_map, ha.1]) : p := h
theorem Mn (h : p := by rw [List.length_map, hb.1]) : p := h
theorem Mo (h : p := by simp only [List.size_toArray, List.length_append, KV, KO AcL.len]; omega) : p := h
theorem Mp (h : p := by intro e he; simp at he; rcases he with rfl | rfl <;> exact ⟨_, rfl⟩) : p := h
theorem Mq (h : p := by rw [Bool.not_eq_true]; assumption) : p := h
theorem Mr (h : p := by rw [List.length_drop, List.length_map]; omega) : p := h
theorem Ms (h : p := by rw [hxe]; assumption) : p := h
theorem Mt (h : p := by rw [h]; exact List.mem_cons_self) : p := h
theorem Mu (h : p := by simpa using (show m < ops.length by omega)) : p := h
theorem Mv (h : p := by rw [wrap_u64 (by omega) (by omega)]; omega) : p := h
theorem Mw (h : p := by intro e he; simp at he; rcases he with rfl <;> exact ⟨_, rfl⟩) : p := h
theorem Mx (h : p := by rw [getD_replicate_false] at hl; cases hl) : p := h
theorem My (h : p := by exact show _ = some (J9 (KJ l N l.length).length _) from by rw [Q9]; rfl) : p := h
theorem Mz (h : p := by rw [← Int.natCast_mul]; exact wrap_i64 (by omega) (by omega)) : p := h
theorem MA (h : p := by exact show frB (0, 0) j = false from by simp [frB, Nat.blt, Nat.ble]) : p := h
theorem MB (h : p := by rw [show ((0 : Nat) : Int) = 0 from rfl, Int.sub_zero]; rfl) : p := h
theorem MC (h : p := by exact show ¬ (x.err ≠ 0) by omega) : p := h
theorem MD (h : p := by rw [hl]; simp [bV, Function.comp_def]) : p := h
theorem ME (h : p := by first | assumption | (simp_all; done)) : p := h
theorem MF (h : p := by simp only [List.toList_toArray]; rw [List.take_left' hr1]) : p := h
theorem MG (h : p := by rw [h]; exact List.mem_cons_of_mem _ List.mem_cons_self) : p := h
theorem MH (h : p := by split <;> omega) : p := h
theorem MI (h : p := by first | omega | (simp only [List.length_append]; omega)) : p := h
theorem MJ (h : p := by simp only [List.append_nil]; exact List.Sublist.refl _) : p := h
theorem MK (h : p := by rw [List.size_toArray, List.length_append, hr1]; omega) : p := h
theorem ML (h : p := by rw [List.mem_singleton.1 hp]; simp) : p := h
theorem MM (h : p := by show Xe a.p + i * 2 + 0 = _; omega) : p := h
theorem MN (h : p := by show Xe a.p + i * 2 + 1 = _; omega) : p := h
theorem MO (h : p := by rw [List.size_toArray, List.length_map, (habk 136).1]) : p := h
theorem MP (h : p := by rw [List.mem_singleton.1 h]; exact List.mem_cons_self) : p := h
theorem MQ (h : p := by rw [YH (by rw [List.length_set]; omega), Zq, ← hY]) : p := h
theorem MR (h : p := by simp only [List.length_cons, List.length_nil]; omega) : p := h
theorem MS (h : p := by decide +kernel) : p := h
theorem MT (h : p := by exact show _ ≤ 8 from by omega) : p := h
theorem MU (h : p := by rcases List.mem_append.1 hq with h | h <;> simp [h]) : p := h
theorem MV (h : p := by show Xe p + i * 2 + 0 = _; omega) : p := h
theorem MW (h : p := by rw [Ku (by omega) (by decide) (by omega), hN]; rfl) : p := h
theorem MX (h : p := by rw [List.length_reverse, Q2]; exact Nat.le_refl _) : p := h
theorem MY (h : p := by simp only; rw [hst0]; exact List.Sublist.refl _) : p := h
theorem MZ (h : p := by rw [← YW x.s 0]; exact YV (vV (jr x.ok A0) 0)) : p := h
theorem N0 (h : p := by rw [qP, if_pos (by assumption)] at hb1; omega) : p := h
theorem N1 (h : p := by rw [List.length_drop]; omega) : p := h
theorem N2 (h : p := by show c.length ≤ 9223372036854775807; omega) : p := h
theorem N3 (h : p := by rw [List.length_map]; omega) : p := h
theorem N4 (h : p := by exact show 0 < items.length by omega) : p := h
theorem N5 (h : p := by simpa using ho) : p := h
theorem N6 (h : p := by rw [List.length_map, hl.1]) : p := h
theorem N7 (h : p := by cases hdep) : p := h
theorem N8 (h : p := by exact show m < ops.length by omega) : p := h
theorem N9 (h : p := by rw [hc.1]; omega) : p := h
theorem Na (h : p := by rw [Qk]; decide) : p := h
theorem Nb (h : p := by simpa using hb) : p := h
theorem Nc (h : p := by simpa using hy) : p := h
theorem Nd (h : p := by simp at h ⊢; omega) : p := h
theorem Nf (h : p := by rw [hdl]; exact hL.1) : p := h
theorem Ng (h : p := by rw [s.er_len]; omega) : p := h
theorem Nh (h : p := by simp [JE]) : p := h
theorem Ni (h : q) (k : Bx q → p := by
 intro zq
 refine pT O O O fun w1 hs1 => ?_
 refine ⟨?_, hs1.keep⟩
 revert w1 hs1
 exact zq.1) : p := k ⟨h⟩
theorem Nj (h : q) (k : Bx q → p := by
 intro zq
 refine JJ ?_
 refine Jt 2 O ?_
 refine LN O fun r1 => ?_
 revert r1
 exact zq.1) : p := k ⟨h⟩
theorem Nk (h : q) (k : Bx q → p := by
 intro zq
 refine Jb m5 m5 ?_
 refine J1 2 O ?_
 refine Jr ?_
 exact zq.1) : p := k ⟨h⟩
theorem Nl (h : q) (k : Bx q → p := by
 intro zq
 refine Jf O O (.cons (Jh O) (.cons (Jh O) .nil)) (fun w1 hs1 => ?_)
 revert w1 hs1
 exact zq.1) : p := k ⟨h⟩
theorem Nm (h : q) (k : Bx q → p := by
 intro zq
 refine Ja O O O (Jg O) ?_
 exact zq.1) : p := k ⟨h⟩
theorem No (h : p := by exact ⟨rfl, hs1.keep⟩) : p := h
theorem Nn (h : q) (k : Bx q → p := by
 intro zq
 refine Ja O O O (J2 O O O) ?_
 exact zq.1) : p := k ⟨h⟩
theorem Np (h : q) (k : Bx q → p := by
 intro zq
 refine LW 1 [0] O O ?_
 first | refine LR O (Jy O hs O) ?_ | refine LK O ?_
 exact zq.1) : p := k ⟨h⟩
theorem Nq (h : q) (k : Bx q → p := by
 intro zq
 refine Jm (k := 0) O O O O O (fun _ hS => (J6 O O O)) ?_
 refine JY (k := 1) O O O O O (Je O (kn 0 O) O O) ?_
 refine JW (k := 2) O O O O O Jaw hpk oR ?_
 refine Jm (k := 4) O O O O O (fun _ hS => (J6 O O O)) ?_
 refine JY (k := 5) O O O O O (Je O (kn 1 O) O O) ?_
 refine Jm (k := 6) O O O O O (fun _ _ => (J2 O O O)) ?_
 refine Qt mn ?_
 refine Jm (k := 7) O O O O O (fun _ _ => (J2 O O O)) ?_
 exact zq.1) : p := k ⟨h⟩
theorem Nr (h : p := by
 refine Kk 5 O ?_
 refine Jf O O .nil (fun w1 hs1 => ?_)
 obtain ⟨xs1, hx1⟩ := hs1.now
 exact ⟨⟨_, rfl⟩, hs1.keep, .inr ⟨_, hx1⟩⟩) : p := h
theorem Ns (h : q) (k : Bx q → p := by
 intro zq
 refine LR O (Jz (vs := [_, _, _]) O (kn 0 O) O O O O) ?_
 exact zq.1) : p := k ⟨h⟩
theorem Nt (h : q) (k : Bx q → p := by
 intro zq
 refine Jt 1 O ?_
 refine LR O (Jd (xs := [.int .u64 0, .int .u64 0, .int .u64 0, .int .u64 0, .slice none 0 0, J9 i row, .int .i64 0]) (n := 7) O (kn 0 O) O O O) ?_
 refine Jj (k := 1) (n := 7) (ys := [.int .u64 0, .int .u64 0, .int .u64 0, .int .u64 0, .slice none 0 0, J9 i row, .int .i64 0]) O O O O O O O honeV O ?_
 refine J1 3 O ?_
 refine Jf O O (.cons (Js (vs := [_, _, _, _, _, _, _]) O (kn 1 O) O O) .nil) (fun w1 hs1 => ?_)
 revert w1 hs1
 exact zq.1) : p := k ⟨h⟩
theorem Nu (h : q) (k : Bx q → p := by
 intro zq
 refine Jf O O (.cons (Js (vs := [_, _, _, _, _, _, _, _]) O (kn 0 O) O O) (.cons (Jh O) .nil)) (fun w1 hs1 => ?_)
 revert w1 hs1
 exact zq.1) : p := k ⟨h⟩
theorem Nv (h : q) (k : Bx q → p := by
 intro zq
 refine JI s.L [(1, .pure), (2, .pure), (3, .pure), (5, .pure), (6, .pure), (7, .grow (KD (Classical.choice (zu s.ok (WX (W0 j)) (Yi f r j).2)) AcRes.val AcRes.L)), (8, .pure), (9, .pure), (10, .pure), (11, .grow (Vu vr (.cells #[.string ⟨#[]⟩, .int .u64 0, .int .u64 0, .int .u64 0, .int .u64 0, .int .u64 0, .string ⟨#[]⟩, .slice none 0 0] 48 (0, 0)))), (12, .turn), (13, .pure)] 14 [0, 1, 2, 3, 4, 5, 6, 7, 8, 9, 10, 11, 12, 13] m6 m6 (fun p hp => List.mem_cons_of_mem _ (List.mem_cons_of_mem _ (List.mem_cons_of_mem _ (List.mem_cons_of_mem _ hp)))) ?_
 refine JY (k := 0) O O O O O (Jd (xs := s.a.cells) (n := 8) O (kn 0 O) O O O) ?_
 refine Jm (k := 1) O O O O O (fun _ hS => (Jg O)) ?_
 refine Jm (k := 2) O O O O O (fun _ hS => (Jg O)) ?_
 refine Jm (k := 3) O O O O O (fun _ _ => JO (j := j) (m := 1) (off' := j) O O O O O m5 m5) ?_
 refine JY (k := 4) O O O O O (Je O (kn 3 O) O (Jhn hj)) ?_
 refine Qq (k := 5) O O O O O (enters_of Tryz.func137 m6 O) (Jvj (zp j)) ?_
 refine Jm (k := 6) O O O O O (fun _ hS => (Jg O)) ?_
 exact zq.1) : p := k ⟨h⟩
theorem Nw (h : p := by
 refine Jf O O (.cons (Js (vs := [_, _, _]) O (kn 0 O) O O) .nil) (fun w1 hs1 => ?_)
 exact ⟨by simp_all [JB, ZD, V4], hs1.keep⟩) : p := h
theorem Nx (h : q) (k : Bx q → p := by
 intro zq
 refine Ja O O O (J6 O O O) ?_
 refine Ja O O O (Je O (kn 0 O) O O) ?_
 exact zq.1) : p := k ⟨h⟩
theorem Ny (h : q) (k : Bx q → p := by
 intro zq
 refine Qh (k := 16) (dv := [_, _, _, _, _]) (n := 5) (sz := 7) (vs := [_, _, _, _, _]) (zs := [_, _, _, _, _, _, _, _, _, _, _, _, _, _, _, _, _, _, _, _, _, _, _, _, _, _, _, _, _, _, _, _, _, _, _]) (r := [uV ya, uV yb, uV yc, uV yd, KA ybits.length ypb, KA yitems.length ypi, .int .i64 ypick, uV nonce, uV 0, uV 0, uV 0, .slice none 0 0, .slice none 0 0, .int .i64 0, uV ba, uV bb, uV bc, uV bd, .slice none 0 0, .slice none 0 0, .int .i64 0, uV za, uV zb, uV zc, uV zd, KA zbits.length zpb, KA zitems.length zpi, .int .i64 zpick, uV 0, uV 0, uV 0, uV 0, .slice none 0 0, KA us.length (KY rw2), .int .i64 0]) O O O O O O O O O O O O O mj O fun rb => ?_
 refine Jm (k := 17) O O O O O (fun _ hS => (Ju (r := [_, _, _, _, _, _, _]) O O)) ?_
 refine Qh (k := 18) (dv := [_]) (n := 1) (sz := 7) (vs := [_]) (zs := [_, _, _, _, _, _, _]) (r := [.int .u64 0, .int .u64 0, .int .u64 0, .int .u64 0, .slice none 0 0, .slice (some ⟨rb, 0, none⟩) 5 5, .int .i64 0]) O O O O O O O O O O O O O mj O fun rc => ?_
 refine Ka ?_
 revert rb rc
 exact zq.1) : p := k ⟨h⟩
theorem Nz (h : p := by
 refine pT O O O fun w1 hs1 => ?_
 exact No) : p := h
theorem NA (h : q) (k : Bx q → p := by
 intro zq
 refine Nl fun w1 hs1 => ?_
 refine ⟨?_, hs1.keep⟩
 revert w1 hs1
 exact zq.1) : p := k ⟨h⟩
theorem NB (h : q) (k : Bx q → p := by
 intro zq
 refine Nj fun r1 => ?_
 refine LN O fun r2 => ?_
 revert r1 r2
 exact zq.1) : p := k ⟨h⟩
theorem NC (h : q) (k : Bx q → p := by
 intro zq
 refine Jm (k := 0) O O O O O (fun _ hS => (J6 O O O)) ?_
 refine Jm (k := 1) O O O O O (fun _ hS => (Je O (.inl (hS _ (J3 (n := 0) O))) O O)) ?_
 refine Jm (k := 2) O O O O O (fun _ hS => (J6 O O O)) ?_
 refine Jm (k := 3) O O O O O (fun _ hS => (Je O (.inl (hS _ (J3 (n := 1) O))) O O)) ?_
 refine Jm (k := 5) O O O O O (fun _ hS => (J6 O O O)) ?_
 refine Jm (k := 6) O O O O O (fun _ hS => (Je O (.inl (hS _ (J3 (n := 1) O))) O O)) ?_
 exact zq.1) : p := k ⟨h⟩
theorem ND (h : q) (k : Bx q → p := by
 intro zq
 refine LR O (Jy O hs O) ?_
 exact zq.1) : p := k ⟨h⟩
theorem NE (h : p := by exact Jo (i + 1) m5 m5 (lK rfl) (List.Sublist.refl _) (fun _ _ h => h)) : p := h
theorem NF (h : p := by
 refine yP O O O O Ji3 hkc ?_
 refine VX (n := 1) (sz := 1) (vs := [_]) (zs := [_]) (r := [J5 sv]) O O O O O O O O O O mg O (fun p hp => List.mem_singleton.1 hp ▸ List.mem_cons_self) fun rv => ?_
 refine yO ?_
 refine JA (L0 := [_, _]) (xs := xs) (row := row3) (n := n) (sz := 1) (b := 16) (news := [J5 sv]) (List.perm_append_comm (l₁ := [_, _])) O O O O (kn 0 O) O O O O O m7 O O O m7 hr3 m5 m5 fun ra cap sp hra => ?_
 refine Ko (k := 2) (cs' := #[J9 (n + 1) (some (ra, cap, sp))]) O O O O O O O O O O ?_
 refine J1 2 O ?_
 refine KU [2, 0] (L' := [_, _]) m7 O ?_
 exact Qa (n + 1, xs ++ [J5 sv], some (ra, cap, sp)) ⟨by omega, by simp only; omega, by simp only; rw [vJ ls2 hii, ← hsv, hxs]; unfold V1; rw [List.map_append]; rfl, by rw [← hn]; exact hra⟩ O) : p := h
theorem NG (h : p := by
 refine Jt 4 O ?_
 refine LR O (Jk (j := k) O hso O O O me m5) ?_
 refine LR O (Kl AcL.len (fun q hq => Or.inl (List.mem_append_right _ hq)) O hso hy O O) ?_
 refine J0 (n := 1) (sz := 8) (vs := [_]) (zs := [_, _, _, _, _, _, _, _]) (r := y.cells) O O O O O O O O O mj O fun rv => ?_
 refine JA (L0 := (rv, _) :: JE 48 (KV out) row) (xs := xs) (row := row2) (n := m) (sz := 8) (b := 96) (news := y.cells) List.perm_middle.symm O O O O (kn 0 O) O O O O O m7 O O O m7 ho.ok m5 m5 fun ra cap sp hra => ?_
 refine JH 7 O ?_
 refine Nk ?_
 exact Jo (k + 1, pt, acc ++ [y], m + 1, xs ++ y.cells, some (ra, cap, sp)) ⟨by simp only; omega, hinv1, ho.snoc hra, by simp only; omega⟩ mh (lK rfl) (.cons₂ _ (.cons _ (List.Sublist.refl _))) (fun _ _ h => h)) : p := h
theorem NH (h : q) (k : Bx q → p := by
 intro zq
 refine JJ ?_
 refine Jt 2 O ?_
 exact zq.1) : p := k ⟨h⟩
theorem NI (h : q) (k : Bx q → p := by
 intro zq
 refine JH 5 O ?_
 refine LR O (Jz (vs := [_, _, _, _, _, _, _]) O (kn 0 O) O O O O) ?_
 exact zq.1) : p := k ⟨h⟩
theorem NJ (h : q) (k : Bx q → p := by
 intro zq
 refine Jm (k := 1) O O O O O (fun _ hS => (J6 O O O)) ?_
 refine JY (k := 2) O O O O O (Je O (kn 0 O) O O) ?_
 exact zq.1) : p := k ⟨h⟩
theorem NK (h : q) (k : Bx q → p := by
 intro zq
 refine JK 7 m6 m6 ?_
 refine Nm ?_
 refine Ja O O O (J6 O O O) ?_
 refine Ja O O O (Je O (JF (k := 1) O) O O) ?_
 refine Nm ?_
 refine Ja O O O (Jk (j := W1 k pick i) O hst O O O mu (hx i hil)) ?_
 refine Ja O O O (KC oR O hst hty.1 O O) ?_
 refine Ja O O O (Jd (xs := (X0 items i).cells) (n := 7) O (kn 0 O) O O (X0 items i).len) ?_
 exact zq.1) : p := k ⟨h⟩
theorem NL (h : p := by
 refine Nt fun w1 hs1 => ?_
 have hiM : i = s.length := by omega
 rw [hiM, List.take_length] at hrow hs1
 have hrow2 : rowOk 7 (s.map Zt).length (Ql (s.map Zt)) row := by rw [List.length_map]; exact hrow
 have hvr : J9 i row = KA (s.map Zt).length (KY row) := by rw [hiM, List.length_map]; exact (QG _ _ (fun h => by rw [h] at hrow; exact hrow.1)).symm
 exact ⟨⟨.mk 0 0 0 0 [] none (s.map Zt) (KY row) 0, JE 89 (Ql (s.map Zt)) row ++ [], qW N3 (JQ hrow2 m7) (fun x hx => by obtain ⟨b, _, rfl⟩ := List.mem_map.1 hx; exact Jtq b) i0, Jtr s _⟩, congrArg (fun z => Ending.returned (Value.agg #[.int .u64 0, .int .u64 0, .int .u64 0, .int .u64 0, .slice none 0 0, z, .int .i64 0])) hvr, hs1.weakL (.cons _ (.cons _ MJ))⟩) : p := h
theorem NM (h : q) (k : Bx q → p := by
 intro zq
 refine JC 1 O ?_
 refine JI [] [(3, .pure), (5, .pure), (6, .pure), (7, .pure), (8, .pure)] 9 [0, 1, 3, 4, 5, 6, 2, 7, 8] m6 m6 m8 ?_
 refine JY (k := 0) O O O O O (Jd (xs := (Ty.mk k (N : Int) p ins).cells) (n := 3) O (kn 1 O) O O (Ty.mk k (N : Int) p ins).len) ?_
 refine JY (k := 1) O O O O O (Jd (xs := (Vl.mk a b c d bits pb items pi pick).cells) (n := 7) O (kn 0 O) O O (Vl.mk a b c d bits pb items pi pick).len) ?_
 refine Jm (k := 3) O O O O O (fun _ hS => (J6 O O O)) ?_
 refine JY (k := 4) O O O O O (Je O (kn 0 O) O O) ?_
 refine Jm (k := 5) O O O O O (fun _ hS => (Jy O hs O)) ?_
 refine Jm (k := 6) O O O O O (fun _ _ => (J2 O O O)) ?_
 exact zq.1) : p := k ⟨h⟩
theorem NN (h : q) (k : Bx q → p := by
 intro zq
 refine ZM [(r3, .cells #[J9 n row] 36 (0, 0))] [(0, .pure), (1, .pure), (2, .pure), (4, .pure), (5, .pure), (7, .act (yQ (slV 1) (.cells y.cells.toArray 48 (0, 0))))] 8 m6 m6 (fun p hp => List.mem_singleton.1 hp ▸ List.mem_cons_self) ?_
 refine WU O O O O (fun _ hS => (J6 O O O)) ?_
 refine WU O O O O (fun _ hS => (Je O (.inl (hS _ (J3 (n := 0) O))) O O)) ?_
 refine WU O O O O (fun _ hS => (J6 O O O)) ?_
 refine Jnz O O O O (Je (v := KA s.accts.length s.p) O (kn 1 O) O O) ?_
 refine WU O O O O (fun _ hS => (Jg O)) ?_
 refine WU O O O O (fun _ hS => (Jk (j := i) O hseg O O O me m5)) ?_
 refine Jnz O O O O (Kl AcL.len oR O hseg hy O O) ?_
 exact zq.1) : p := k ⟨h⟩
theorem NO (h : q) (k : Bx q → p := by
 intro zq
 refine JC 6 O ?_
 exact zq.1) : p := k ⟨h⟩
theorem NP (h : q) (k : Bx q → p := by
 intro zq
 refine Ja O O O (J8 O) ?_
 refine JS ?_
 exact zq.1) : p := k ⟨h⟩
theorem NR (h : q) (k : Bx q → p := by
 intro zq
 refine Jf O O (.cons (Js (vs := [_]) O (kn 0 O) O O) (.cons (Jh O) .nil)) (fun w1 hs1 => ?_)
 revert w1 hs1
 exact zq.1) : p := k ⟨h⟩
theorem NQ (h : q) (k : Bx q → p := by
 intro zq
 refine LT 0 O O ?_
 exact zq.1) : p := k ⟨h⟩
theorem NS (h : q) (k : Bx q → p := by
 intro zq
 first | refine LR O (J6 O O O) ?_ | refine LK O ?_
 exact zq.1) : p := k ⟨h⟩
theorem NT (h : q) (k : Bx q → p := by
 intro zq
 refine JZ (k := 3) O O O O O Jf8 (Yd (s := PB) m5) (fun q hq => by first | exact .inr hq | cases hq) fun x => ?_
 refine JW (k := 8) O O O O O zA (Zp (hnb m5) Mj (JQ x.2 m7) (VL _)) (fun q hq => .inl (List.mem_append_left _ hq)) ?_
 revert x
 exact zq.1) : p := k ⟨h⟩
theorem NU (h : p := by
 refine J1 4 O ?_
 exact Nz) : p := h
theorem NV (h : q) (k : Bx q → p := by
 intro zq
 refine JI [(r2, .cells #[.int .u64 0, .int .u64 0, .int .u64 0, .int .u64 0, .slice none 0 0, J9 i row, .int .i64 0] 89 (0, 0))] [(0, .pure), (1, .pure), (2, .pure), (3, .pure), (4, .pure), (5, .pure), (6, .pure), (7, .pure), (8, .grow (Vu (slV 1) (.cells #[uV (s.getD i 0).toNat, uV 0, uV 0, uV 0, .slice none 0 0, .slice none 0 0, .int .i64 0] 89 (0, 0))))] 9 [0, 1, 2, 3, 4, 5, 6, 7, 8] m6 m6 m8 ?_
 refine Jm (k := 0) O O O O O (fun _ hS => (J6 O O O)) ?_
 refine Jm (k := 1) O O O O O (fun _ hS => (Je O (.inl (hS _ (J3 (n := 0) O))) O O)) ?_
 refine Jm (k := 2) O O O O O (fun _ hS => (Jg O)) ?_
 refine Jm (k := 3) O O O O O (fun _ hS => (Jg O)) ?_
 refine Jm (k := 4) O O O O O (fun _ _ => Y5 (j := i) O O O O m5 O) ?_
 refine Jm (k := 5) O O O O O (fun _ _ => (J2 O O O)) ?_
 refine Qt nr ?_
 exact zq.1) : p := k ⟨h⟩
theorem NW (h : q) (k : Bx q → p := by
 intro zq
 refine pT O O O fun w1 hs1 => ?_
 revert w1 hs1
 exact zq.1) : p := k ⟨h⟩
theorem NX (h : q) (k : Bx q → p := by
 intro zq
 refine Jq mb ?_
 refine J1 2 O ?_
 refine Jr ?_
 exact zq.1) : p := k ⟨h⟩
theorem NY (h : p := by
 obtain ⟨sv, hsv⟩ : ∃ x, x = WN (ls2.getD (2 * i) [] ++ ls2.getD (2 * i + 1) []) := ⟨_, rfl⟩
 rw [← hsv] at hkc
 refine ZM [(r1, .cells #[J9 n row3] 184 (0, 0))] [(0, .pure), (1, .pure), (2, .pure), (3, .pure), (4, .pure), (5, .act (yQ (slV 1) (.cells #[J5 sv] 9 (0, 0))))] 6 m6 m6 (fun p hp => List.mem_singleton.1 hp ▸ List.mem_cons_self) ?_
 refine WU O O O O (fun _ hS => (Je O (.inl (hS _ (J3 (n := 0) O))) O O)) ?_
 refine WU O O O O (fun _ hS => (Jg O)) ?_
 refine WU O O O O (fun _ hS => (Jg O)) ?_
 refine WU O O O O (fun _ hS => (KB (a := ls2.getD (2 * i) []) (b := ls2.getD (2 * i + 1) []) O O m5)) ?_
 exact NF) : p := h
theorem NZ (h : q) (k : Bx q → p := by
 intro zq
 refine XH (k := 0) O O O O O Jf9 qL fun mr => ?_
 refine JY (k := 3) O O O O O (XO (Yg (t := 3) m6) O O (kn 0 O) O O ⟨_, rfl⟩ ZW (ju hkk)) ?_
 refine Jm (k := 4) O O O O O (fun _ hS => (J2 O O O)) ?_
 revert mr
 exact zq.1) : p := k ⟨h⟩
theorem k5 (h : q) (k : Bx q → p := by
 intro zq
 refine Nm ?_
 refine Nm ?_
 exact zq.1) : p := k ⟨h⟩
theorem k6 (h : q) (k : Bx q → p := by
 intro zq
 refine Jm (k := 7) O O O O O (fun _ _ => qo (n := i % 8) (b := ((2 ^ (i % 8) : Nat) : Int)) O O O MT (Jdh m5)) ?_
 refine Jm (k := 8) O O O O O (fun _ _ => Jch (op := .or) (m := (Y.getD (i / 8) 0).toNat) (n := 2 ^ (i % 8)) O O O (Xl _) (Nat.pow_lt_pow_right m7 m5 : 2 ^ (i % 8) < 2 ^ 8) O) ?_
 refine Qt (Jl7 _ m5) ?_
 refine Jm (k := 9) O O O O O (fun _ _ => JO (j := (i / 8)) (m := 1) (off' := (i / 8)) O O O O m5 m5 m5) ?_
 refine Y7 (k := 10) (q := 0) (cs' := ((KJ l N (i + 1)).map bV).toArray) O O O O O O O O nU (by rw [Ja4, hst1]) rfl (fun _ h => nomatch h) ?_
 refine Ka ?_
 refine JH 5 O ?_
 exact zq.1) : p := k ⟨h⟩
theorem k8 (h : q) (k : Bx q → p := by
 intro zq
 refine LR O (Ju (r := [_, _, _]) O O) ?_
 exact zq.1) : p := k ⟨h⟩
theorem kc (h : q) (k : Bx q → p := by
 intro zq
 refine Jm (k := 0) O O O O O (fun _ hS => (Je O (JF (k := 0) O) O O)) ?_
 refine Jm (k := 1) O O O O O (fun _ hS => (Je O (JF (k := 0) O) O O)) ?_
 refine Jm (k := 2) O O O O O (fun _ hS => (J2 O O O)) ?_
 refine Jm (k := 3) O O O O O (fun _ hS => (J6 O O O)) ?_
 exact zq.1) : p := k ⟨h⟩
theorem kd (h : p := by
 refine Jt 6 O ?_
 refine Nk ?_
 exact Jo (i + 1, pt, acc, n, xs, row) ⟨by simp only; omega, by rw [hinv1, if_pos m9]; simp, ho, by simp only; omega⟩ mh (lK rfl) (List.Sublist.refl _) (fun _ _ h => h)) : p := h
theorem ke (h : q) (k : Bx q → p := by
 intro zq
 refine Jm (k := 4) O O O O O (fun E' hS => Jk (j := pick.toNat) O hst O O O m5 m5) ?_
 refine JY (k := 5) O O O O O (KC oR O hst hty8.1 O O) ?_
 refine Jm (k := 6) O O O O O (fun _ hS => (J6 O O O)) ?_
 refine JY (k := 7) O O O O O (Je O (kn 0 O) O O) ?_
 refine Jm (k := 8) O O O O O (fun E' hS => Jk (j := 0) O hs O O O me m5) ?_
 refine JY (k := 9) O O O O O (QV oR O hs hx8.1 O O) ?_
 refine Jm (k := 11) O O O O O (fun _ hS => (J6 O O O)) ?_
 refine JY (k := 12) O O O O O (Je O (kn 0 O) O O) ?_
 exact zq.1) : p := k ⟨h⟩
theorem kg (h : q) (k : Bx q → p := by
 intro zq
 refine Jm (k := 9) O O O O O (fun _ hS => (J6 O O O)) ?_
 refine Jm (k := 10) O O O O O (fun _ hS => (Jz (vs := [_, _, _, _]) O (.inl (hS _ (J3 (n := 1) O))) O O O O)) ?_
 refine Jm (k := 11) O O O O O (fun _ hS => (Ju (r := [_, _, _, _, _, _, _]) O O)) ?_
 refine Jm (k := 12) O O O O O (fun _ hS => (J6 O O O)) ?_
 refine Jm (k := 13) O O O O O (fun _ hS => (Je O (.inl (hS _ (J3 (n := 1) O))) O O)) ?_
 refine Jm (k := 15) O O O O O (fun _ hS => (Jz (vs := [_, _, _, _, _, _, _]) O (.inl (hS _ (J3 (n := 2) O))) O O O O)) ?_
 exact zq.1) : p := k ⟨h⟩
theorem ki (h : q) (k : Bx q → p := by
 intro zq
 refine JN 3 O ?_
 exact zq.1) : p := k ⟨h⟩
theorem kj (h : q) (k : Bx q → p := by
 intro zq
 refine J0 (vs := [_]) (zs := [_]) (r := [_]) O O O O O O O O O mg O fun r1 => ?_
 revert r1
 exact zq.1) : p := k ⟨h⟩
theorem ko (h : q) (k : Bx q → p := by
 intro zq
 refine LS 2 [] O O ?_
 exact zq.1) : p := k ⟨h⟩
theorem kp (h : q) (k : Bx q → p := by
 intro zq
 refine LW 2 [] O O (J1 1 O (XC 1 O ?_))
 exact zq.1) : p := k ⟨h⟩
theorem kq (h : q) (k : Bx q → p := by
 intro zq
 refine Jm (k := 4) O O O O O (fun _ hS => (Jg O)) ?_
 refine Jm (k := 5) O O O O O (fun _ hS => (Kh O O)) ?_
 refine Jm (k := 6) O O O O O (fun _ hS => (Kh O O)) ?_
 exact zq.1) : p := k ⟨h⟩
theorem kr (h : q) (k : Bx q → p := by
 intro zq
 refine LR O (JO (j := i / 8) (m := 1) (off' := i / 8) O O O O m5 m5 m5) ?_
 refine LR O (Je O (kn 0 O) O (Ym (xs := Y.map bV) (v := bV (Y.getD (i / 8) 0)) (Xt m5))) ?_
 refine JH 2 O ?_
 refine Jq mw ?_
 refine QN O (Jq M7 (LR O (qo (n := i % 8) (b := ((2 ^ (i % 8) : Nat) : Int)) O O O MT (Jdh m5)) ?_))
 refine QN O (Jq Mg (LR O (JO (j := i / 8) (m := 1) (off' := i / 8) O O O O m5 m5 m5) ?_))
 refine Ko (k := 0) (cs' := ((Wh l N (i + 1)).map bV ++ sp2).toArray) O O O O O O nU O (by rw [YH m5, hst1]) rfl ?_
 refine JH 6 O ?_
 exact zq.1) : p := k ⟨h⟩
theorem ku (h : p := by exact Jo (i + 1, vs ++ [.mk 0 0 0 0 [] none [(.mk ya yb yc yd ybits ypb yitems ypi ypick), (.mk nonce 0 0 0 [] none [] none 0), (.mk ba bb bc bd [] none [] none 0), (.mk za zb zc zd zbits zpb zitems zpi zpick), .mk 0 0 0 0 [] none us (KY rw2) 0] (some (⟨rb, 0, none⟩, 5)) 0], some (ra, cap, sp), _ :: (zL ++ (yL ++ (_ ++ (F ++ E))))) ⟨by simp only; omega, by simp only; rw [← hvc]; exact hra, fun z hz => Jt5 hin (JQ hrow2 m7) hul hb3 hin2 hnu hba yok zok hz, Jt6 her ha yer zer her2⟩ mh (lK rfl) M9 (fun _ _ h => h)) : p := h
theorem kD (h : q) (k : Bx q → p := by
 intro zq
 refine LR O (Ju (r := [_, _, _, _]) O O) ?_
 exact zq.1) : p := k ⟨h⟩
theorem kw (h : q) (k : Bx q → p := by
 intro zq
 rw [← hY]
 refine JI [] [(0, .pure), (1, .pure), (2, .pure), (3, .pure), (4, .pure), (5, .pure), (6, .pure), (8, .pure), (9, .pure), (10, .pure), (12, .pure), (13, .turn), (14, .pure), (15, .turn)] 16 [0, 1, 2, 3, 4, 5, 6, 7, 8, 9, 10, 11, 12, 13, 14, 15] m6 m6 m8 ?_
 refine Jm (k := 0) O O O O O (fun _ hS => (Jg O)) ?_
 refine Jm (k := 1) O O O O O (fun _ hS => (Jg O)) ?_
 refine Jm (k := 2) O O O O O (fun _ hS => (Jg O)) ?_
 refine Jm (k := 3) O O O O O (fun _ hS => (Jg O)) ?_
 refine Jm (k := 4) O O O O O (fun _ hS => (Jg O)) ?_
 refine Jm (k := 5) O O O O O (fun _ hS => (Jg O)) ?_
 exact zq.1) : p := k ⟨h⟩
theorem kz (h : q) (k : Bx q → p := by
 intro zq
 refine Va (k := 3) (n := 1) (sz := 1) (vs := [_]) (zs := [_]) (r := [bV (UInt8.ofNat pick.toNat)]) O O O O O O O O O O O mg O fun rv => ?_
 refine JY (k := 4) O O O O O (Kw (b := [UInt8.ofNat pick.toNat]) (row := some (rv, 1, [])) (e := 5) O ⟨rfl, rfl⟩ (fun p hp => .inl mz) O O O) ?_
 refine Jm (k := 16) O O O O O (fun _ hS => (KB (a := [UInt8.ofNat pick.toNat]) (b := Vj (X0 items 0) (JT k pick ins 0)) O O MR)) ?_
 refine Jm (k := 17) O O O O O (fun _ hS => (J8 O)) ?_
 refine Ka ?_
 refine J1 5 O ?_
 refine Ni fun w1 hs1 => ?_
 rw [Vf, if_neg m9, if_neg m9, if_neg m9, if_neg m9, if_pos m9, Jmc h81]
 revert rv w1 hs1
 exact zq.1) : p := k ⟨h⟩
theorem kA (h : q) (k : Bx q → p := by
 intro zq
 refine JI [] [(0, .pure), (3, .grow (KD (jd (Wo PB)) (fun x => rV x) (fun x => rL x))), (4, .pure), (6, .pure), (7, .pure), (9, .pure), (11, .pure), (12, .pure), (13, .pure), (14, .pure)] 15 [0, 1, 2, 4, 5, 6, 7, 9, 10, 11, 12, 3, 8, 13, 14] m6 m6 m8 ?_
 refine Nq ?_
 refine Qt mm ?_
 refine Jm (k := 9) O O O O O (fun _ hS => (J6 O O O)) ?_
 refine JY (k := 10) O O O O O (Je O (kn 0 O) O O) ?_
 refine Jm (k := 11) O O O O O (fun _ hS => (Jy O hsb O)) ?_
 refine Jm (k := 12) O O O O O (fun _ _ => (J2 O O O)) ?_
 refine Qt M0 ?_
 exact zq.1) : p := k ⟨h⟩
theorem kB (h : q) (k : Bx q → p := by
 intro zq
 refine JI [] [(0, .pure), (2, .pure), (4, .pure), (6, .pure), (8, .pure), (11, .pure), (13, .pure), (14, .pure), (15, .pure)] 16 [0, 1, 2, 3, 4, 5, 6, 7, 8, 9, 11, 12, 13, 10, 14, 15] m6 m6 m8 ?_
 refine Jm (k := 0) O O O O O (fun _ hS => (J6 O O O)) ?_
 refine JY (k := 1) O O O O O (Je O (kn 1 O) O O) ?_
 refine Jm (k := 2) O O O O O (fun _ hS => (J6 O O O)) ?_
 refine JY (k := 3) O O O O O (Je O (kn 0 O) O O) ?_
 refine ke ?_
 refine Jm (k := 13) O O O O O (fun _ _ => (J2 O O O)) ?_
 refine Qt nJ ?_
 exact zq.1) : p := k ⟨h⟩
theorem kC (h : p := by
 refine Ja O O O (J8 O) ?_
 refine NP ?_
 refine JH 6 O ?_
 refine Jq mJ ?_
 refine J1 2 O ?_
 refine Jr ?_
 refine wW (List.Perm.cons _ (QX (_ :: JE 9 (V1 (SL.pairUp ls2)) row3) (Xz Ds) _)) ?_
 exact Jau (k + 1, SL.pairUp ls2, row3, z2, D :: Ds) O ⟨hk, hr3, by rw [show lg m - (k + 1) = K by omega]; exact heq, by rw [show lg m - (k + 1) = K by omega]; simp only; omega, Zl ls2, by rw [hz2]; exact jo _⟩ mh (lK O) (.cons_cons _ ((List.Sublist.refl _).append (.cons _ (List.sublist_append_left _ _)))) (fun _ _ h => h)) : p := h
theorem kE (h : q) (k : Bx q → p := by
 intro zq
 refine Jt 2 O ?_
 exact zq.1) : p := k ⟨h⟩
theorem kF (h : q) (k : Bx q → p := by
 intro zq
 refine LR O (Kc O O) ?_
 exact zq.1) : p := k ⟨h⟩
theorem kG (h : q) (k : Bx q → p := by
 intro zq
 refine LR O (Jk (j := i) O hseg O O O me m5) ?_
 exact zq.1) : p := k ⟨h⟩
theorem kH (h : q) (k : Bx q → p := by
 intro zq
 refine LR O (Jd (xs := (JT k 0 ins i).cells) (n := 3) O (kn 0 O) O O (JT k 0 ins i).len) ?_
 exact zq.1) : p := k ⟨h⟩
theorem k9 (h : q) (k : Bx q → p := by
 intro zq
 refine Ja O O O (JD (j := 0) O O O O O my ma) ?_
 refine Ja O O O (Je O (kn 0 O) O O) ?_
 exact zq.1) : p := k ⟨h⟩
theorem kI (h : p := by exact Jo (i + 1) m5 m5 (lK rfl) (List.nil_sublist _) (fun _ _ h => h)) : p := h
theorem kJ (h : q) (k : Bx q → p := by
 intro zq
 refine LR O (JU O O) ?_
 exact zq.1) : p := k ⟨h⟩
theorem kK (h : p := by
 change HC _ _ ((_, _) :: (_, _) :: _) [(rr, .cells (Y.map bV ++ sp2).toArray 5 (0, 0))] _ _ _
 refine Jt 4 O ?_
 refine Jq mo ?_
 refine JH 3 O ?_
 refine Jq mo ?_
 refine kr ?_
 refine NX ?_
 exact Jo (i + 1, some (rr, cap2, sp2)) ⟨by simp only; omega, by simp only; rw [hst1, show (i + 1 + 7) / 8 = i / 8 + 1 by omega]; exact ⟨by rw [List.length_map, List.length_set]; omega, hra.2⟩⟩ mh (.cons rfl (.cons ng (.cons rfl .nil))) (List.Sublist.refl _) (fun _ _ h => h)) : p := h
theorem kM (h : q) (k : Bx q → p := by
 intro zq
 refine LR O (Jd (xs := a.cells) (n := 8) O (kn 1 O) O O O) ?_
 refine J0 (n := 1) (sz := 8) (vs := [_]) (zs := [_, _, _, _, _, _, _, _]) (r := a.cells) O O O O O O O O O mj O fun rv => ?_
 refine LR O (Ju (r := [_]) O O) ?_
 refine Ji (v := .int .i64 (KP (StL.er ⟨[a], some (⟨rv, 0, none⟩, 1)⟩))) O O O Joj (YO (vV ha rv)) (fun q hq => (List.mem_cons.1 hq).imp (fun h => by rw [h]; exact List.mem_cons_self) id) ?_
 refine Jq (congrArg (Value.int .i64) (chk_one a.er)) ?_
 refine JN 10 O ?_
 revert rv
 exact zq.1) : p := k ⟨h⟩
theorem kL (h : q) (k : Bx q → p := by
 intro zq
 refine JH 5 O ?_
 exact zq.1) : p := k ⟨h⟩
theorem kN (h : q) (k : Bx q → p := by
 intro zq
 refine LR O (Jd (xs := g.cells) (n := 20) O (kn 0 O) O O O) ?_
 exact zq.1) : p := k ⟨h⟩
theorem kP (h : q) (k : Bx q → p := by
 intro zq
 refine JN 4 O ?_
 refine JI [] [(1, .pure), (4, .pure), (6, .pure), (7, .pure), (8, .pure)] 9 [0, 1, 2, 4, 5, 6, 3, 7, 8] m6 m6 m8 ?_
 refine JY (k := 0) O O O O O (Jd (xs := (Ty.mk k n p ins).cells) (n := 3) O (kn 1 O) O O (Ty.mk k n p ins).len) ?_
 refine NJ ?_
 refine Jm (k := 4) O O O O O (fun _ hS => (J6 O O O)) ?_
 refine JY (k := 5) O O O O O (Je O (kn 0 O) O O) ?_
 refine Jm (k := 6) O O O O O (fun _ hS => (Jy O hs O)) ?_
 exact zq.1) : p := k ⟨h⟩
theorem kQ (h : q) (k : Bx q → p := by
 intro zq
 refine Jm (k := 1) O O O O O (fun _ hS => (J6 O O O)) ?_
 refine JY (k := 2) O O O O O (Je O (kn 2 O) O O) ?_
 refine JY (k := 5) O O O O O (Jz (vs := [_, _, _]) O (kn 2 O) O O O O) ?_
 refine JY (k := 6) O O O O O (Jz (vs := [_, _, _, _, _, _, _]) O (kn 1 O) O O O O) ?_
 refine NZ fun mr => ?_
 refine Qt (Jlw hkk) ?_
 refine JW (k := 7) O O O O O hO.1 hO.2 oR ?_
 refine Jm (k := 8) O O O O O (fun _ hS => (J2 O O O)) ?_
 revert mr
 exact zq.1) : p := k ⟨h⟩
theorem kR (h : q) (k : Bx q → p := by
 intro zq
 first | refine Ja O O O (Jg O) ?_ | refine JG O O O ?_
 first | (refine Ja O O O (Jk (j := i) O hseg O O O me m5) ?_) | refine JG O O O ?_
 exact zq.1) : p := k ⟨h⟩
theorem kS (h : q) (k : Bx q → p := by
 intro zq
 refine Ja O O O (Je (v := KA s.accts.length s.p) O (kn 1 O) O O) ?_
 refine Nm ?_
 refine Ja O O O (Jk (j := i) O hseg O O O me m5) ?_
 refine Ja O O O (JV (off' := Xe s.p + (i * 8 + 0)) O O nT) ?_
 refine Ja O O O (Qc AcL.len (k := 0) (v := J5 y.addr) oR O hseg hy O O) ?_
 refine Ja O O O (J6 O O O) ?_
 refine Ja O O O (Je O (kn 2 O) O O) ?_
 refine Ja O O O (ji (a := y.addr) (b := a.addr) O O) ?_
 exact zq.1) : p := k ⟨h⟩
theorem kT (h : q) (k : Bx q → p := by
 intro zq
 refine LR O (Jk (j := i) O hs O O O me m5) ?_
 exact zq.1) : p := k ⟨h⟩
theorem kU (h : q) (k : Bx q → p := by
 intro zq
 refine Jm (k := 8) O O O O O (fun _ hS => (Jg O)) ?_
 refine Jm (k := 9) O O O O O (fun _ hS => (Jg O)) ?_
 refine Jm (k := 10) O O O O O (fun _ _ => JO (j := i) (m := 1) (off' := i) O O O O m5 m5 m5) ?_
 refine JY (k := 11) O O O O O (Je O (kn 0 O) O (Ym (xs := Y.map bV) (v := bV (Y.getD (i) 0)) (Xt m5))) ?_
 refine Jm (k := 12) O O O O O (fun _ _ => JO (j := i) (m := 1) (off' := i) O O O O m5 m5 m5) ?_
 exact zq.1) : p := k ⟨h⟩
theorem kV (h : q) (k : Bx q → p := by
 intro zq
 refine JJ ?_
 refine Jt 9 O ?_
 exact zq.1) : p := k ⟨h⟩
theorem kW (h : q) (k : Bx q → p := by
 intro zq
 refine Ja O O O (Jk (j := i) O hs O O O me m5) ?_
 exact zq.1) : p := k ⟨h⟩
theorem kX (h : q) (k : Bx q → p := by
 intro zq
 refine Vk (k := 12) (q := 0) (n := 8) (ys := x.a.cells) O O O O O O O O O O O (fun p hp => List.mem_cons_of_mem _ (List.mem_append_right _ (List.mem_cons_of_mem _ (List.mem_cons_of_mem _ (List.mem_cons_of_mem _ (List.mem_cons_of_mem _ hp)))))) ?_
 refine Jm (k := 13) O O O O O (fun _ hS => (J8 O)) ?_
 refine Ka ?_
 refine JN 4 O ?_
 refine yr (List.Perm.cons _ (QX x.L [_, _, _, _] s.L)) ?_
 change HC _ _ _ ((_, .cells x.a.cells.toArray _ _) :: (ra, .cells s.a.cells.toArray _ _) :: (rr, _) :: (r1, _) :: (rk, _) :: (x.L ++ s.L)) _ _ _
 exact zq.1) : p := k ⟨h⟩
theorem kY (h : p := by
 refine JA (L0 := [_, _, _, _]) (xs := V1 (RS.take i)) (row := row) (n := i) (sz := 1) (b := 16) (news := [J5 sv]) (List.perm_append_comm (l₁ := [_, _, _, _])) O O O O (kn 0 O) O O O O O m7 O O O m7 hrow m5 m5 fun ra cap sp hra => ?_
 refine JH 6 O ?_
 refine NX ?_
 refine KU [4, 0] (L' := [_, _]) m7 O ?_
 exact Jo (i + 1, some (ra, cap, sp)) ⟨by simp only; omega, by simp only; rw [htki, Wf]; exact hra⟩ mh (lK O) Mc (fun _ _ h => h)) : p := h
theorem kZ (h : q) (k : Bx q → p := by
 intro zq
 refine kE ?_
 refine JX (cs := (a.map uV).toArray) O O O O fun r1 => ?_
 refine KL (cs := (z25.map uV).toArray) O O O O fun r2 => ?_
 revert r1 r2
 exact zq.1) : p := k ⟨h⟩
theorem g8 (h : q) (k : Bx q → p := by
 intro zq
 refine LW 2 [] O O (J1 1 O (Xk 2 O ?_))
 refine Ni fun w1 hs1 => ?_
 revert w1 hs1
 exact zq.1) : p := k ⟨h⟩
theorem g9 (h : q) (k : Bx q → p := by
 intro zq
 refine JI [] [(1, .pure), (2, .pure), (4, .pure), (5, .pure), (6, .pure), (7, .grow (Vu vr (.cells #[.string ⟨#[]⟩, .int .u64 0, .int .u64 0, .int .u64 0, .int .u64 0, .int .u64 0, .string ⟨#[]⟩, .slice none 0 0] 48 (0, 0)))), (8, .turn), (9, .pure)] 10 [0, 1, 2, 3, 4, 5, 6, 7, 8, 9] m6 m6 m8 ?_
 refine JY (k := 0) O O O O O (Jd (xs := t.s.cells) (n := 1) O (kn 0 O) O O O) ?_
 refine Jm (k := 1) O O O O O (fun _ hS => (Jg O)) ?_
 exact zq.1) : p := k ⟨h⟩
theorem gc (h : q) (k : Bx q → p := by
 intro zq
 first | refine LR O (Kp O O) ?_ | refine LK O ?_
 exact zq.1) : p := k ⟨h⟩
theorem gg (h : q) (k : Bx q → p := by
 intro zq
 refine LR O (Jk (j := i) O hs O O O O m5) ?_
 refine LR O (KC oR O hs hy O O) ?_
 exact zq.1) : p := k ⟨h⟩
theorem gi (h : q) (k : Bx q → p := by
 intro zq
 first | refine Ja O O O (W3 O O) ?_ | refine Ja O O O (W5 O O) ?_
 exact zq.1) : p := k ⟨h⟩
theorem k7 (h : q) (k : Bx q → p := by
 intro zq
 refine Ja O O O (JD (j := i) (m := 1) (off' := i) O O O O m5 m5 m5) ?_
 exact zq.1) : p := k ⟨h⟩
theorem gk (h : q) (k : Bx q → p := by
 intro zq
 refine JC 5 O ?_
 exact zq.1) : p := k ⟨h⟩
theorem gm (h : q) (k : Bx q → p := by
 intro zq
 refine Jm (k := 9) O O O O O (fun _ hS => (J8 O)) ?_
 exact zq.1) : p := k ⟨h⟩
theorem gn (h : q) (k : Bx q → p := by
 intro zq
 refine Jt 5 O ?_
 exact zq.1) : p := k ⟨h⟩
theorem gp (h : q) (k : Bx q → p := by
 intro zq
 refine Qy 4 [0] O O ?_
 exact zq.1) : p := k ⟨h⟩
theorem gq (h : p := by
 refine k8 ?_
 refine J0 (vs := [_]) (zs := [_, _, _]) (r := [_, _, _]) O O O O O O O O O mj O fun r2 => ?_
 refine k8 ?_
 refine LT 1 O O ?_
 refine J1 3 O ?_
 refine Jf O O (.cons (Js (vs := [_, _, _]) O (kn 1 O) O O) .nil) (fun w1 hs1 => ?_)
 exact ⟨r2, rfl, hs1.weakL ((List.cons_sublist_cons).2 (List.nil_sublist _))⟩) : p := h
theorem gs (h : q) (k : Bx q → p := by
 intro zq
 refine Kk 4 O ?_
 refine KS O O .nil (fun w1 hs1 => ?_)
 revert w1 hs1
 exact zq.1) : p := k ⟨h⟩
theorem gt (h : q) (k : Bx q → p := by
 intro zq
 refine LR O (Kp O O) ?_
 exact zq.1) : p := k ⟨h⟩
theorem gu (h : p := by
 refine J1 4 O ?_
 refine NW fun w1 hs1 => ?_
 exact ⟨(r1, r2), rfl, hs1⟩) : p := h
theorem gw (h : q) (k : Bx q → p := by
 intro zq
 refine Jw (σ := Nat) (fun i => i ≤ xs.length ∧ ∀ j, j < i → ∀ y, xs[j]? = some y → pr y = false) (fun i => [(0, KA xs.length p), (1, .func (.func g) #[] caps.toArray), (7, .int .i64 (xs.length : Int)), (8, .int .i64 (i : Int))]) (fun _ => []) (fun _ _ _ => True) (fun i => xs.length - i) 0 ⟨by omega, fun j hj => absurd hj m5⟩ (lK rfl) (List.nil_sublist _) (fun _ _ h => h) ?_
 exact zq.1) : p := k ⟨h⟩
theorem gx (h : q) (k : Bx q → p := by
 intro zq
 refine Jt 3 O ?_
 refine LR O (Jd (xs := (JT k pick ins i).cells) (n := 3) O (kn 1 O) O O (JT k pick ins i).len) ?_
 refine LR O (Jd (xs := (X0 items i).cells) (n := 7) O (kn 0 O) O O (X0 items i).len) ?_
 refine Ji O O O Jr1 (ih _ hix.2 (hi _ hix.2) _ (dp + 1) (hit _ hty.2) (hci _ hty.2)) (fun q hq => Or.inr (List.mem_append_right _ hq)) ?_
 refine JN 9 O ?_
 exact zq.1) : p := k ⟨h⟩
theorem gy (h : q) (k : Bx q → p := by
 intro zq
 refine J1 5 O ?_
 exact zq.1) : p := k ⟨h⟩
theorem gz (h : q) (k : Bx q → p := by
 intro zq
 refine KL (cs := #[.int .i64 0, .int .i64 0, .slice none 0 0]) O O O O fun r9 => ?_
 refine Jj (k := 0) (n := 3) (ys := (JT k 0 ins i).cells) O O O O O (JT k 0 ins i).len O (JT k 0 ins i).one O ?_
 revert r9
 exact zq.1) : p := k ⟨h⟩
theorem gA (h : q) (k : Bx q → p := by
 intro zq
 refine LR O (Jz (vs := [_, _, _, _, _, _, _, _]) O (kn 2 O) O O O O) ?_
 exact zq.1) : p := k ⟨h⟩
theorem gB (h : q) (k : Bx q → p := by
 intro zq
 refine LS 1 [] O O ?_
 refine Ko (k := 2) (cs' := #[J9 (n + 1) (some (rap, cap, sp))]) O O O O O O O O O O ?_
 exact zq.1) : p := k ⟨h⟩
theorem gC (h : q) (k : Bx q → p := by
 intro zq
 refine Jm (k := 2) O O O O O (fun _ hS => (J6 O O O)) ?_
 exact zq.1) : p := k ⟨h⟩
theorem gD (h : q) (k : Bx q → p := by
 intro zq
 refine NH ?_
 refine JX (cs := g.cells.toArray) O O O O fun r1 => ?_
 revert r1
 exact zq.1) : p := k ⟨h⟩
theorem gF (h : q) (k : Bx q → p := by
 intro zq
 refine LR O (Je O (JF (k := 0) O) O O) ?_
 exact zq.1) : p := k ⟨h⟩
theorem gG (h : q) (k : Bx q → p := by
 intro zq
 refine LW 4 [0] O O (J1 1 O (Xk 4 O ?_))
 refine Ni fun w1 hs1 => ?_
 unfold Km
 simp only [JB]
 revert w1 hs1
 exact zq.1) : p := k ⟨h⟩
theorem gH (h : p := by
 refine Jt 3 O ?_
 refine LR O (Jd (xs := x.a.cells) (n := 8) O (kn 0 O) O O O) ?_
 refine Jj (k := 1) (n := 8) (ys := (x.a).cells) O O O O O O O O O ?_
 refine JH 6 O ?_
 refine Nk ?_
 exact Jo (j + 1, s.next x) ⟨by simp only; omega, by rw [hinv, if_neg (by rw [hxe]; omega), hxa]; rfl⟩ mh (lK rfl) (List.sublist_cons_self _ _) (fun _ _ h => h)) : p := h
theorem gI (h : q) (k : Bx q → p := by
 intro zq
 refine JI [] [(0, .pure), (1, .pure), (2, .pure), (3, .pure), (5, .pure), (6, .pure), (7, .pure), (8, .pure), (9, .pure), (10, .turn)] 11 [0, 1, 2, 3, 4, 5, 6, 7, 8, 9, 10] m6 m6 m8 ?_
 refine Jm (k := 0) O O O O O (fun _ hS => (Jg O)) ?_
 refine Jm (k := 1) O O O O O (fun _ hS => (Jg O)) ?_
 refine Jm (k := 2) O O O O O (fun _ _ => (J2 O O O)) ?_
 exact zq.1) : p := k ⟨h⟩
theorem gJ (h : q) (k : Bx q → p := by
 intro zq
 refine kE ?_
 refine LR O (Jd (xs := s.cells) (n := 1) O (kn 2 O) O O O) ?_
 refine Q1 O (Jj (k := 0) (n := 1) (ys := s.cells) O O O O O O O O O (J1 5 O ?_))
 exact zq.1) : p := k ⟨h⟩
theorem gK (h : q) (k : Bx q → p := by
 intro zq
 refine LW 3 [] O O (J1 1 O (Xk 2 O ?_))
 exact zq.1) : p := k ⟨h⟩
theorem gL (h : p := by
 obtain ⟨z2, hz2⟩ : ∃ x, x = WN (z ++ z) := ⟨_, rfl⟩
 rw [← hz2] at hkz heq
 refine JK 7 m6 m6 ?_
 refine Ja O O O (Je (v := J9 (SL.pairUp ls2).length row3) O (kn 1 O) O O) ?_
 refine k5 ?_
 refine Ja O O O (KB (a := z) (b := z) O O m5) ?_
 refine KI O O O Ji3 hkz ?_
 exact kC) : p := h
theorem gM (h : q) (k : Bx q → p := by
 intro zq
 refine J1 4 O ?_
 exact zq.1) : p := k ⟨h⟩
theorem gN (h : q) (k : Bx q → p := by
 intro zq
 refine Jm (k := 3) O O O O O (fun _ _ => JO (j := (i / 8)) (m := 1) (off' := (i / 8)) O O O O m5 m5 m5) ?_
 refine JY (k := 4) O O O O O (Je O (kn 0 O) O (by rw [Xw]; exact Xt m5)) ?_
 refine Jm (k := 5) O O O O O (fun _ hS => (Jg O)) ?_
 refine Jm (k := 6) O O O O O (fun _ _ => (J2 O O O)) ?_
 exact zq.1) : p := k ⟨h⟩
theorem gO (h : q) (k : Bx q → p := by
 intro zq
 refine Nj fun r1 => ?_
 refine kL ?_
 refine Ns ?_
 revert r1
 exact zq.1) : p := k ⟨h⟩
theorem gP (h : q) (k : Bx q → p := by
 intro zq
 refine JI [] [(0, .pure), (2, .pure), (3, .grow (Vu (slV 1) (.cells #[bV (UInt8.ofNat pick.toNat)] 5 (0, 0)))), (5, .pure), (7, .pure), (9, .pure), (11, .pure), (13, .pure), (16, .pure), (17, .pure)] 18 [0, 1, 2, 5, 6, 7, 8, 9, 10, 11, 12, 13, 14, 15, 3, 4, 16, 17] m6 m6 m8 ?_
 refine Jm (k := 0) O O O O O (fun _ hS => (J6 O O O)) ?_
 exact zq.1) : p := k ⟨h⟩
theorem gQ (h : q) (k : Bx q → p := by
 intro zq
 refine NH ?_
 refine JX (cs := (a.map uV).toArray) O O O O fun r1 => ?_
 refine JX (cs := (b.map uV).toArray) O O O O fun r2 => ?_
 revert r1 r2
 exact zq.1) : p := k ⟨h⟩
theorem gr (h : q) (k : Bx q → p := by
 intro zq
 refine Nm ?_
 refine Nn ?_
 exact zq.1) : p := k ⟨h⟩
theorem gR (h : q) (k : Bx q → p := by
 intro zq
 refine Nv ?_
 refine JZ (k := 7) O O O O O (enters_of Tryz.func136 m6 O) (Jvb s.ok (WX (W0 j)) (Yi f r j).2) (fun q hq => List.mem_append.1 hq) fun x => ?_
 refine Jm (k := 8) O O O O O (fun _ hS => (Jg O)) ?_
 refine Jm (k := 9) O O O O O (fun _ hS => (Kh O O)) ?_
 refine Jm (k := 10) O O O O O (fun _ hS => (Kh O O)) ?_
 revert x
 exact zq.1) : p := k ⟨h⟩
theorem gS (h : q) (k : Bx q → p := by
 intro zq
 refine Jm (k := 8) O O O O O (fun _ hS => (J8 O)) ?_
 refine Ka ?_
 exact zq.1) : p := k ⟨h⟩
theorem gT (h : q) (k : Bx q → p := by
 intro zq
 rw [VQ _ n ins.length a b c d bits pb items pi pick _ rfl]
 exact zq.1) : p := k ⟨h⟩
theorem gU (h : p := by
 refine kJ ?_
 refine JH 10 O ?_
 refine LR O (Ju (r := [_, _, _, _, _]) O O) ?_
 refine NQ ?_
 refine J1 3 O ?_
 refine Jf O O (.cons (Js (vs := [_, _, _, _, _]) O (kn 0 O) O O) .nil) (fun w1 hs1 => ?_)
 exact ⟨(r1, r2), rfl, hs1.weakL (List.sublist_cons_self _ _)⟩) : p := h
theorem gV (h : q) (k : Bx q → p := by
 intro zq
 refine Jt 1 O ?_
 refine LR O (Jd (xs := x.s.cells) (n := 1) O (kn 0 O) O O O) ?_
 refine Ji O O O J1u (xu (R := x.L ++ R) x.ok (fun _ => hw)) (fun q hq => (List.mem_append.1 hq).elim (fun h => Or.inl (List.mem_cons_of_mem _ (List.mem_cons_of_mem _ h))) (fun hq => Or.inr hq)) ?_
 refine Jq (congrArg Wm hrt) ?_
 exact zq.1) : p := k ⟨h⟩
theorem gW (h : p := by
 refine JJ ?_
 refine Kk 14 O ?_
 exact Nz) : p := h
theorem gX (h : q) (k : Bx q → p := by
 intro zq
 refine gn ?_
 refine LR O (Jd (xs := (Ty.mk k (N : Int) p ins).cells) (n := 3) O (kn 1 O) O O (Ty.mk k (N : Int) p ins).len) ?_
 refine LR O (Jd (xs := (Vl.mk a b c d bits pb items pi pick).cells) (n := 7) O (kn 0 O) O O (Vl.mk a b c d bits pb items pi pick).len) ?_
 refine Ji O O O Jlf (hrw m5) oR ?_
 exact zq.1) : p := k ⟨h⟩
theorem gY (h : q) (k : Bx q → p := by
 intro zq
 refine JH 7 O ?_
 exact zq.1) : p := k ⟨h⟩
theorem gZ (h : q) (k : Bx q → p := by
 intro zq
 refine Jt 4 O ?_
 exact zq.1) : p := k ⟨h⟩
theorem G0 (h : q) (k : Bx q → p := by
 intro zq
 refine LW 2 [0] O O ?_
 first | (refine LR O (Jk (j := i) O hseg O O O me m5) ?_) | refine LK O ?_
 first | (refine LR O (JV (off' := Xe a.p + (i * 2 + 1)) O O MN) ?_) | refine LK O ?_
 first | refine LR O (Qc Ki (k := 1) (v := J5 x.2) oR O hseg hx O O) ?_ | refine LK O ?_
 refine gc ?_
 exact zq.1) : p := k ⟨h⟩
theorem G1 (h : q) (k : Bx q → p := by
 intro zq
 refine JY (k := 1) O O O O O (Jd (xs := (Vl.mk a b c d bits pb items pi pick).cells) (n := 7) O (kn 0 O) O O (Vl.mk a b c d bits pb items pi pick).len) ?_
 refine Jm (k := 3) O O O O O (fun _ hS => (J6 O O O)) ?_
 refine JY (k := 4) O O O O O (Je O (kn 1 O) O O) ?_
 exact zq.1) : p := k ⟨h⟩
theorem G3 (h : q) (k : Bx q → p := by
 intro zq
 refine Jm (k := 9) O O O O O (fun _ hS => (Je O (JF (k := 0) O) O O)) ?_
 refine Jm (k := 10) O O O O O (fun _ hS => (J2 O O O)) ?_
 refine Jm (k := 11) O O O O O (fun _ hS => (J6 O O O)) ?_
 refine Jm (k := 12) O O O O O (fun _ hS => (J6 O O O)) ?_
 exact zq.1) : p := k ⟨h⟩
theorem G5 (h : q) (k : Bx q → p := by
 intro zq
 refine Kk 11 O ?_
 refine Ni fun w1 hs1 => ?_
 revert w1 hs1
 exact zq.1) : p := k ⟨h⟩
theorem G6 (h : p := by
 obtain ⟨e1, e2, e3⟩ := ho1
 subst e1 e2
 refine Jt 3 O ?_
 refine Jq (QG _ _ e3.zero).symm ?_
 refine JH 6 O ?_
 refine Nk ?_
 exact Jo (i + 1, res, row2) ⟨by simp only; omega, by rw [hsrt, VY hx, j8, hres], by have := (YU x out).length_eq; rw [← hres] at this; simp only; rw [this, List.length_cons, hlen], e3⟩ mh (lK rfl) (List.Sublist.refl _) (fun _ _ h => h)) : p := h
theorem G7 (h : q) (k : Bx q → p := by
 intro zq
 refine Jm (k := 7) O O O O O (fun _ hS => (Ju (r := [_, _, _, _, _, _, _]) O O)) ?_
 refine Va (k := 8) (n := 1) (sz := 7) (vs := [_]) (zs := [_, _, _, _, _, _, _]) (r := [uV (s.getD i 0).toNat, uV 0, uV 0, uV 0, .slice none 0 0, .slice none 0 0, .int .i64 0]) O O O O O O O O O O O mj O fun rb => ?_
 refine Ka ?_
 revert rb
 exact zq.1) : p := k ⟨h⟩
theorem G8 (h : q) (k : Bx q → p := by
 intro zq
 refine NH ?_
 refine JX (cs := r.cells.toArray) O O O O fun rb => ?_
 revert rb
 exact zq.1) : p := k ⟨h⟩
theorem G4 (h : p := by
 refine LR O (KC oR O hst hty.1 O O) ?_
 refine Jj (k := 0) (n := 3) (ys := X.cells) O O O O O X.len O X.one O ?_
 refine gy ?_
 refine Jf O O (.cons (Js (vs := X.cells) O (kn 0 O) O (by rw [X.len]; rfl)) .nil) (fun w1 hs1 => ?_)
 exact No) : p := h
theorem G9 (h : q) (k : Bx q → p := by
 intro zq
 refine Kj O O O (enters_of Tryz.func224 m6 O) (Jgs ls2.length row2) fun rb => ?_
 refine Kv ((List.Perm.swap _ _ _).trans (List.Perm.cons _ List.perm_middle.symm)) ?_
 change HL _ _ _ ((r1, .cells #[.slice none 0 0] 184 (0, 0)) :: (Xz Ds ++ ((rb, .cells #[J9 ls2.length row2] 184 (0, 0)) :: JE 9 (V1 ls2) row2))) _ _ _ _
 refine ki ?_
 revert rb
 exact zq.1) : p := k ⟨h⟩
theorem Ga (h : p := by exact Jak h0 hkm hdep (Region.noSelect_spec hsel) (fun E E' listed a hp hT => ⟨hT.1, hTp _ _ _ hp hT.2⟩) (hlt k hkm) (fun E' listed' a' hL => hseq _ hL.1) l.length listed E a inv (Region.free_spec h0 hr.1.2) hSE M5 hr' hr.2 h1 fun x => next _ _ hSE.grow (h2 x)) : p := h
theorem Gb (h : q) (k : Bx q → p := by
 intro zq
 refine JN 4 O ?_
 exact zq.1) : p := k ⟨h⟩
theorem Gc (h : q) (k : Bx q → p := by
 intro zq
 refine Jm (k := 1) O O O O O (fun _ hS => (Ju (r := [_, _, _]) O O)) ?_
 refine Jm (k := 2) O O O O O (fun _ hS => (Ju (r := [_, _, _]) O O)) ?_
 refine Jm (k := 4) O O O O O (fun _ hS => (Jz (vs := [_, _, _]) O (.inl (hS _ (J3 (n := 0) O))) O O O O)) ?_
 exact zq.1) : p := k ⟨h⟩
theorem Gd (h : q) (k : Bx q → p := by
 intro zq
 refine Jf O O (.cons (Js (vs := [_]) O (kn 3 O) O O) (.cons (Jh O) .nil)) (fun w1 hs1 => ?_)
 revert w1 hs1
 exact zq.1) : p := k ⟨h⟩
theorem Gg (h : q) (k : Bx q → p := by
 intro zq
 refine Jn O O O J1v (Jed (root := rt) hg.time m5) ?_
 refine k8 ?_
 refine Q1 O ?_
 first | (refine Jn O O O Jxo (Zw (p := [rt, st, Wx g.time rt]) O (n := 0) m7 v) ?_) | (refine Jn O O O Jxo (Zw (p := [rt, st, Wx g.time rt]) O (n := g.rc.number) hn0 v) ?_)
 refine J1 7 O ?_
 exact zq.1) : p := k ⟨h⟩
theorem Ge (h : q) (k : Bx q → p := by
 intro zq
 refine JH 4 O ?_
 exact zq.1) : p := k ⟨h⟩
theorem Gi (h : q) (k : Bx q → p := by
 intro zq
 refine JJ ?_
 refine Jt 8 O ?_
 exact zq.1) : p := k ⟨h⟩
theorem Gj (h : q) (k : Bx q → p := by
 intro zq
 refine LR O (Ju (r := [_, _]) O O) ?_
 exact zq.1) : p := k ⟨h⟩
theorem Gk (h : q) (k : Bx q → p := by
 intro zq
 refine V2 (n := 20) (b := 1) O O O O O O O O O m7 m7 fun r1 => ?_
 refine JH 9 O ?_
 refine Jb m5 m5 ?_
 refine QN O (YY m5 m5 (LR O (JO (j := 0) (m := 1) O O O O O m7 O) ?_))
 refine NQ ?_
 refine LR O (JO (j := 19) (m := 1) O O O O O m7 O) ?_
 refine NQ ?_
 refine kL ?_
 revert r1
 exact zq.1) : p := k ⟨h⟩
theorem Gl (h : p := by
 rw [List.perm_iff_count]
 intro x
 simp only [List.count_append, List.count_cons]
 omega) : p := h
theorem Gm (h : q) (k : Bx q → p := by
 intro zq
 refine JK 8 m6 m6 ?_
 refine k5 ?_
 refine kW ?_
 refine Ja O O O (JV (off' := Xe p + (i * 2 + 0)) O O MV) ?_
 refine Ja O O O (Qc Ki (k := 0) (v := J5 y.1) oR O hs hy O O) ?_
 refine Nx ?_
 refine Ja O O O (ji (a := y.1) (b := x.1) O O) ?_
 refine JS ?_
 exact zq.1) : p := k ⟨h⟩
theorem Gn (h : q) (k : Bx q → p := by
 intro zq
 refine Jf O O (.cons (Js (vs := [_, _, _, _, _, _, _, _]) O (kn 1 O) O O) (.cons (Jh O) .nil)) (fun w1 hs1 => ?_)
 revert w1 hs1
 exact zq.1) : p := k ⟨h⟩
theorem Gp (h : q) (k : Bx q → p := by
 intro zq
 refine kE ?_
 refine LR O (Jd (xs := s.a.cells) (n := 8) O (kn 1 O) O O O) ?_
 refine Q1 O (Jj (k := 3) (n := 8) (ys := (s.a).cells) O O O O O O O O O (J1 10 O ?_))
 refine Jf O O (.cons (Js (vs := [_, _, _, _, _, _, _, _]) O (kn 3 O) O O) (.cons (Jh O) .nil)) (fun w1 hs1 => ?_)
 revert w1 hs1
 exact zq.1) : p := k ⟨h⟩
theorem Gr (h : q) (k : Bx q → p := by
 intro zq
 refine kG ?_
 refine LR O (Kl AcL.len oR O hseg ha O O) ?_
 exact zq.1) : p := k ⟨h⟩
theorem Gs (h : p := by
 refine J1 10 O ?_
 refine NW fun w1 hs1 => ?_
 exact ⟨⟨some (r, cap, X4), by simp only [List.length_append]; omega, by have := congrArg List.length hX; simp only [List.length_append] at this; omega⟩, rfl, by simpa [JE] using hs1⟩) : p := h
theorem Gt (h : q) (k : Bx q → p := by
 intro zq
 refine LR O (Jy O hseg O) ?_
 exact zq.1) : p := k ⟨h⟩
theorem Gu (h : q) (k : Bx q → p := by
 intro zq
 refine JH 6 O ?_
 exact zq.1) : p := k ⟨h⟩
theorem Gv (h : q) (k : Bx q → p := by
 intro zq
 refine Kk 7 O ?_
 refine Ni fun w1 hs1 => ?_
 revert w1 hs1
 exact zq.1) : p := k ⟨h⟩
theorem Gw (h : q) (k : Bx q → p := by
 intro zq
 refine Qy 6 [0] O O ?_
 refine ND ?_
 refine ki ?_
 exact zq.1) : p := k ⟨h⟩
theorem Gx (h : q) (k : Bx q → p := by
 intro zq
 refine Jn O O O J1x (Jee (root := rt) hg.time m5) ?_
 refine k8 ?_
 refine Q1 O ?_
 first | (refine Jn O O O Jxp (Zx (p := [rt, st, Wx g.time rt]) O (n := 0) m7 v) ?_) | (refine Jn O O O Jxp (Zx (p := [rt, st, Wx g.time rt]) O (n := g.rc.number) hn0 v) ?_)
 refine J1 7 O ?_
 exact zq.1) : p := k ⟨h⟩
theorem Hs (h : q) (k : Bx q → p := by
 intro zq
 refine Jt 6 O ?_
 refine Nk ?_
 exact zq.1) : p := k ⟨h⟩
theorem Gy (h : q) (k : Bx q → p := by
 intro zq
 refine Jt 3 O ?_
 exact zq.1) : p := k ⟨h⟩
theorem gE (h : q) (k : Bx q → p := by
 intro zq
 refine J1 1 O ?_
 refine hKr _ _ ?_
 refine JJ ?_
 exact zq.1) : p := k ⟨h⟩
theorem GA (h : p := by
 refine LR O (Jz (vs := [_, _, _, _]) O (kn 0 O) O O O O) ?_
 refine LT 1 O O ?_
 refine J1 3 O ?_
 refine Jf O O (.cons (Js (vs := [_, _, _, _]) O (kn 1 O) O O) .nil) (fun w1 hs1 => ?_)
 exact No) : p := h
theorem GB (h : q) (k : Bx q → p := by
 intro zq
 first | refine Ja O O O (J6 O O O) ?_ | refine JG O O O ?_
 exact zq.1) : p := k ⟨h⟩
theorem GC (h : q) (k : Bx q → p := by
 intro zq
 refine Ja O O O (qo (n := i % 8 * 8) O O O mM (Jcb (Je8 (Xl _) m5))) ?_
 refine Ja O O O (Qp (op := .xor) (b := (((abS a u i).getD (i / 8) 0 ^^^ (u.getD i 0).toNat * 2 ^ (i % 8 * 8) : Nat) : Int)) O O O ((habk i).get _) (Je8 (Xl _) m5) O) ?_
 exact zq.1) : p := k ⟨h⟩
theorem GD (h : p := by
 rw [hset, if_neg m5, if_neg m5, if_pos m5]
 exact ⟨⟨a, 5, [], ha, rfl⟩, rfl, hs1.weakL (List.nil_sublist _)⟩) : p := h
theorem GF (h : q) (k : Bx q → p := by
 intro zq
 refine Ge ?_
 refine LR O (Jd (xs := (Q5 x.s A0).cells) (n := 8) O (kn 0 O) O O O) ?_
 refine J0 (n := 1) (sz := 8) (vs := [_]) (zs := [_, _, _, _, _, _, _, _]) (r := (Q5 x.s A0).cells) O O O O O O O O O mj O fun rv => ?_
 refine LR O (Ju (r := [_]) O O) ?_
 revert rv
 exact zq.1) : p := k ⟨h⟩
theorem GG (h : q) (k : Bx q → p := by
 intro zq
 refine Kk 8 O ?_
 exact zq.1) : p := k ⟨h⟩
theorem GH (h : p := by exact ⟨⟨s, KP s.er, [], hs, rfl⟩, rfl, hs1.weakL (List.nil_sublist _)⟩) : p := h
theorem Gh (h : p := by exact fun _ _ _ h => h.elim) : p := h
theorem GI (h : q) (k : Bx q → p := by
 intro zq
 refine Jf O O (.cons (Js (vs := [_, _, _]) O (kn 0 O) O O) .nil) (fun w1 hs1 => ?_)
 revert w1 hs1
 exact zq.1) : p := k ⟨h⟩
theorem GJ (h : q) (k : Bx q → p := by
 intro zq
 refine LR O (Jd (xs := a.cells) (n := 8) O (kn 2 O) O O O) ?_
 exact zq.1) : p := k ⟨h⟩
theorem GK (h : q) (k : Bx q → p := by
 intro zq
 refine Jm (k := 9) O O O O O (fun _ hS => (Jk (j := pick.toNat) O hst O O O nD nD)) ?_
 refine JY (k := 10) O O O O O (KC oR O hst hty8.1 O O) ?_
 refine Jm (k := 11) O O O O O (fun _ hS => (J6 O O O)) ?_
 exact zq.1) : p := k ⟨h⟩
theorem GL (h : q) (k : Bx q → p := by
 intro zq
 refine Kv List.perm_append_comm ?_
 exact zq.1) : p := k ⟨h⟩
theorem GN (h : q) (k : Bx q → p := by
 intro zq
 refine Jm (k := 4) O O O O O (fun _ hS => (J6 O O O)) ?_
 exact zq.1) : p := k ⟨h⟩
theorem GO (h : q) (k : Bx q → p := by
 intro zq
 refine JI [] [(0, .pure), (3, .grow (KD (jd (Wo PB)) (fun x => rV x) (fun x => rL x))), (4, .pure), (6, .pure), (7, .pure), (9, .pure)] 10 [0, 1, 2, 4, 5, 6, 7, 3, 8, 9] m6 m6 m8 ?_
 refine Nq ?_
 refine Qt mm ?_
 refine NT fun x => ?_
 refine gm ?_
 refine Ka ?_
 refine gy ?_
 revert x
 exact zq.1) : p := k ⟨h⟩
theorem GP (h : p := by
 refine NX ?_
 rw [Jmf m5] at hra ⊢
 refine KU [2, 3, 0] (L' := [_, _, _]) m7 O ?_
 exact Jo (i + 1, some (ra, cap, sp)) ⟨by simp only; omega, hra⟩ mh (lK rfl) (List.Sublist.refl _) (fun _ _ h => h)) : p := h
theorem GQ (h : p := by
 have hpl := Wl ls2
 rw [List.take_of_length_le m5] at hxs
 obtain rfl : n = (SL.pairUp ls2).length := by omega
 subst hxs
 rw [← hn] at hr3
 refine XC 2 O ?_
 have hkz := zM (s := z ++ z) mL
 exact gL) : p := h
theorem GR (h : q) (k : Bx q → p := by
 intro zq
 refine LR O (Je O (JF (k := 1) O) O O) ?_
 exact zq.1) : p := k ⟨h⟩
theorem GS (h : q) (k : Bx q → p := by
 intro zq
 refine Jq nw ?_
 refine QN O ?_
 refine Jq ny ?_
 refine QN O ?_
 refine Jq nk ?_
 refine V2 (n := N) (b := 1) O O O O O O O O O m5 m5 fun rm => ?_
 rw [show List.replicate N (Value.int .u8 0) = (KJ l N 0).map bV from by rw [KJ, List.map_replicate]; rfl]
 revert rm
 exact zq.1) : p := k ⟨h⟩
theorem GT (h : q) (k : Bx q → p := by
 intro zq
 refine Jt 9 O ?_
 refine LR O (Ke (m := i) (kl := some i) (kh := none) (km := none) (q := n) (z := cap) O O O ⟨_, rfl⟩ trivial trivial O O O m5 m5 m5 (fun _ => rfl) O) ?_
 refine kL ?_
 refine kF ?_
 refine JN 10 O ?_
 exact zq.1) : p := k ⟨h⟩
theorem GU (h : q) (k : Bx q → p := by
 intro zq
 refine JC 3 O ?_
 exact zq.1) : p := k ⟨h⟩
theorem GV (h : q) (k : Bx q → p := by
 intro zq
 refine Jf O O (.cons (Qw O (kn 1 O) O O) .nil) (fun w1 hs1 => ?_)
 revert w1 hs1
 exact zq.1) : p := k ⟨h⟩
theorem GW (h : p := by
 refine KS O O .nil (fun w1 hs1 => ?_)
 exact ⟨(), rfl, hs1.weakL (List.sublist_cons_self _ _)⟩) : p := h
theorem GX (h : p := by
 refine NW fun w1 hs1 => ?_
 exact ⟨⟨row, hrow⟩, rfl, hs1.weakL (List.sublist_append_left _ _)⟩) : p := h
theorem GY (h : q) (k : Bx q → p := by
 intro zq
 first | refine Ja O O O (Je O (kn 0 O) O O) ?_ | refine JG O O O ?_
 exact zq.1) : p := k ⟨h⟩
theorem GZ (h : q) (k : Bx q → p := by
 intro zq
 refine kE ?_
 refine LR O (Jd (xs := s.cells) (n := 1) O (kn 4 O) O O O) ?_
 exact zq.1) : p := k ⟨h⟩
theorem H0 (h : q) (k : Bx q → p := by
 intro zq
 rw [yC hv01 (J03 hla hlb hlc) m5]
 simp only [xC, List.flatten_cons, List.flatten_nil, List.append_nil]
 first | (rw [if_pos m5]; simp only [List.append_assoc]; rfl) | (rw [if_neg m5]; simp only [List.append_assoc, List.append_nil]; rfl)
 exact zq.1) : p := k ⟨h⟩
theorem H1 (h : q) (k : Bx q → p := by
 intro zq
 first | refine Ja O O O (Jg O) ?_ | refine JG O O O ?_
 exact zq.1) : p := k ⟨h⟩
theorem H4 (h : q) (k : Bx q → p := by
 intro zq
 refine V2 (n := 20) (b := 1) O O O O O O O O O m7 m7 fun r1 => ?_
 refine Gu ?_
 refine LR O (JO (j := 0) (m := 1) O O O O O m7 O) ?_
 refine NQ ?_
 refine gY ?_
 refine Jb m5 m5 ?_
 refine QN O (YY m5 m5 (LR O (JO (j := 19) (m := 1) O O O O O m7 O) ?_))
 refine NQ ?_
 revert r1
 exact zq.1) : p := k ⟨h⟩
theorem Gz (h : q) (k : Bx q → p := by
 intro zq
 refine gn ?_
 refine Nk ?_
 exact zq.1) : p := k ⟨h⟩
theorem H5 (h : q) (k : Bx q → p := by
 intro zq
 refine J1 6 O ?_
 refine Ni fun w1 hs1 => ?_
 revert w1 hs1
 exact zq.1) : p := k ⟨h⟩
theorem H6 (h : q) (k : Bx q → p := by
 intro zq
 refine J1 3 O ?_
 exact zq.1) : p := k ⟨h⟩
theorem H7 (h : q) (k : Bx q → p := by
 intro zq
 refine kB ?_
 refine JW (k := 10) O O O O O Jxs hrec8 oR ?_
 refine Qq (k := 14) O O O O O Jav (vK (by rw [hXl]; decide) nn) ?_
 refine Jm (k := 15) O O O O O (fun _ hS => (J8 O)) ?_
 refine Ka ?_
 refine gy ?_
 exact zq.1) : p := k ⟨h⟩
theorem H2 (h : q) (k : Bx q → p := by
 intro zq
 refine JN 9 O ?_
 exact zq.1) : p := k ⟨h⟩
theorem H3 (h : q) (k : Bx q → p := by
 intro zq
 refine Ji O O O J1w (vW (R := x.L ++ R) x.ok (fun _ => hw)) (fun q hq => (List.mem_append.1 hq).elim (fun h => Or.inl (List.mem_cons_of_mem _ (List.mem_cons_of_mem _ h))) (fun hq => Or.inr hq)) ?_
 refine Jq (congrArg Wm hrt) ?_
 exact zq.1) : p := k ⟨h⟩
theorem H8 (h : q) (k : Bx q → p := by
 intro zq
 refine Jc Tryz.func239 O O fun w => ?_
 refine G8 fun rb => ?_
 refine LN O fun r1 => ?_
 refine Ge ?_
 refine LR O (Je O (Or.inr h1) O O) ?_
 refine Jn O O O egl (hgl rb) ?_
 refine QN O (LR O (Je O (kn 1 O) O hx) (Jn O O O wu (Wu x) ?_))
 revert w rb r1
 exact zq.1) : p := k ⟨h⟩
theorem H9 (h : q) (k : Bx q → p := by
 intro zq
 refine JN 2 O ?_
 exact zq.1) : p := k ⟨h⟩
theorem Ha (h : q) (k : Bx q → p := by
 intro zq
 refine Jj (k := 0) (n := 1) (ys := x.s.cells) O O O O O O O O O ?_
 exact zq.1) : p := k ⟨h⟩
theorem Hb (h : q) (k : Bx q → p := by
 intro zq
 refine Np ?_
 refine LW 3 [] O O ?_
 exact zq.1) : p := k ⟨h⟩
theorem Hc (h : q) (k : Bx q → p := by
 intro zq
 refine Jj (k := 0) (n := 7) (ys := (X0 items i).cells) O O O O O (X0 items i).len O (X0 items i).one O ?_
 exact zq.1) : p := k ⟨h⟩
theorem Hd (h : p := by
 rw [List.getD_eq_getElem?_getD, List.getElem?_eq_getElem h]
 exact ⟨rfl, List.getElem_mem h⟩) : p := h
theorem He (h : q) (k : Bx q → p := by
 intro zq
 refine J0 (vs := [_]) (zs := [_]) (r := [_]) O O O O O O O O O mg O fun r2 => ?_
 revert r2
 exact zq.1) : p := k ⟨h⟩
theorem Hf (h : q) (k : Bx q → p := by
 intro zq
 refine Ja O O O (JD (j := 1) O O O O O my ma) ?_
 refine Ja O O O (Je O (kn 0 O) O O) ?_
 exact zq.1) : p := k ⟨h⟩
theorem Hg (h : p := by
 refine Kk 5 O ?_
 refine Jr ?_
 exact Jo (i, (i + j) / 2) ⟨⟨by simp only; omega, by simp only; omega⟩, hi1, Jfu hso hx m9⟩ mh (lK rfl) (List.nil_sublist _) (fun _ _ h => h)) : p := h
theorem Hh (h : q) (k : Bx q → p := by
 intro zq
 refine kq ?_
 refine VZ (k := 7) (cs := #[_, _, _, _, _, _, _, _]) O O O O O O fun r3 => ?_
 refine Vk (k := 8) (q := 0) (n := 8) (ys := (Q5 t.s (QL i)).cells) O O O O O O O O O O O (fun _ h => nomatch h) ?_
 refine gm ?_
 revert r3
 exact zq.1) : p := k ⟨h⟩
theorem Hi (h : p := by exact Jfe h0 M5 hdep (Region.noSelect_spec hsel) (hlt k hkm) (fun E' listed' a' hL => hseq _ hL.1) l.length listed E a inv (Region.free_spec h0 hr.1.2) hSE hr' h1 (next _ _ hSE h2)) : p := h
theorem Hj (h : p := by
 refine JC 1 O ?_
 have hg1 := YE hm2e (i := 2 * i) m5
 have hg2 := YE hm2e (i := 2 * i + 1) m5
 have hkc := zM (s := ls2.getD (2 * i) [] ++ ls2.getD (2 * i + 1) []) mL
 exact NY) : p := h
theorem Hk (h : q) (k : Bx q → p := by
 intro zq
 refine Jm (k := 0) O O O O O (fun _ hS => (Jg O)) ?_
 exact zq.1) : p := k ⟨h⟩
theorem Hl (h : q) (k : Bx q → p := by
 intro zq
 refine LW 2 [] O O (LR O (Ju (r := [_, _, _]) O O) ?_)
 exact zq.1) : p := k ⟨h⟩
theorem Hm (h : p := by
 obtain ⟨s', g1, g2, g3, g4⟩ := hq
 have hp' : p a' w' (μ s') := ⟨s', g1, g3, g4, rfl⟩
 refine ⟨⟨_, hp'⟩, ?_⟩
 have := (hfm a' w' ⟨_, hp'⟩).2 _ hp'
 omega) : p := h
theorem Hn (h : q) (k : Bx q → p := by
 intro zq
 refine Ja O O O (J6 O O O) ?_
 exact zq.1) : p := k ⟨h⟩
theorem Ho (h : p := by
 refine Kk 7 O ?_
 refine NW fun w1 hs1 => ?_
 exact ⟨⟨none, rfl, rfl⟩, rfl, hs1⟩) : p := h
theorem Hp (h : q) (k : Bx q → p := by
 intro zq
 refine LS 1 [] O O ?_
 refine Ko (k := 2) (cs' := #[.int .u64 0, .int .u64 0, .int .u64 0, .int .u64 0, .slice none 0 0, J9 (i + 1) (some (ra, cap, sp)), .int .i64 0]) O O O O O O O O O O ?_
 exact zq.1) : p := k ⟨h⟩
theorem Ic (h : q) (k : Bx q → p := by
 intro zq
 refine Jt 6 O ?_
 refine Ko (k := 2) (cs' := #[J5 a.addr, uV a.nonce, uV a.bal.a, uV a.bal.b, uV a.bal.c, uV a.bal.d, J5 a.code, J9 (KK a.slots k v).length row]) O O O O O (WE _ _) O O O O ?_
 exact zq.1) : p := k ⟨h⟩
theorem Hq (h : p := by exact .inr ⟨(back2 v).symm.trans g1, go E undef hSE (.inl (List.Sublist.refl _)) g2⟩) : p := h
theorem Hu (h : p := by
 refine Gy ?_
 refine Jb m5 m5 ?_
 refine H6 ?_
 refine Jr ?_
 exact Jo ((i + j) / 2 + 1, j) ⟨⟨by simp only; omega, hj0⟩, Jft hso hx m9, hi2⟩ mh (lK rfl) (List.nil_sublist _) (fun _ _ h => h)) : p := h
theorem Hv (h : q) (k : Bx q → p := by
 intro zq
 refine Kk 12 O ?_
 refine Ni fun w1 hs1 => ?_
 revert w1 hs1
 exact zq.1) : p := k ⟨h⟩
theorem Hw (h : q) (k : Bx q → p := by
 intro zq
 refine NQ ?_
 refine gy ?_
 exact zq.1) : p := k ⟨h⟩
theorem Hy (h : q) (k : Bx q → p := by
 intro zq
 refine LS 1 [] O O ?_
 refine Ko (k := 5) (cs' := #[.int .u64 0, .int .u64 0, .int .u64 0, .int .u64 0, .slice none 0 0, J9 (i + 1) (some (ra, cap, sp)), .int .i64 0]) O O O O O O O O O O ?_
 exact zq.1) : p := k ⟨h⟩
theorem Hz (h : q) (k : Bx q → p := by
 intro zq
 refine Jm (k := 14) O O O O O (fun _ hS => (J8 O)) ?_
 refine Ka ?_
 exact zq.1) : p := k ⟨h⟩
theorem Hr (h : q) (k : Bx q → p := by
 intro zq
 refine Jt 1 O ?_
 refine LR O (Jz (vs := [J9 n row]) O (kn 0 O) O O O O) ?_
 refine Q8 (k := 3) (n := 1) (cs' := #[J9 n row]) (vs := #[_]) O O O O O O mW mR O O ?_
 refine gM ?_
 exact zq.1) : p := k ⟨h⟩
theorem Ht (h : q) (k : Bx q → p := by
 intro zq
 refine JN 10 O ?_
 exact zq.1) : p := k ⟨h⟩
theorem HE (h : q) (k : Bx q → p := by
 intro zq
 refine gp ?_
 refine ND ?_
 refine ko ?_
 exact zq.1) : p := k ⟨h⟩
theorem HF (h : p := by
 refine NW fun w1 hs1 => ?_
 exact ⟨⟨some (r1, cap1, sp1), by simp only [List.length_append, List.length_nil, lF]; omega, hsp1⟩, rfl, by simpa [JE] using hs1⟩) : p := h
theorem HG (h : q) (k : Bx q → p := by
 intro zq
 refine NN ?_
 refine VX (n := 1) (sz := 8) (vs := [_]) (zs := [_, _, _, _, _, _, _, _]) (r := y.cells) O O O O O O O O O O mj O (fun p hp => List.mem_singleton.1 hp ▸ List.mem_cons_self) fun rv => ?_
 refine yO ?_
 revert rv
 exact zq.1) : p := k ⟨h⟩
theorem HH (h : p := by
 subst hw
 show _ ≤ (_ ++ _ : Array Obj).size
 rw [Array.size_append]
 show _ ≤ (Array.modify _ _ _).size + _
 rw [Array.size_modify]
 exact Nat.le_add_right _ _) : p := h
theorem HI (h : q) (k : Bx q → p := by
 intro zq
 refine JJ ?_
 refine JC 12 O ?_
 exact zq.1) : p := k ⟨h⟩
theorem HM (h : p := by
 refine Qy 10 [0] O O ?_
 refine Nk ?_
 exact Jo (i + 1) m5 m5 (.cons O (.cons Mk (.cons Mk (lK O)))) (List.sublist_cons_self _ _) (fun _ _ h => h)) : p := h
theorem HN (h : p := by
 refine LR O (Qp (op := .or) (b := ((Jp n k : Nat) : Int)) O O O (Nat.mod_lt _ m7) (Nat.lt_of_le_of_lt (Nat.div_le_self _ _) hn) O) ?_
 exact NU) : p := h
theorem HO (h : q) (k : Bx q → p := by
 intro zq
 refine LS 3 [] O O ?_
 exact zq.1) : p := k ⟨h⟩
theorem HP (h : q) (k : Bx q → p := by
 intro zq
 refine LW 1 [0] O O ?_
 exact zq.1) : p := k ⟨h⟩
theorem HR (h : q) (k : Bx q → p := by
 intro zq
 refine J0 (n := 1) (sz := 2) (vs := [_]) (zs := [_, _]) (r := Q7 y) O O O O O O O O O mj O fun rv => ?_
 revert rv
 exact zq.1) : p := k ⟨h⟩
theorem HT (h : q) (k : Bx q → p := by
 intro zq
 refine JS ?_
 refine KF (k := 0) (off := i / 8) (xs := (abS a u i).map uV) (ys := (abS a u (i + 1)).map uV) O O O O O O (by rw [List.length_map, (habk i).1]; omega) (QU rfl) rfl ?_
 exact zq.1) : p := k ⟨h⟩
theorem HU (h : q) (k : Bx q → p := by
 intro zq
 refine Jm (k := 7) O O O O O (fun _ hS => (J6 O O O)) ?_
 exact zq.1) : p := k ⟨h⟩
theorem D9 (h : p := by
 refine Kq Tryz.func180 O O fun w => ?_
 refine NB fun r1 r2 => ?_
 refine LN O fun r3 => ?_
 refine Ge ?_
 refine kJ ?_
 refine kL ?_
 exact gU) : p := h
theorem HV (h : q) (k : Bx q → p := by
 intro zq
 refine J4 Tryz.func240 O O fun w => ?_
 refine Nj fun r1 => ?_
 refine ki ?_
 refine JK 5 m6 m6 ?_
 refine Ja O O O (Je O (Or.inr h1) O O) ?_
 refine Nm ?_
 refine KI O O O egl (hgl ρ) ?_
 refine k9 ?_
 revert w r1
 exact zq.1) : p := k ⟨h⟩
theorem HW (h : q) (k : Bx q → p := by
 intro zq
 refine Ja O O O (J8 O) ?_
 refine NP ?_
 exact zq.1) : p := k ⟨h⟩
theorem HX (h : q) (k : Bx q → p := by
 intro zq
 refine LW 3 [] O O (J1 1 O (XC 1 O ?_))
 exact zq.1) : p := k ⟨h⟩
theorem HS (h : q) (k : Bx q → p := by
 intro zq
 refine JC 1 O ?_
 exact zq.1) : p := k ⟨h⟩
theorem D0 (h : q) (k : Bx q → p := by
 intro zq
 refine NM ?_
 refine Qt nY ?_
 refine JW (k := 2) O O O O O Jlf (hrw m5) oR ?_
 refine Qq (k := 7) O O O O O Jav (vK (by rw [hrl32 m5]; decide) nn) ?_
 refine gS ?_
 exact zq.1) : p := k ⟨h⟩
theorem D1 (h : p := by
 refine gs fun w1 hs1 => ?_
 obtain ⟨xs1, hx1⟩ := hs1.now
 exact ⟨⟨_, rfl⟩, hs1.keep, .inl ⟨i, _, (by show i = N; omega), hx1⟩⟩) : p := h
theorem D3 (h : q) (k : Bx q → p := by
 intro zq
 refine Ja O O O (Jk (j := (i + 1)) O hs O O O me m5) ?_
 exact zq.1) : p := k ⟨h⟩
theorem D4 (h : q) (k : Bx q → p := by
 intro zq
 refine Kk 9 O ?_
 refine NA fun w1 hs1 => ?_
 revert w1 hs1
 exact zq.1) : p := k ⟨h⟩
theorem D5 (h : q) (k : Bx q → p := by
 intro zq
 refine J1 2 O (XC 1 O ?_)
 exact zq.1) : p := k ⟨h⟩
theorem HK (h : q) (k : Bx q → p := by
 intro zq
 refine Qu (k := 0) O O ?_
 exact zq.1) : p := k ⟨h⟩
theorem D6 (h : q) (k : Bx q → p := by
 intro zq
 refine LW 3 [] O O (J1 1 O (Xk 4 O ?_))
 refine Ni fun w1 hs1 => ?_
 unfold Km
 simp only [JB]
 revert w1 hs1
 exact zq.1) : p := k ⟨h⟩
theorem D7 (h : p := by
 refine J1 10 O ?_
 refine NW fun w1 hs1 => ?_
 exact ⟨⟨some (r2, cap2, sp2), by simp only [List.length_append]; omega, hsp2⟩, rfl, hs1.weakL Nh⟩) : p := h
theorem D8 (h : q) (k : Bx q → p := by
 intro zq
 refine gY ?_
 refine Nk ?_
 exact zq.1) : p := k ⟨h⟩
theorem Da (h : q) (k : Bx q → p := by
 intro zq
 refine gp ?_
 refine kG ?_
 refine LR O (JV (off' := Xe a.p + (i * 2 + 0)) O O MM) ?_
 refine LR O (Qc Ki (k := 0) (v := J5 x.1) oR O hseg hx O O) ?_
 refine gt ?_
 refine ko ?_
 exact zq.1) : p := k ⟨h⟩
theorem HY (h : q) (k : Bx q → p := by
 intro zq
 refine Jt 1 O ?_
 exact zq.1) : p := k ⟨h⟩
theorem Db (h : q) (k : Bx q → p := by
 intro zq
 refine Jt 8 O ?_
 refine Jb m5 m5 ?_
 refine QN O (Wp m5 m5 (LR O (jE (n := 1) (b := (((i + j) / 2 : Nat) : Int)) O O O m7 m5 m5) ?_))
 refine QN O (Jb m5 m5 (JN 4 O ?_))
 exact zq.1) : p := k ⟨h⟩
theorem Dc (h : q) (k : Bx q → p := by
 intro zq
 refine LW 4 [0] O O ?_
 exact zq.1) : p := k ⟨h⟩
theorem Dd (h : q) (k : Bx q → p := by
 intro zq
 refine ND ?_
 refine Gb ?_
 exact zq.1) : p := k ⟨h⟩
theorem De (h : p := by
 refine Nj fun r1 => ?_
 refine XG 7 [0] O O ?_
 refine LR O (Je O (Or.inr hb) O O) ?_
 refine LR O (W7 O O) ?_
 exact NU) : p := h
theorem Df (h : p := by
 obtain ⟨_, r1, r2, r3⟩ := hrow h8 i x hx
 have hm := List.mem_of_getElem? hx
 exact ih x hm (hi x hm) _ 0 (hit _ r1) r2 r3 (hwi x hm)) : p := h
theorem Dg (h : q) (k : Bx q → p := by
 intro zq
 change HL _ _ _ (Xq rv (.mk a b c d bits pb items pi pick) :: WG rt (.mk k n p ins) :: _) _ _ _ _
 refine ki ?_
 refine Vz [3, 0, 1, 2, 4, 5] (L' := [_, _, _, _, _, _]) m7 O ?_
 exact zq.1) : p := k ⟨h⟩
theorem Dh (h : p := by
 refine NQ ?_
 refine H6 ?_
 refine Jf O O (.cons (Js (vs := [_, _, _, _]) O (kn 0 O) O O) .nil) (fun w1 hs1 => ?_)
 exact No) : p := h
theorem DF (h : q) (k : Bx q → p := by
 intro zq
 refine Jj (k := 0) (n := 3) (ys := y.cells) O O O O O y.len O y.one O ?_
 refine Ge ?_
 refine LR O (Jd (xs := y.cells) (n := 3) O (kn 0 O) O O y.len) ?_
 exact zq.1) : p := k ⟨h⟩
theorem Di (h : q) (k : Bx q → p := by
 intro zq
 refine kT ?_
 refine LR O (QV oR O hs hix.1 O O) ?_
 refine KL (cs := #[.int .u64 0, .int .u64 0, .int .u64 0, .int .u64 0, .slice none 0 0, .slice none 0 0, .int .i64 0]) O O O O fun rv => ?_
 revert rv
 exact zq.1) : p := k ⟨h⟩
theorem Dj (h : p := by exact vp ho (hnd i o ho) hw (hr E hE w hs) fun u w' ⟨x, e', hk, hf, hd⟩ => h _ _ w' hE.grow (hs.freshs hk hf hd) (e' ▸ (h2 x))) : p := h
theorem Dk (h : q) (k : Bx q → p := by
 intro zq
 refine JC 7 O ?_
 exact zq.1) : p := k ⟨h⟩
theorem Dm (h : p := by
 refine G5 fun w1 hs1 => ?_
 rw [jq fun j u v hu hv => hinv j u v (by have := (List.getElem?_eq_some_iff.1 hv).1; omega) hu hv]
 rfl) : p := h
theorem Dn (h : q) (k : Bx q → p := by
 intro zq
 refine J1 2 O ?_
 refine Jr ?_
 exact zq.1) : p := k ⟨h⟩
theorem DI (h : q) (k : Bx q → p := by
 intro zq
 refine JK 8 m6 m6 ?_
 refine k5 ?_
 refine gr ?_
 refine Ks mb ?_
 exact zq.1) : p := k ⟨h⟩
theorem Do (h : q) (k : Bx q → p := by
 intro zq
 refine Ja O O O (Jz (vs := [_, _, _, _, _, _, _]) O (kn 0 O) O O O O) ?_
 refine Vt O O O (enters_of Tryz.func273 m6 O) hnu oR ?_
 refine Nm ?_
 exact zq.1) : p := k ⟨h⟩
theorem Dp (h : p := by exact .inl ⟨g1.same (back1 v).symm (back2 v).symm, fun x => go _ _ hSE.grow (.inl (List.sublist_append_right _ _)) (g2 x)⟩) : p := h
theorem Dq (h : q) (k : Bx q → p := by
 intro zq
 first | (refine Ji O O O Jlt hro oR ?_) | refine LK O ?_
 exact zq.1) : p := k ⟨h⟩
theorem Dr (h : q) (k : Bx q → p := by
 intro zq
 refine Ja O O O (JD (j := 0) O O O O O my ma) ?_
 exact zq.1) : p := k ⟨h⟩
theorem Dt (h : q) (k : Bx q → p := by
 intro zq
 refine Jm (k := 13) O O O O O (fun _ hS => (Jk (j := 0) O hs O O O me m5)) ?_
 refine JY (k := 14) O O O O O (QV oR O hs hx8.1 O O) ?_
 exact zq.1) : p := k ⟨h⟩
theorem Gq (h : q) (k : Bx q → p := by
 intro zq
 refine Jt 6 O ?_
 exact zq.1) : p := k ⟨h⟩
theorem Du (h : q) (k : Bx q → p := by
 intro zq
 refine WU O O O O (fun _ hS => (Jg O)) ?_
 exact zq.1) : p := k ⟨h⟩
theorem Dv (h : p := by
 refine Gz ?_
 exact Jo (i + 1) m5 m5 (.cons O (.cons Ml (.cons Ml (lK O)))) (List.sublist_cons_self _ _) (fun _ _ h => h)) : p := h
theorem Dw (h : q) (k : Bx q → p := by
 intro zq
 refine LR O (Kl AcL.len oR O hseg hx O O) ?_
 refine J0 (n := 1) (sz := 8) (vs := [_]) (zs := [_, _, _, _, _, _, _, _]) (r := x.cells) O O O O O O O O O mj O fun rv => ?_
 revert rv
 exact zq.1) : p := k ⟨h⟩
theorem Dx (h : q) (k : Bx q → p := by
 intro zq
 refine GG ?_
 refine NA fun w1 hs1 => ?_
 revert w1 hs1
 exact zq.1) : p := k ⟨h⟩
theorem Dy (h : q) (k : Bx q → p := by
 intro zq
 refine Ja O O O (Kl (p := some (⟨r, 0, none⟩, cap)) AcL.len (fun q hq => Or.inl hq) O hsegz hx O O) ?_
 refine Vt O O O eg ((hg y x).toR) oR ?_
 exact zq.1) : p := k ⟨h⟩
theorem Dz (h : p := by
 obtain ⟨j, x, h1, rfl⟩ := WZ hs
 rw [Nat.zero_add]
 obtain ⟨_, r1, r2, r3⟩ := hrow m7 j x h1
 exact Vx x _ 0 r2 r3) : p := h
theorem DA (h : q) (k : Bx q → p := by
 intro zq
 refine JX (cs := (l.map uV).toArray) O O O O fun r1 => ?_
 revert r1
 exact zq.1) : p := k ⟨h⟩
theorem DB (h : q) (k : Bx q → p := by
 intro zq
 refine Jm (k := 2) O O O O O (fun _ hS => (J2 O O O)) ?_
 refine Qt nF ?_
 refine Jm (k := 5) O O O O O (fun _ hS => (J6 O O O)) ?_
 exact zq.1) : p := k ⟨h⟩
theorem DC (h : p := by
 refine NR fun w1 hs1 => ?_
 rw [if_pos m5]
 exact ⟨⟨s, Wd f r, [], hs, rfl⟩, rfl, hs1.weakL (List.nil_sublist _)⟩) : p := h
theorem I9 (h : q) (k : Bx q → p := by
 intro zq
 refine kE ?_
 refine kH ?_
 refine LR O (Jd (xs := (X0 items i).cells) (n := 7) O (kn 1 O) O O (X0 items i).len) ?_
 refine Ji O O O Jld hbi oR ?_
 exact zq.1) : p := k ⟨h⟩
theorem DE (h : q) (k : Bx q → p := by
 intro zq
 refine gM ?_
 refine Ni fun w1 hs1 => ?_
 revert w1 hs1
 exact zq.1) : p := k ⟨h⟩
theorem DG (h : p := by
 refine LR O (Kw (b := A0) (row := some (r1, 20, [])) (e := 5) O ⟨rfl, rfl⟩ (fun p hp => .inl mz) O O O) ?_
 exact NU) : p := h
theorem DH (h : p := by
 refine gy ?_
 refine NW fun w1 hs1 => ?_
 exact ⟨⟨some (r1, cap1, sp1), by simp [lF], hsp1⟩, rfl, by simpa [JE] using hs1⟩) : p := h
theorem Ei (h : q) (k : Bx q → p := by
 intro zq
 refine Ja O O O (Kl (p := some (⟨r, 0, none⟩, cap)) AcL.len (fun q hq => Or.inl hq) O hsegz hy O O) ?_
 refine k5 ?_
 refine Nn ?_
 refine QT m5 m5 ?_
 exact zq.1) : p := k ⟨h⟩
theorem DK (h : p := by
 refine G5 fun w1 hs1 => ?_
 rw [Jfp fun j x hx => hinv j (by have := (List.getElem?_eq_some_iff.1 hx).1; omega) x hx]
 rfl) : p := h
theorem DL (h : q) (k : Bx q → p := by
 intro zq
 refine kE ?_
 refine JX (cs := (p.map sV).toArray) O O O O fun r1 => ?_
 refine gY ?_
 refine LR O (Jd (xs := p.map sV) (n := 3) O (kn 0 O) O O (by rw [List.length_map, hp])) ?_
 revert r1
 exact zq.1) : p := k ⟨h⟩
theorem DM (h : p := by
 refine H6 ?_
 refine Jr ?_
 exact Jo (i + 1) ⟨by omega, by omega⟩ m5 (lK rfl) (List.Sublist.refl _) (fun _ _ h => h)) : p := h
theorem DN (h : p := by
 refine Nk ?_
 exact NE) : p := h
theorem DO (h : p := by exact .inr ⟨(back2 undef).symm.trans g1, go E undef hSE g2⟩) : p := h
theorem DP (h : q) (k : Bx q → p := by
 intro zq
 refine Jm (k := 1) O O O O O (fun _ hS => (J2 O O O)) ?_
 refine gC ?_
 exact zq.1) : p := k ⟨h⟩
theorem DQ (h : q) (k : Bx q → p := by
 intro zq
 first | refine LR O (Jy O hseg O) ?_ | refine LK O ?_
 exact zq.1) : p := k ⟨h⟩
theorem DR (h : q) (k : Bx q → p := by
 intro zq
 refine LR O (Ju (r := [_, _, _, _, _, _, _, _]) O O) ?_
 exact zq.1) : p := k ⟨h⟩
theorem DS (h : q) (k : Bx q → p := by
 intro zq
 refine LR O (Jz (vs := Q7 x) O (kn 0 O) O O O O) ?_
 refine J0 (n := 1) (sz := 2) (vs := [_]) (zs := [_, _]) (r := Q7 x) O O O O O O O O O mj O fun rv => ?_
 revert rv
 exact zq.1) : p := k ⟨h⟩
theorem DT (h : p := by exact absurd hj (tail_waits h2 h3 Mu inv _ i rfl hi hun j hjm)) : p := h
theorem DU (h : q) (k : Bx q → p := by
 intro zq
 refine LR O (Jz (vs := [_, _, _, _, _, _, _, _]) O (kn 1 O) O O O O) ?_
 exact zq.1) : p := k ⟨h⟩
theorem DV (h : p := by
 refine Nj fun r1 => ?_
 refine Goq 11 [0] O O ?_
 exact Nz) : p := h
theorem DW (h : q) (k : Bx q → p := by
 intro zq
 refine kG ?_
 refine LR O (JV (off' := Xe s.p + (i * 8 + 0)) O O nT) ?_
 refine LR O (Qc AcL.len (k := 0) (v := J5 a.addr) oR O hseg ha O O) ?_
 exact zq.1) : p := k ⟨h⟩
theorem FM (h : q) (k : Bx q → p := by
 intro zq
 refine JK 7 m6 m6 ?_
 refine Ja O O O (Je O (JF (k := 0) O) O O) ?_
 refine Ja O O O (Je O (JF (k := 1) O) O O) ?_
 refine Nm ?_
 exact zq.1) : p := k ⟨h⟩
theorem DX (h : q) (k : Bx q → p := by
 intro zq
 refine Jj (k := 0) (n := 1) (ys := y.s.cells) O O O O O O O O O ?_
 exact zq.1) : p := k ⟨h⟩
theorem DY (h : q) (k : Bx q → p := by
 intro zq
 refine LR O (JD (j := i / 8) (m := 1) (off' := i / 8) O O O O m5 m5 m5) ?_
 exact zq.1) : p := k ⟨h⟩
theorem DZ (h : q) (k : Bx q → p := by
 intro zq
 refine gO fun r1 => ?_
 refine Ji O O O Jlr hno oR ?_
 refine Q1 O ?_
 revert r1
 exact zq.1) : p := k ⟨h⟩
theorem E0 (h : q) (k : Bx q → p := by
 intro zq
 refine Jj (k := 0) (n := 3) (ys := (JT k pick ins i).cells) O O O O O (JT k pick ins i).len O (JT k pick ins i).one O ?_
 refine JH 3 O ?_
 exact zq.1) : p := k ⟨h⟩
theorem E1 (h : q) (k : Bx q → p := by
 intro zq
 refine LR O (Je O (Or.inr h2) O O) ?_
 refine ki ?_
 exact zq.1) : p := k ⟨h⟩
theorem E2 (h : p := by
 rw [hput, if_neg m5, if_pos m5]
 exact ⟨⟨s, Wz a.er, [], hs, rfl⟩, rfl, hs1.weakL (List.nil_sublist _)⟩) : p := h
theorem E3 (h : q) (k : Bx q → p := by
 intro zq
 refine JJ ?_
 refine Jt 7 O ?_
 exact zq.1) : p := k ⟨h⟩
theorem E4 (h : q) (k : Bx q → p := by
 intro zq
 refine Ja O O O (Kf O (JF (k := 1) O) O (Kt (by rw [hbln]; omega))) ?_
 exact zq.1) : p := k ⟨h⟩
theorem E5 (h : q) (k : Bx q → p := by
 intro zq
 refine LR O (Jd (xs := t.s.cells) (n := 1) O (kn 2 O) O O O) ?_
 refine LR O (Jd (xs := x.a.cells) (n := 8) O (kn 0 O) O O O) ?_
 exact zq.1) : p := k ⟨h⟩
theorem E6 (h : q) (k : Bx q → p := by
 intro zq
 simp only [execOp, Sem.run_bind]
 exact zq.1) : p := k ⟨h⟩
theorem E7 (h : q) (k : Bx q → p := by
 intro zq
 refine kL ?_
 refine LR O (Jd (xs := (Ty.mk k n p ins).cells) (n := 3) O (kn 1 O) O O (Ty.mk k n p ins).len) ?_
 refine LS 2 [0] O O ?_
 exact zq.1) : p := k ⟨h⟩
theorem E8 (h : p := by exact vp ho (hnd i o ho) hw (hr w hs) fun u w' ⟨x, e', hs'⟩ => h _ _ w' (h2 x).1 hs' (e' ▸ (h2 x).2)) : p := h
theorem E9 (h : q) (k : Bx q → p := by
 intro zq
 refine LR O (Jd (xs := a.map uV) (n := 4) O (kn 1 O) O O Mm) ?_
 refine LR O (Jd (xs := b.map uV) (n := 4) O (kn 0 O) O O Mn) ?_
 exact zq.1) : p := k ⟨h⟩
theorem Eb (h : p := by
 rw [hset, if_neg m5, if_pos m5]
 exact ⟨⟨a, 2, [], ha, rfl⟩, rfl, hs1.weakL (List.nil_sublist _)⟩) : p := h
theorem Ec (h : p := by
 obtain ⟨Y, hY⟩ : ∃ Y, Y = WH l N i := ⟨_, rfl⟩
 rw [← hY] at hst1 hlt8 hra hZl ⊢
 exact kK) : p := h
theorem Ed (h : q) (k : Bx q → p := by
 intro zq
 rw [hh blk hlt, Array.getElem?_modify, if_pos rfl, hb]
 simp only [Option.map_some, Go.Sort.onCells, Option.some.injEq, Obj.cells.injEq, and_true]
 exact zq.1) : p := k ⟨h⟩
theorem Ee (h : q) (k : Bx q → p := by
 intro zq
 refine Jj (k := 0) (n := 25) (ys := (qy (abS a u 136)).map uV) O O O O O (by rw [List.length_map, (zg (habk 136)).1]) MO (VC _) rfl ?_
 exact zq.1) : p := k ⟨h⟩
theorem Ef (h : q) (k : Bx q → p := by
 intro zq
 refine LR O (Jk (j := i) O hs O O O O m5) ?_
 exact zq.1) : p := k ⟨h⟩
theorem Eg (h : p := by
 refine J1 1 O (Xk 4 O ?_)
 exact Nw) : p := h
theorem Eo (h : p := by
 rw [hset, if_pos m5]
 exact ⟨⟨a, Wz a.er, [], ha, rfl⟩, rfl, hs1.weakL (List.nil_sublist _)⟩) : p := h
theorem Ep (h : p := by exact vp ho (hnd i o ho) hw (hq w hs) fun u w' ⟨e, hk'⟩ => h E _ w' hE (hs.more hk') (e ▸ hk)) : p := h
theorem Eh (h : p := by
 refine LR O (Kw (b := A1) (row := some (r1, 20, [])) (e := 5) O ⟨rfl, rfl⟩ (fun p hp => .inl mz) O O O) ?_
 exact NU) : p := h
theorem Ej (h : q) (k : Bx q → p := by
 intro zq
 refine GG ?_
 refine Ni fun w1 hs1 => ?_
 revert w1 hs1
 exact zq.1) : p := k ⟨h⟩
theorem Ek (h : p := by
 refine gy ?_
 refine NA fun w1 hs1 => ?_
 rw [show VT v p n = (WN (Ww v p n).1, 0) from by unfold VT; rw [if_pos m9]]
 rfl) : p := h
theorem El (h : p := by
 refine Nj fun r1 => ?_
 refine kL ?_
 refine kJ ?_
 refine gM ?_
 refine NW fun w1 hs1 => ?_
 exact ⟨_, rfl, hs1⟩) : p := h
theorem Em (h : p := by
 refine gY ?_
 refine NX ?_
 exact Jo (i + 1) m5 m5 (lK O) (.cons _ (List.Sublist.refl _)) (fun _ _ h => h)) : p := h
theorem En (h : p := by
 refine H6 ?_
 exact Nz) : p := h
theorem Er (h : q) (k : Bx q → p := by
 intro zq
 refine JJ ?_
 refine Gy ?_
 refine kF ?_
 refine JH 8 O ?_
 refine Wp m5 m5 ?_
 refine Jn O O O (enters_of Tryz.func174 m6 O) xy ?_
 exact zq.1) : p := k ⟨h⟩
theorem Es (h : q) (k : Bx q → p := by
 intro zq
 simp only [Go.Sort.putCells, Nat.zero_le, true_and, Nat.zero_add, List.size_toArray, Nat.sub_zero, Array.toList_mapIdx, List.getElem?_mapIdx]
 exact zq.1) : p := k ⟨h⟩
theorem Et (h : q) (k : Bx q → p := by
 intro zq
 refine Ja O O O (Kf O (kn 0 O) O (Kt (by rw [hBk.1]; omega))) ?_
 exact zq.1) : p := k ⟨h⟩
theorem Eu (h : q) (k : Bx q → p := by
 intro zq
 refine LR O (Je O (kn 1 O) O O) ?_
 exact zq.1) : p := k ⟨h⟩
theorem Ev (h : p := by
 have h1 := hT _ _ _ H j (ready_mono hj hji)
 have h2 := hlt _ inv (mem_ready.1 hr).1 j hj
 omega) : p := h
theorem Ew (h : q) (k : Bx q → p := by
 intro zq
 refine Jb m5 m5 ?_
 exact zq.1) : p := k ⟨h⟩
theorem Ex (h : q) (k : Bx q → p := by
 intro zq
 refine Qy 6 [0] O O ?_
 exact zq.1) : p := k ⟨h⟩
theorem Ey (h : p := by exact .inl ⟨g1.same (back1 undef).symm (back2 undef).symm, fun x => go _ _ hSE.grow (g2 x)⟩) : p := h
theorem Ez (h : q) (k : Bx q → p := by
 intro zq
 refine HY ?_
 refine LR O (Jd (xs := (abS a u 136).map uV) (n := 25) O (kn 0 O) O O (by rw [List.length_map, (habk 136).1])) ?_
 exact zq.1) : p := k ⟨h⟩
theorem EA (h : p := by
 unfold wpOpIn
 simp only [ho]
 rw [if_neg (by rw [hw]; simp)]
 exact ⟨QH, h E _ w hE hs hk⟩) : p := h
theorem EC (h : q) (k : Bx q → p := by
 intro zq
 refine LR O (Jd (xs := r.cells) (n := 17) O (kn 1 O) O O O) ?_
 exact zq.1) : p := k ⟨h⟩
theorem ED (h : q) (k : Bx q → p := by
 intro zq
 refine Ja O O O (Jk (j := 0) O hst O O O me (Nat.lt_succ_self 0)) ?_
 refine Ja O O O (KC oR O hst M8 O O) ?_
 exact zq.1) : p := k ⟨h⟩
theorem EE (h : q) (k : Bx q → p := by
 intro zq
 refine LR O (qo (n := k % 64) (b := ((n * 2 ^ (k % 64) % 18446744073709551616 : Nat) : Int)) O O O mM (J0g _)) ?_
 refine HO ?_
 exact zq.1) : p := k ⟨h⟩
theorem EF (h : q) (k : Bx q → p := by
 intro zq
 refine LR O (Jd (xs := l.map uV) (n := 4) O (kn 0 O) O O N6) ?_
 exact zq.1) : p := k ⟨h⟩
theorem EG (h : q) (k : Bx q → p := by
 intro zq
 refine LR O (Jd (xs := s.cells) (n := 1) O (kn 2 O) O O O) ?_
 exact zq.1) : p := k ⟨h⟩
theorem EH (h : q) (k : Bx q → p := by
 intro zq
 refine LR O (Jd (xs := s.cells) (n := 1) O (kn 3 O) O O O) ?_
 exact zq.1) : p := k ⟨h⟩
theorem EI (h : p := by exact ⟨fun a w => Classical.choose (h1 a w), fun a w => Classical.choose_spec (h1 a w)⟩) : p := h
theorem EJ (h : q) (k : Bx q → p := by
 intro zq
 refine Ge ?_
 refine LR O (Ju (r := [_, _, _, _, _, _, _]) O O) ?_
 exact zq.1) : p := k ⟨h⟩
theorem EK (h : q) (k : Bx q → p := by
 intro zq
 refine Jm (k := 0) O O O O O (fun _ hS => (J6 O O O)) ?_
 exact zq.1) : p := k ⟨h⟩
theorem EL (h : q) (k : Bx q → p := by
 intro zq
 refine Jm (k := 3) O O O O O (fun _ hS => (J6 O O O)) ?_
 exact zq.1) : p := k ⟨h⟩
theorem EM (h : q) (k : Bx q → p := by
 intro zq
 refine Jm (k := 9) O O O O O (fun _ hS => (J6 O O O)) ?_
 exact zq.1) : p := k ⟨h⟩
theorem EN (h : p := by
 obtain ⟨h1, rfl⟩ := List.getElem?_eq_some_iff.1 h
 exact List.drop_eq_getElem_cons h1) : p := h
theorem EO (h : q) (k : Bx q → p := by
 intro zq
 refine kH ?_
 refine Ji O O O (enters_of Tryz.func367 m6 O) (Jl4 hti1) (fun q hq => Or.inr (List.mem_append_right _ hq)) ?_
 exact zq.1) : p := k ⟨h⟩
theorem EP (h : q) (k : Bx q → p := by
 intro zq
 refine Jj (k := 0) (n := 4) (ys := (xQ a b).1.map uV) O O O O O (by rw [List.length_map]; exact Jce) O (VC _) O ?_
 exact zq.1) : p := k ⟨h⟩
theorem EQ (h : q) (k : Bx q → p := by
 intro zq
 change HC _ _ [(0, _), (1, _), (2, _), (8, _), (9, .int .i64 (i : Int)), (10, .int .i64 (j : Int))] _ _ _ _
 refine JC 8 O ?_
 exact zq.1) : p := k ⟨h⟩
theorem ER (h : q) (k : Bx q → p := by
 intro zq
 refine GJ ?_
 refine J0 (n := 1) (sz := 8) (vs := [_]) (zs := [_, _, _, _, _, _, _, _]) (r := a.cells) O O O O O O O O O mj O fun rv => ?_
 revert rv
 exact zq.1) : p := k ⟨h⟩
theorem ES (h : q) (k : Bx q → p := by
 intro zq
 refine LR O (JD (j := i) (m := 1) (off' := i) O O O O m5 m5 m5) ?_
 refine LR O (Kf O (kn 0 O) O (Jhs m5)) ?_
 exact zq.1) : p := k ⟨h⟩
theorem F0 (h : p := by
 obtain ⟨q, hq, h1, h2⟩ := ih h
 exact ⟨q, List.mem_cons_of_mem _ hq, h1, h2⟩) : p := h
theorem F1 (h : q) (k : Bx q → p := by
 intro zq
 refine KL (cs := (z25.map uV).toArray) O O O O fun r3 => ?_
 revert r3
 exact zq.1) : p := k ⟨h⟩
theorem ET (h : p := by
 refine gp ?_
 refine Jn O O O Jf7 (Jgu hwd (n := 32) m7) ?_
 refine H5 fun w1 hs1 => ?_
 rw [if_pos m5]
 rfl) : p := h
theorem EU (h : p := by
 refine LR O (KC oR O hst hy O O) ?_
 refine NQ ?_
 refine gM ?_
 refine GI fun w1 hs1 => ?_
 exact No) : p := h
theorem EV (h : q) (k : Bx q → p := by
 intro zq
 refine gn ?_
 refine kF ?_
 exact zq.1) : p := k ⟨h⟩
theorem EW (h : q) (k : Bx q → p := by
 intro zq
 refine kA ?_
 refine NT fun x => ?_
 refine Qq (k := 13) O O O O O Jav (vK (by rw [Vv (hnb m5) (VL _)]; decide) nn) ?_
 refine Hz ?_
 refine gy ?_
 refine Ni fun w1 hs1 => ?_
 revert x w1 hs1
 exact zq.1) : p := k ⟨h⟩
theorem EX (h : q) (k : Bx q → p := by
 intro zq
 refine Nj fun r1 => ?_
 refine XG 8 [0] O O ?_
 revert r1
 exact zq.1) : p := k ⟨h⟩
theorem EY (h : p := by
 have : (ins.length : Int) * B ≤ 16 * B := Int.mul_le_mul_of_nonneg_right m5 m5
 omega) : p := h
theorem EZ (h : q) (k : Bx q → p := by
 intro zq
 refine kE ?_
 refine LN O fun r1 => ?_
 refine NI ?_
 refine kJ ?_
 revert r1
 exact zq.1) : p := k ⟨h⟩
theorem F2 (h : q) (k : Bx q → p := by
 intro zq
 refine hKr _ _ ?_
 refine JJ ?_
 exact zq.1) : p := k ⟨h⟩
theorem F3 (h : q) (k : Bx q → p := by
 intro zq
 refine Gt ?_
 refine ki ?_
 exact zq.1) : p := k ⟨h⟩
theorem F4 (h : q) (k : Bx q → p := by
 intro zq
 refine JS ?_
 refine H9 ?_
 exact zq.1) : p := k ⟨h⟩
theorem F5 (h : q) (k : Bx q → p := by
 intro zq
 refine LR O (Ju (r := [_]) O O) ?_
 exact zq.1) : p := k ⟨h⟩
theorem F6 (h : q) (k : Bx q → p := by
 intro zq
 refine Qy 3 [3, 2] O O ?_
 refine Kj O O O (enters_of Tryz.func213 m6 O) (Jgl (.mk k n p ins) (.mk a b c d bits pb items pi pick)) fun pp => ?_
 revert pp
 exact zq.1) : p := k ⟨h⟩
theorem F7 (h : q) (k : Bx q → p := by
 intro zq
 refine Qy 4 [2] O O ?_
 exact zq.1) : p := k ⟨h⟩
theorem F8 (h : q) (k : Bx q → p := by
 intro zq
 refine gt ?_
 refine ko ?_
 exact zq.1) : p := k ⟨h⟩
theorem F9 (h : q) (k : Bx q → p := by
 intro zq
 refine kW ?_
 refine Ja O O O (Qz oR O hs m5 O (Zz hx)) ?_
 exact zq.1) : p := k ⟨h⟩
theorem Fa (h : p := by
 refine Qq (k := 7) O O O O O Jr2 (Js8 m5 m5) ?_
 refine gS ?_
 exact En) : p := h
theorem Fb (h : q) (k : Bx q → p := by
 intro zq
 refine LW 2 [1, 0] O O ?_
 first | (refine LR O (Jkn O O O O O m6 O O O O) ?_) | refine LK O ?_
 exact zq.1) : p := k ⟨h⟩
theorem Fc (h : p := by exact ⟨m, hm, fun k hp => Nat.le_of_not_lt fun hlt => hx ⟨k, hlt, hp⟩⟩) : p := h
theorem Fe (h : q) (k : Bx q → p := by
 intro zq
 refine LW 4 [0] O O (J1 1 O (Xk 2 O ?_))
 exact zq.1) : p := k ⟨h⟩
theorem Ff (h : q) (k : Bx q → p := by
 intro zq
 refine QN O ?_
 exact zq.1) : p := k ⟨h⟩
theorem Fg (h : p := by
 rw [getD_set_ne true hjk] at hun
 exact hun) : p := h
theorem Fh (h : q) (k : Bx q → p := by
 intro zq
 refine Jc Tryz.func343 O O fun w => ?_
 refine Gi ?_
 refine LR O (Je (v := .int .i64 (bits.length : Int)) O (JF (k := 0) O) O O) ?_
 revert w
 exact zq.1) : p := k ⟨h⟩
theorem Fi (h : p := by
 rw [hh k hk, Array.getElem?_modify, if_neg]
 intro e
 exact hn (by simp [e])) : p := h
theorem Fj (h : q) (k : Bx q → p := by
 intro zq
 first | (refine Ji O O O Jsc hpl oR ?_) | refine LK O ?_
 exact zq.1) : p := k ⟨h⟩
theorem Fk (h : q) (k : Bx q → p := by
 intro zq
 first | refine Ja O O O (Jz (vs := [_, _, _, _]) O (kn 0 O) O O O O) ?_ | refine JG O O O ?_
 exact zq.1) : p := k ⟨h⟩
theorem Fl (h : q) (k : Bx q → p := by
 intro zq
 refine GZ ?_
 refine Q1 O (Jj (k := 3) (n := 1) (ys := s.cells) O O O O O O O O O (J1 9 O ?_))
 exact zq.1) : p := k ⟨h⟩
theorem Fo (h : q) (k : Bx q → p := by
 intro zq
 refine Jm (k := 6) O O O O O (fun _ hS => (Jg O)) ?_
 exact zq.1) : p := k ⟨h⟩
theorem Fp (h : q) (k : Bx q → p := by
 intro zq
 refine LR O (Jz (vs := [_]) O (kn 0 O) O O O O) ?_
 exact zq.1) : p := k ⟨h⟩
theorem Fq (h : q) (k : Bx q → p := by
 intro zq
 refine LR O (Jz (vs := [_]) O (kn 2 O) O O O O) ?_
 exact zq.1) : p := k ⟨h⟩
theorem Fs (h : q) (k : Bx q → p := by
 intro zq
 refine LW 2 [] O O ?_
 exact zq.1) : p := k ⟨h⟩
theorem Ft (h : p := by
 have := hrow.1
 exact List.eq_nil_of_length_eq_zero (by simpa using this)) : p := h
theorem Fu (h : q) (k : Bx q → p := by
 intro zq
 refine Q1 O ?_
 refine LR O (Jk (j := i) O hsb O O O me m5) ?_
 refine LR O (WV oR O hsb hy O) ?_
 exact zq.1) : p := k ⟨h⟩
theorem Fv (h : p := by
 rw [hinv, if_pos Ms]
 exact (zv Ms).trans (congrArg (Prod.mk s.a.er) hxe)) : p := h
theorem Fw (h : p := by exact ⟨⟨s, 5, [], hs, rfl⟩, rfl, hs1.weakL (List.nil_sublist _)⟩) : p := h
theorem Fx (h : p := by
 refine D4 fun w1 hs1 => ?_
 rw [show VT v p n = ([], (Ww v p n).2) from by unfold VT; rw [if_neg m9]]
 rfl) : p := h
theorem Fy (h : p := by
 refine kL ?_
 refine kJ ?_
 refine gM ?_
 refine NW fun w1 hs1 => ?_
 exact ⟨r1, rfl, hs1⟩) : p := h
theorem Fz (h : q) (k : Bx q → p := by
 intro zq
 refine kE ?_
 refine GJ ?_
 refine Jj (k := 1) (n := 8) (ys := (a).cells) O O O O O O O O O ?_
 refine gy ?_
 exact zq.1) : p := k ⟨h⟩
theorem FA (h : q) (k : Bx q → p := by
 intro zq
 refine JJ ?_
 refine NO ?_
 exact zq.1) : p := k ⟨h⟩
theorem FD (h : p := by
 refine J1 7 O ?_
 refine Jf O O .nil (fun w1 hs1 => ?_)
 exact No) : p := h
theorem FE (h : p := by
 have := Nat.eq_of_beq_eq_true h0
 omega) : p := h
theorem FF (h : q) (k : Bx q → p := by
 intro zq
 refine Jm (k := 6) O O O O O (fun E' hS => Jk (j := 0) O hst O O O me (Nat.lt_succ_self 0)) ?_
 exact zq.1) : p := k ⟨h⟩
theorem FG (h : q) (k : Bx q → p := by
 intro zq
 refine JX (cs := a.cells.toArray) O O O O fun ra => ?_
 revert ra
 exact zq.1) : p := k ⟨h⟩
theorem FH (h : q) (k : Bx q → p := by
 intro zq
 refine JX (cs := s.cells.toArray) O O O O fun rs => ?_
 revert rs
 exact zq.1) : p := k ⟨h⟩
theorem FI (h : q) (k : Bx q → p := by
 intro zq
 rw [show (A ++ B) ++ sp = (A ++ X1) ++ (X3 ++ X4) by rw [List.append_assoc, hX]; simp only [List.append_assoc]]
 exact zq.1) : p := k ⟨h⟩
theorem FJ (h : q) (k : Bx q → p := by
 intro zq
 refine LW 1 [1] O O ?_
 exact zq.1) : p := k ⟨h⟩
theorem FK (h : q) (k : Bx q → p := by
 intro zq
 refine XG 7 [0] O O ?_
 exact zq.1) : p := k ⟨h⟩
theorem FL (h : p := by
 show k < (Array.modify _ _ _).size
 rw [Array.size_modify]
 exact hk) : p := h
theorem FN (h : q) (k : Bx q → p := by
 intro zq
 refine Ja O O O (Jd (xs := (JT k 0 ins i).cells) (n := 3) O (kn 0 O) O O (JT k 0 ins i).len) ?_
 exact zq.1) : p := k ⟨h⟩
theorem FO (h : q) (k : Bx q → p := by
 intro zq
 refine Jj (k := 0) (n := 3) (ys := x.cs) O O O O O O O O O ?_
 refine Goc 10 [0] O O ?_
 exact zq.1) : p := k ⟨h⟩
theorem FP (h : p := by
 refine KS O O .nil (fun w1 hs1 => ?_)
 exact ⟨(), rfl, hs1⟩) : p := h
theorem FQ (h : q) (k : Bx q → p := by
 intro zq
 refine gK ?_
 refine Ni fun w1 hs1 => ?_
 revert w1 hs1
 exact zq.1) : p := k ⟨h⟩
theorem FR (h : q) (k : Bx q → p := by
 intro zq
 refine JC 4 O ?_
 exact zq.1) : p := k ⟨h⟩
theorem FS (h : q) (k : Bx q → p := by
 intro zq
 refine LR O (JD (j := (tX i + 5 * tY i)) (m := 1) (off' := (tX i + 5 * tY i)) O O O O m5 m5 m5) ?_
 exact zq.1) : p := k ⟨h⟩
theorem FT (h : q) (k : Bx q → p := by
 intro zq
 refine LR O (Je O (kn 0 O) O O) ?_
 exact zq.1) : p := k ⟨h⟩
theorem FU (h : q) (k : Bx q → p := by
 intro zq
 refine Q1 O ?_
 rw [show (A ++ X1) ++ (B ++ X4) = A ++ (X1 ++ (B ++ X4)) by simp only [List.append_assoc]]
 exact zq.1) : p := k ⟨h⟩
theorem FV (h : q) (k : Bx q → p := by
 intro zq
 refine gD fun r1 => ?_
 refine Gu ?_
 refine kN ?_
 refine Kn O O O (enters_of Tryz.func12 m6 O) (Jh0 hg m5) oR fun x => ?_
 refine GL ?_
 revert r1 x
 exact zq.1) : p := k ⟨h⟩
theorem FX (h : q) (k : Bx q → p := by
 intro zq
 rw [yC hv01 hall m5]
 simp only [xC]
 first | (rw [if_pos m5]; rfl) | (rw [if_neg m5, List.append_nil]; rfl)
 exact zq.1) : p := k ⟨h⟩
theorem FY (h : p := by
 rw [List.replicate_succ', List.set_append_right _ _ ml, List.length_replicate, Nat.sub_self]
 rfl) : p := h
theorem FZ (h : p := by
 refine kE ?_
 refine gA ?_
 refine Hw ?_
 refine Nu fun w1 hs1 => ?_
 exact GD) : p := h
theorem I0 (h : q) (k : Bx q → p := by
 intro zq
 refine Jl Tryz.func56 O O fun w => ?_
 refine JJ ?_
 refine Jt 15 O ?_
 refine Kj O O O (enters_of Tryz.func111 m6 O) Jms fun pp => ?_
 revert w pp
 exact zq.1) : p := k ⟨h⟩
theorem I1 (h : p := by
 refine NW fun w1 hs1 => ?_
 exact ⟨by rw [hkec2]; rfl, hs1.keep⟩) : p := h
theorem I2 (h : p := by
 refine Dx fun w1 hs1 => ?_
 rw [show jZ n k = ([], 1) from by unfold jZ; rw [if_pos m5]]
 rfl) : p := h
theorem I3 (h : p := by
 refine H5 fun w1 hs1 => ?_
 rw [Vf, if_neg m9, if_neg m9, if_neg m9, if_pos m9]
 rfl) : p := h
theorem I4 (h : p := by
 rw [List.all_eq_true]
 intro x hx
 obtain ⟨b, _, rfl⟩ := List.mem_map.1 hx
 rfl) : p := h
theorem I5 (h : p := by
 refine G5 fun w1 hs1 => ?_
 rw [hcg m5, ← hinv, List.drop_of_length_le Ng]
 rfl) : p := h
theorem I6 (h : p := by
 refine H5 fun w1 hs1 => ?_
 rw [Vf, if_neg m9, if_neg m9, if_pos m9]
 rfl) : p := h
theorem I7 (h : p := by
 refine Ka ?_
 refine gy ?_
 refine NA fun w1 hs1 => ?_
 rw [hb1 hz]
 rfl) : p := h
theorem I8 (h : p := by
 rw [hcg m5, ← hinv, if_pos mt]
 rfl) : p := h
end Go.SL
