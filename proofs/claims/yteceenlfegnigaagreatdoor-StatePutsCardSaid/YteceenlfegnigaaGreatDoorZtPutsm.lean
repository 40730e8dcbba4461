import Derived.WalkKit
import Derived.CallsIn
import Derived.RangeFuncIn
import Derived.RangeFuncRecord
import Derived.RangeFuncSeq
import Derived.RangeFuncLeaves
import Derived.RangeFuncBound
import Derived.TacticsIn
import Derived.Shelf.Abstract
import Derived.Orders
import Derived.StillTail
import Derived.Sort.QuietThIn
import Derived.Sort.Grow
import Derived.ChangeKeysEq
import Derived.Laws.BytesString
import Derived.ProofKit
import Derived.OpenShut
import Derived.ShutString
import Derived.ChangeOld
import Derived.Below
import Derived.Laws.Small
import Derived.Laws.IdiomStrings
namespace Go.SL
set_option linter.all false
structure Bx (q : Prop) : Prop where
  of : q
variable {p q : Prop}
theorem m0 (h : p := by omega) : p := h
theorem m5 (h : p := by kernel_rfl) : p := h
theorem m6 (h : p := by decide) : p := h
theorem m7 (h : p := by first | exact (fun _ h => absurd h List.not_mem_nil) | simp [SubS] | (intro p hp; simp [hp])) : p := h
theorem m8 (h : p := by assumption) : p := h
theorem m9 (h : p := by exact show _ = Value.int .i64 ((i + 1 : Nat) : Int) from by rw [wrap_i64 (by omega) (by omega)]; congr 1 <;> omega) : p := h
theorem ma (h : p := by first | (simp only [Nat.zero_add, Nat.reduceAdd, Nat.reduceMul, Nat.zero_mul, Nat.mul_one, Nat.add_zero]; exact rfl) | exact rfl) : p := h
theorem mb (h : p := by rw [wrap_i64 (by omega) (by omega)]; omega) : p := h
theorem mc (h : p := by first | rfl | omega) : p := h
theorem me (h : p := by simp) : p := h
theorem mf (h : p := by first | (simp only [List.setIfInBounds_toArray, List.set_cons_zero, List.set_cons_succ]; exact rfl) | exact rfl) : p := h
theorem mg (h : p := by first | (simp only [List.set_cons_zero, List.set_cons_succ]; exact rfl) | exact rfl) : p := h
theorem mh (h : p := by simp only [List.mem_cons, List.mem_append, hq, or_true, true_or]) : p := h
theorem mi (h : p := by rw [JP]; exact rfl) : p := h
theorem mj (h : p := by unfold VX; first | (rw [if_pos (by assumption)]) | (rw [if_neg (by assumption), if_pos (by assumption)]; have := hp8 (by assumption); omega) | (rw [if_neg (by assumption), if_neg (by assumption)]; rfl)) : p := h
theorem ml (h : p := by simp only; omega) : p := h
theorem mm (h : p := by first | exact W6 _ _ | exact QP (by omega) (by decide) (by omega) | (rw [wrap_i64 (by omega) (by omega)]; omega)) : p := h
theorem mn (h : p := by rw [if_neg (by omega)]; omega) : p := h
theorem mo (h : p := by exact Nat.le_of_ble_eq_true rfl) : p := h
theorem mq (h : p := by show (madeCells #[_] _).toList = _; rw [VI]; exact rfl) : p := h
theorem ms (h : p := by simp only [List.mem_append] at hq; rcases hq with h | h <;> simp [h]) : p := h
theorem mt (h : p := by simp only [List.size_toArray, List.length_append]; omega) : p := h
theorem mu (h : p := by exact show _ = Value.int .i64 ((A + y : Nat)) from congrArg (Value.int .i64) (by rw [wrap_i64 (by omega) (by omega)]; omega)) : p := h
theorem mw (h : p := by rintro _ _ _ ⟨_, rfl, _⟩; rfl) : p := h
theorem my (h : p := by simp_all) : p := h
theorem mz (h : p := by rw [Int.tmod_eq_emod_of_nonneg (by omega)]; omega) : p := h
theorem mA (h : p := by rw [List.mem_singleton.1 hp, List.append_nil]; exact List.mem_cons_self) : p := h
theorem mB (h : p := by simp only [Nat.min_def]; split <;> omega) : p := h
theorem mC (h : p := by first | decide | omega) : p := h
theorem mD (h : p := by show (QL (Jx _ _) && true) = true; rw [We]; rfl) : p := h
theorem mE (h : p := by exact show _ = Value.int .i64 (((i % 5 + 1) % 5 : Nat) : Int) from congrArg (Value.int .i64) (by rw [Int.tmod_eq_emod_of_nonneg (by omega)]; omega)) : p := h
theorem mF (h : p := by exact show CallsIn (FW c.ro) 0 c.P g vs.toArray w _ from hc) : p := h
theorem mG (h : p := by rw [h] at hr; cases hr) : p := h
theorem mH (h : p := by exact show _ = Value.int .i64 ((136 * i + 136 : Nat) : Int) from congrArg (Value.int .i64) (by rw [wrap_i64 (by omega) (by omega)]; omega)) : p := h
theorem mI (h : p := by exact show _ = Value.int .i64 ((i % 8 : Nat) : Int) from congrArg (Value.int .i64) (by rw [Int.tmod_eq_emod_of_nonneg (by omega)]; omega)) : p := h
theorem mJ (h : p := by exact show _ = Value.int .i64 ((i / 8 : Nat) : Int) from congrArg (Value.int .i64) (by rw [QP (by omega) (by omega) (by omega)]; omega)) : p := h
theorem mK (h : p := by exact show _ = Value.int .i64 ((i % 5 + 1 : Nat) : Int) from congrArg (Value.int .i64) (by rw [wrap_i64 (by omega) (by omega)]; omega)) : p := h
theorem mL (h : p := by exact show _ = Value.int .i64 ((i % 8 * 8 : Nat) : Int) from congrArg (Value.int .i64) (by rw [wrap_i64 (by omega) (by omega)]; omega)) : p := h
theorem mM (h : p := by exact show _ = Value.int .i64 ((N : Nat) : Int) from congrArg (Value.int .i64) (by rw [QP (by omega) (by decide) (by omega), hN]; rfl)) : p := h
theorem mN (h : p := by exact show _ = Value.int .i64 ((8 * s.length : Nat)) from congrArg (Value.int .i64) (by rw [wrap_i64 (by omega) (by omega)]; omega)) : p := h
theorem mO (h : p := by exact show _ = Value.int .i64 ((8 * i : Nat) : Int) from congrArg (Value.int .i64) (by rw [wrap_i64 (by omega) (by omega)]; omega)) : p := h
theorem mP (h : p := by exact show _ = Value.int .i64 ((2 ^ (k + 1) : Nat) : Int) from congrArg (Value.int .i64) ((Jdq hk16).trans (by rw [Nat.pow_succ]))) : p := h
theorem mQ (h : p := by exact show _ = uV (s.getD i 0).toNat from congrArg (Value.int .u64) (wrap_u64 (by omega) (by have := Vs (s.getD i 0); omega))) : p := h
theorem mR (h : p := by simp only [JJ, List.nil_append, List.append_nil]; exact List.Sublist.refl _) : p := h
theorem mT (h : p := by exact show i < s.accts.length by omega) : p := h
theorem mU (h : p := by rw [List.mem_singleton.1 hq]; exact List.mem_cons_self) : p := h
theorem mV (h : p := by simpa using h) : p := h
theorem mW (h : p := by exact show _ = Value.int .i64 ((l.length + 8 : Nat) : Int) from by rw [wrap_i64 (by omega) (by omega)]; congr 1 <;> omega) : p := h
theorem mX (h : p := by exact show _ = Value.int .i64 ((l.length + 7 : Nat) : Int) from by rw [wrap_i64 (by omega) (by omega)]; congr 1 <;> omega) : p := h
theorem mY (h : p := by exact show _ ≤ 64 from by omega) : p := h
theorem mZ (h : p := by exact show i < xs.length by omega) : p := h
theorem n5 (h : p := by exact show _ = Value.int .i64 ((32 * i + M : Nat) : Int) from by rw [wrap_i64 (by omega) (by omega)]; congr 1 <;> omega) : p := h
theorem n6 (h : p := by exact show _ = Value.int .i64 ((2 * i + 1 : Nat) : Int) from by rw [wrap_i64 (by omega) (by omega)]; congr 1 <;> omega) : p := h
theorem n7 (h : p := by exact show _ = Value.int .i64 ((n + 1 - i : Nat) : Int) from by rw [wrap_i64 (by omega) (by omega)]; congr 1 <;> omega) : p := h
theorem n8 (h : p := by simp only; rw [← hvc]; exact .cons _ (.cons _ (List.Sublist.refl _))) : p := h
theorem n9 (h : p := by exact show _ = Value.int .i64 ((j + 1 : Nat) : Int) from by rw [wrap_i64 (by omega) (by omega)]; congr 1 <;> omega) : p := h
theorem na (h : p := by exact show _ = Value.int .i64 ((n + 1 : Nat) : Int) from by rw [wrap_i64 (by omega) (by omega)]; congr 1 <;> omega) : p := h
theorem nb (h : p := by simp only [List.toList_toArray]; rw [List.append_assoc, List.drop_left' lA, ← hX, List.take_left' lB]) : p := h
theorem nc (h : p := by intro e he; simp at he; rcases he with rfl | rfl | rfl | rfl | rfl | rfl | rfl <;> exact ⟨_, rfl⟩) : p := h
theorem nd (h : p := by have := congrArg List.length hX; simp only [List.size_toArray, List.length_append] at this ⊢; omega) : p := h
theorem ne (h : p := by rw [List.length_append]; omega) : p := h
theorem nf (h : p := by intro e he; simp at he; rcases he with rfl | rfl | rfl | rfl | rfl | rfl <;> exact ⟨_, rfl⟩) : p := h
theorem ng (h : p := by simp only [List.toList_toArray]; rw [List.append_assoc, List.drop_left' lA, List.take_left' lB]) : p := h
theorem nh (h : p := by show Xd s.p + i * 8 + 0 = _; omega) : p := h
theorem ni (h : p := by simp only [List.toList_toArray, List.drop_zero]; rw [List.append_assoc, List.take_left' lA]) : p := h
theorem nj (h : p := by intro e he; simp at he; rcases he with rfl | rfl | rfl | rfl | rfl <;> exact ⟨_, rfl⟩) : p := h
theorem nk (h : p := by rw [List.length_map, hsl]; omega) : p := h
theorem nl (h : p := by simp only [List.mem_cons, not_or]; exact ⟨hnq, fun hm => apartR (.inl hm) p hp rfl⟩) : p := h
theorem nm (h : p := by cases hdep) : p := h
theorem nn (h : p := by rw [List.mem_singleton.1 hp]; exact List.mem_cons_self) : p := h
theorem np (h : p := by intro e he; simp at he; rcases he with rfl | rfl | rfl | rfl <;> exact ⟨_, rfl⟩) : p := h
theorem nq (h : p := by exact show CallsIn (FW c.ro) (0 - 1) c.P gf _ w2 _ from callsIn_wide (n := 0) |>.2 hcalls) : p := h
theorem nr (h : p := by rw [ha]; rfl) : p := h
theorem nt (h : p := by exact show _ = Value.int .i64 ((N : Nat) : Int) from congrArg (Value.int .i64) (by omega)) : p := h
theorem nw (h : p := by simp only [List.toList_toArray]; rw [List.take_left' (by rw [List.length_map])]) : p := h
theorem ny (h : p := by unfold qg; omega) : p := h
theorem nz (h : p := by rcases List.mem_append.1 hq with h | h <;> simp [h]) : p := h
theorem nA (h : p := by have := congrArg List.length hX; simp only [List.length_append] at this; omega) : p := h
theorem nB (h : p := by intro e he; simp at he; rcases he with rfl | rfl | rfl <;> exact ⟨_, rfl⟩) : p := h
theorem nC (h : p := by exact show ¬ ((k = 4 ∧ n < items.length) ∨ (k = 6 ∧ n < bits.length)) by omega) : p := h
theorem nD (h : p := by simp; omega) : p := h
theorem nE (h : p := by exact show body.wpIn ((FW none).inRound (w.heap.size + 1)) 0 c.P _ a₁ _ from hb2) : p := h
theorem nF (h : p := by rw [QP (by omega) (by omega) (by omega)]; omega) : p := h
theorem nG (h : p := by show Xd a.p + i * 2 + 1 = _; omega) : p := h
theorem nH (h : p := by rw [List.length_map, ha.1]) : p := h
theorem nI (h : p := by rw [List.length_map, hb.1]) : p := h
theorem nJ (h : p := by intro e he; simp at he; rcases he with rfl | rfl <;> exact ⟨_, rfl⟩) : p := h
theorem nL (h : p := by rw [List.length_drop, List.length_map]; omega) : p := h
theorem nM (h : p := by have := Z2.1 hv.1; omega) : p := h
theorem nN (h : p := by simpa using (show m < ops.length by omega)) : p := h
theorem nO (h : p := by exact show RoundIn (FW c.ro) (0 - 1) c.P q fn tmps assign body w _ from hR) : p := h
theorem nP (h : p := by intro e he; simp at he; rcases he with rfl <;> exact ⟨_, rfl⟩) : p := h
theorem nQ (h : p := by first | exact W6 _ _ | exact QP (by omega) (by decide) (by omega)) : p := h
theorem nR (h : p := by split <;> omega) : p := h
theorem nS (h : p := by rw [hn]; exact Nat.le_of_ble_eq_true hlen) : p := h
theorem nT (h : p := by rw [getD_replicate_false] at hl; cases hl) : p := h
theorem nU (h : p := by exact show _ = some (Jx (KM l N l.length).length _) from by rw [Vq]; rfl) : p := h
theorem nV (h : p := by exact show i < t.accts.length by omega) : p := h
theorem nW (h : p := by first | exact .inl (by assumption) | exact .inr (by assumption)) : p := h
theorem nX (h : p := by simpa using hb) : p := h
theorem nY (h : p := by rw [show ((0 : Nat) : Int) = 0 from rfl, Int.sub_zero]; rfl) : p := h
theorem nZ (h : p := by rw [hmq, if_pos (fun e => absurd hv.1 (by rw [e]; decide))]) : p := h
theorem M0 (h : p := by rw [hmq, if_neg hmod, if_pos (by have := Z2.1 hv.1; omega)]) : p := h
theorem M1 (h : p := by rw [hl]; simp [bV, Function.comp_def]) : p := h
theorem M2 (h : p := by rw [s.er_len]; omega) : p := h
theorem M3 (h : p := by simp only [List.toList_toArray]; rw [List.take_left' hr1]) : p := h
theorem M4 (h : p := by rw [List.size_toArray, List.length_append, hr1]; omega) : p := h
theorem M5 (h : p := by rw [List.mem_singleton.1 hp]; simp) : p := h
theorem M6 (h : p := by show Xd a.p + i * 2 + 0 = _; omega) : p := h
theorem M7 (h : p := by simp only [List.mem_cons, not_or]; exact ⟨g2, g1⟩) : p := h
theorem M8 (h : p := by have := Z1.mp hok; omega) : p := h
theorem M9 (h : p := by simpa using hy) : p := h
theorem Ma (h : p := by rw [jR (by rw [List.length_set]; omega), YD, ← hY]) : p := h
theorem Mb (h : p := by have := m4 (by assumption); omega) : p := h
theorem Mc (h : p := by simp only; rw [htki, Zm]; exact List.Sublist.refl _) : p := h
theorem Md (h : p := by show Xd p + i * 2 + 0 = _; omega) : p := h
theorem Me (h : p := by rw [QP (by omega) (by decide) (by omega), hN]; rfl) : p := h
theorem Mf (h : p := by exact show St c L X w.drew from hs.drew) : p := h
theorem Mg (h : p := by rw [List.length_map]; exact h) : p := h
theorem Mh (h : p := by exact show [x0][0]? = some x0 from rfl) : p := h
theorem Mi (h : p := by exact show i < a.slots.length by omega) : p := h
theorem Mj (h : p := by rw [hz]; rfl) : p := h
theorem Mk (h : p := by decide +kernel) : p := h
theorem Ml (h : p := by rw [List.length_map, hl.1]) : p := h
theorem Mm (h : p := by exact show m < ops.length by omega) : p := h
theorem Mn (h : p := by exact show i < ins.length by omega) : p := h
theorem Mo (h : p := by rw [hx]; exact hk) : p := h
theorem Mp (h : p := by simpa using hx) : p := h
theorem Mq (h : p := by simpa using ho) : p := h
theorem Mr (h : p := by simpa using ht) : p := h
theorem Ms (h : p := by rw [Km]; omega) : p := h
theorem Mt (h : p := by simp at h ⊢; omega) : p := h
theorem Mu (h : p := by rw [hdl]; exact hL.1) : p := h
theorem Mv (h : q) (k : Bx q → p := by
 intro zq
 refine pT rfl rfl rfl fun w1 hs1 => ?_
 refine ⟨?_, hs1.keep⟩
 revert w1 hs1
 exact zq.1) : p := k ⟨h⟩
theorem Mw (h : q) (k : Bx q → p := by
 intro zq
 refine JT ?_
 refine Jr 2 rfl ?_
 refine LN rfl fun r1 => ?_
 revert r1
 exact zq.1) : p := k ⟨h⟩
theorem Mx (h : q) (k : Bx q → p := by
 intro zq
 refine Jb rfl rfl rfl (Je rfl) ?_
 exact zq.1) : p := k ⟨h⟩
theorem My (h : q) (k : Bx q → p := by
 intro zq
 refine Jh m0 m0 ?_
 refine Jy 2 rfl ?_
 refine Jv ?_
 exact zq.1) : p := k ⟨h⟩
theorem Mz (h : q) (k : Bx q → p := by
 intro zq
 refine Jb rfl rfl rfl (J1 rfl rfl rfl) ?_
 exact zq.1) : p := k ⟨h⟩
theorem MA (h : p := by exact ⟨rfl, hs1.keep⟩) : p := h
theorem MB (h : p := by
 refine KS 5 rfl ?_
 refine Jj rfl rfl .nil (fun w1 hs1 => ?_)
 obtain ⟨xs1, hx1⟩ := hs1.now
 exact ⟨⟨_, rfl⟩, hs1.keep, .inr ⟨_, hx1⟩⟩) : p := h
theorem MC (h : q) (k : Bx q → p := by
 intro zq
 refine Jj rfl rfl (.cons (Jp rfl) (.cons (Jp rfl) .nil)) (fun w1 hs1 => ?_)
 revert w1 hs1
 exact zq.1) : p := k ⟨h⟩
theorem MD (h : q) (k : Bx q → p := by
 intro zq
 refine LR rfl (Jl (vs := [_, _, _]) rfl (kn 0 rfl) rfl rfl rfl rfl) ?_
 exact zq.1) : p := k ⟨h⟩
theorem ME (h : q) (k : Bx q → p := by
 intro zq
 refine Jj rfl rfl (.cons (Jt (vs := [_, _, _, _, _, _, _, _]) rfl (kn 0 rfl) rfl rfl) (.cons (Jp rfl) .nil)) (fun w1 hs1 => ?_)
 revert w1 hs1
 exact zq.1) : p := k ⟨h⟩
theorem MF (h : q) (k : Bx q → p := by
 intro zq
 refine Jr 1 rfl ?_
 refine LR rfl (Jg (xs := [.int .u64 0, .int .u64 0, .int .u64 0, .int .u64 0, .slice none 0 0, Jx i row, .int .i64 0]) (n := 7) rfl (kn 0 rfl) rfl rfl rfl) ?_
 refine Jk (k := 1) (n := 7) (ys := [.int .u64 0, .int .u64 0, .int .u64 0, .int .u64 0, .slice none 0 0, Jx i row, .int .i64 0]) rfl rfl rfl rfl rfl rfl rfl honeV rfl ?_
 refine Jy 3 rfl ?_
 refine Jj rfl rfl (.cons (Jt (vs := [_, _, _, _, _, _, _]) rfl (kn 1 rfl) rfl rfl) .nil) (fun w1 hs1 => ?_)
 revert w1 hs1
 exact zq.1) : p := k ⟨h⟩
theorem MG (h : q) (k : Bx q → p := by
 intro zq
 refine Jm (k := 0) rfl rfl rfl rfl rfl (fun _ hS => (J7 rfl rfl rfl)) ?_
 refine Jm (k := 1) rfl rfl rfl rfl rfl (fun _ hS => (Jd rfl (.inl (hS _ (Kq (n := 0) rfl))) rfl rfl)) ?_
 exact zq.1) : p := k ⟨h⟩
theorem MH (h : q) (k : Bx q → p := by
 intro zq
 first | refine LR rfl (J7 rfl rfl rfl) ?_ | refine LK rfl ?_
 exact zq.1) : p := k ⟨h⟩
theorem MI (h : q) (k : Bx q → p := by
 intro zq
 refine JM 5 rfl ?_
 refine LR rfl (Jl (vs := [_, _, _, _, _, _, _]) rfl (kn 0 rfl) rfl rfl rfl rfl) ?_
 exact zq.1) : p := k ⟨h⟩
theorem MJ (h : q) (k : Bx q → p := by
 intro zq
 refine jx [(r1, .cells #[Jx n row3] 109 (0, 0))] [(0, .pure), (1, .pure), (2, .pure), (3, .pure), (4, .pure), (5, .act (zg (slV 1) (.cells #[Js sv] 9 (0, 0))))] 6 m5 m5 (fun p hp => List.mem_singleton.1 hp ▸ List.mem_cons_self) ?_
 refine YO rfl rfl rfl rfl (fun _ hS => (Jd rfl (.inl (hS _ (Kq (n := 0) rfl))) rfl rfl)) ?_
 refine YO rfl rfl rfl rfl (fun _ hS => (Je rfl)) ?_
 refine YO rfl rfl rfl rfl (fun _ hS => (Je rfl)) ?_
 refine YO rfl rfl rfl rfl (fun _ hS => (Vy (a := ls2.getD (2 * i) []) (b := ls2.getD (2 * i + 1) []) rfl rfl m0)) ?_
 refine Jbz rfl rfl rfl rfl Jc8 hkc ?_
 refine W5 (n := 1) (sz := 1) (vs := [_]) (zs := [_]) (r := [Js sv]) rfl rfl rfl rfl rfl rfl rfl rfl rfl rfl mq rfl (fun p hp => List.mem_singleton.1 hp ▸ List.mem_cons_self) fun rv => ?_
 refine xx ?_
 revert rv
 exact zq.1) : p := k ⟨h⟩
theorem MK (h : p := by
 refine pT rfl rfl rfl fun w1 hs1 => ?_
 exact MA) : p := h
theorem ML (h : q) (k : Bx q → p := by
 intro zq
 refine Mw fun r1 => ?_
 refine LN rfl fun r2 => ?_
 revert r1 r2
 exact zq.1) : p := k ⟨h⟩
theorem MM (h : p := by
 obtain ⟨sv, hsv⟩ : ∃ x, x = WS (ls2.getD (2 * i) [] ++ ls2.getD (2 * i + 1) []) := ⟨_, rfl⟩
 rw [← hsv] at hkc
 refine MJ fun rv => ?_
 refine JF (L0 := [_, _]) (xs := xs) (row := row3) (n := n) (sz := 1) (b := 16) (news := [Js sv]) (List.perm_append_comm (l₁ := [_, _])) rfl rfl rfl rfl (kn 0 rfl) rfl rfl rfl rfl rfl m6 rfl rfl rfl m6 hr3 m0 m0 fun ra cap sp hra => ?_
 refine Kh (k := 2) (cs' := #[Jx (n + 1) (some (ra, cap, sp))]) rfl rfl rfl rfl rfl rfl rfl rfl rfl rfl ?_
 refine Jy 2 rfl ?_
 refine QE [2, 0] (L' := [_, _]) m6 rfl ?_
 exact QQ (n + 1, xs ++ [Js sv], some (ra, cap, sp)) ⟨by omega, by simp only; omega, by simp only; rw [zI ls2 hii, ← hsv, hxs]; unfold W8; rw [List.map_append]; rfl, by rw [← hn]; exact hra⟩ rfl) : p := h
theorem MN (h : q) (k : Bx q → p := by
 intro zq
 refine JI 7 m5 m5 ?_
 refine Mx ?_
 refine Jb rfl rfl rfl (J7 rfl rfl rfl) ?_
 refine Jb rfl rfl rfl (Jd rfl (J2 (k := 1) rfl) rfl rfl) ?_
 refine Mx ?_
 refine Jb rfl rfl rfl (Jf (j := VX k pick i) rfl hst rfl rfl rfl mj (hx i hil)) ?_
 refine Jb rfl rfl rfl (KV oR rfl hst hty.1 rfl rfl) ?_
 refine Jb rfl rfl rfl (Jg (xs := (XW items i).cells) (n := 7) rfl (kn 0 rfl) rfl rfl (XW items i).len) ?_
 exact zq.1) : p := k ⟨h⟩
theorem MO (h : q) (k : Bx q → p := by
 intro zq
 refine jx [(r3, .cells #[Jx n row] 24 (0, 0))] [(0, .pure), (1, .pure), (2, .pure), (4, .pure), (5, .pure), (7, .act (zg (slV 1) (.cells y.cells.toArray 34 (0, 0))))] 8 m5 m5 (fun p hp => List.mem_singleton.1 hp ▸ List.mem_cons_self) ?_
 refine YO rfl rfl rfl rfl (fun _ hS => (J7 rfl rfl rfl)) ?_
 refine YO rfl rfl rfl rfl (fun _ hS => (Jd rfl (.inl (hS _ (Kq (n := 0) rfl))) rfl rfl)) ?_
 refine YO rfl rfl rfl rfl (fun _ hS => (J7 rfl rfl rfl)) ?_
 refine Jrb rfl rfl rfl rfl (Jd (v := KB s.accts.length s.p) rfl (kn 1 rfl) rfl rfl) ?_
 refine YO rfl rfl rfl rfl (fun _ hS => (Je rfl)) ?_
 refine YO rfl rfl rfl rfl (fun _ hS => (Jf (j := i) rfl hseg rfl rfl rfl mc m0)) ?_
 refine Jrb rfl rfl rfl rfl (Kc AcL.len oR rfl hseg hy rfl rfl) ?_
 exact zq.1) : p := k ⟨h⟩
theorem MP (h : q) (k : Bx q → p := by
 intro zq
 refine KW (k := 0) rfl rfl rfl rfl rfl (Jg (xs := (Ty.mk k n p ins).cells) (n := 3) rfl (kn 1 rfl) rfl rfl (Ty.mk k n p ins).len) ?_
 refine Jm (k := 1) rfl rfl rfl rfl rfl (fun _ hS => (J7 rfl rfl rfl)) ?_
 refine KW (k := 2) rfl rfl rfl rfl rfl (Jd rfl (kn 0 rfl) rfl rfl) ?_
 refine Jm (k := 4) rfl rfl rfl rfl rfl (fun _ hS => (J7 rfl rfl rfl)) ?_
 exact zq.1) : p := k ⟨h⟩
theorem MQ (h : q) (k : Bx q → p := by
 intro zq
 refine Yp (k := 0) rfl rfl rfl rfl rfl Jc7 jM fun mr => ?_
 refine KW (k := 3) rfl rfl rfl rfl rfl (Yk (XK (t := 3) m5) rfl rfl (kn 0 rfl) rfl rfl ⟨_, rfl⟩ Zh (ZF hkk)) ?_
 refine Jm (k := 4) rfl rfl rfl rfl rfl (fun _ hS => (J1 rfl rfl rfl)) ?_
 revert mr
 exact zq.1) : p := k ⟨h⟩
theorem MR (h : q) (k : Bx q → p := by
 intro zq
 rw [← hY]
 refine JU [] [(0, .pure), (1, .pure), (2, .pure), (3, .pure), (4, .pure), (5, .pure), (6, .pure), (8, .pure), (9, .pure), (10, .pure), (12, .pure), (13, .turn), (14, .pure), (15, .turn)] 16 [0, 1, 2, 3, 4, 5, 6, 7, 8, 9, 10, 11, 12, 13, 14, 15] m5 m5 m7 ?_
 refine Jm (k := 0) rfl rfl rfl rfl rfl (fun _ hS => (Je rfl)) ?_
 refine Jm (k := 1) rfl rfl rfl rfl rfl (fun _ hS => (Je rfl)) ?_
 refine Jm (k := 2) rfl rfl rfl rfl rfl (fun _ hS => (Je rfl)) ?_
 refine Jm (k := 3) rfl rfl rfl rfl rfl (fun _ hS => (Je rfl)) ?_
 refine Jm (k := 4) rfl rfl rfl rfl rfl (fun _ hS => (Je rfl)) ?_
 refine Jm (k := 5) rfl rfl rfl rfl rfl (fun _ hS => (Je rfl)) ?_
 exact zq.1) : p := k ⟨h⟩
theorem MS (h : p := by
 refine Jr 6 rfl ?_
 refine My ?_
 exact Jo (i + 1, pt, acc, n, xs, row) ⟨by simp only; omega, by rw [hinv1, if_pos m8]; simp, ho, by simp only; omega⟩ ml (lK rfl) (List.Sublist.refl _) (fun _ _ h => h)) : p := h
theorem MT (h : p := by
 rw [List.perm_iff_count]
 intro x
 simp only [List.count_append, List.count_cons]
 omega) : p := h
theorem MU (h : p := by exact Jo (i + 1) m0 m0 (lK rfl) (List.Sublist.refl _) (fun _ _ h => h)) : p := h
theorem MV (h : q) (k : Bx q → p := by
 intro zq
 refine LR rfl (Ju rfl hs rfl) ?_
 exact zq.1) : p := k ⟨h⟩
theorem MW (h : q) (k : Bx q → p := by
 intro zq
 refine Jm (k := 8) rfl rfl rfl rfl rfl (fun _ _ => vF (op := .or) (m := (Y.getD (i / 8) 0).toNat) (n := 2 ^ (i % 8)) rfl rfl rfl (Vs _) (Nat.pow_lt_pow_right m6 m0 : 2 ^ (i % 8) < 2 ^ 8) rfl) ?_
 refine WE (Jh7 _ m0) ?_
 refine Jm (k := 9) rfl rfl rfl rfl rfl (fun _ _ => Ki (j := (i / 8)) (m := 1) (off' := (i / 8)) rfl rfl rfl rfl m0 m0 m0) ?_
 refine WG (k := 10) (q := 0) (cs' := ((KM l N (i + 1)).map bV).toArray) rfl rfl rfl rfl rfl rfl rfl rfl nD (by rw [zJ, hst1]) rfl (fun _ h => nomatch h) ?_
 refine Kz ?_
 refine JM 5 rfl ?_
 refine Jn m9 ?_
 exact zq.1) : p := k ⟨h⟩
theorem MX (h : q) (k : Bx q → p := by
 intro zq
 first | refine LR rfl (JQ rfl rfl) ?_ | refine LK rfl ?_
 exact zq.1) : p := k ⟨h⟩
theorem MY (h : p := by
 refine Jy 4 rfl ?_
 exact MK) : p := h
theorem MZ (h : p := by
 refine Jb rfl rfl rfl (JH rfl) ?_
 refine JY ?_
 refine JM 6 rfl ?_
 refine Jn mP ?_
 refine Jy 2 rfl ?_
 refine Jv ?_
 refine xo (List.Perm.cons _ (Jc1 (_ :: JJ 9 (W8 (SL.pairUp ls2)) row3) (WX Ds) _)) ?_
 exact zz (k + 1, SL.pairUp ls2, row3, z2, D :: Ds) rfl ⟨hk, hr3, by rw [show lg m - (k + 1) = K by omega]; exact heq, by rw [show lg m - (k + 1) = K by omega]; simp only; omega, ZV ls2, by rw [hz2]; exact ZC _⟩ ml (lK rfl) (.cons_cons _ ((List.Sublist.refl _).append (.cons _ (List.sublist_append_left _ _)))) (fun _ _ h => h)) : p := h
theorem N0 (h : q) (k : Bx q → p := by
 intro zq
 refine JR 3 rfl ?_
 refine JU [] [(0, .pure), (1, .pure), (2, .pure), (3, .pure), (5, .pure)] 6 [0, 1, 2, 3, 4, 5] m5 m5 m7 ?_
 refine Jm (k := 0) rfl rfl rfl rfl rfl (fun _ hS => (Je rfl)) ?_
 refine Jm (k := 1) rfl rfl rfl rfl rfl (fun _ hS => (Je rfl)) ?_
 refine Jm (k := 2) rfl rfl rfl rfl rfl (fun _ _ => Ja5 (a := B) (b := y) rfl rfl m0 m0) ?_
 refine Jm (k := 3) rfl rfl rfl rfl rfl (fun _ hS => (J7 rfl rfl rfl)) ?_
 refine KW (k := 4) rfl rfl rfl rfl rfl (Jd rfl (kn 0 rfl) rfl rfl) ?_
 refine Jm (k := 5) rfl rfl rfl rfl rfl (fun _ hS => (J1 rfl rfl rfl)) ?_
 exact zq.1) : p := k ⟨h⟩
theorem N1 (h : q) (k : Bx q → p := by
 intro zq
 refine JU [(r1, .cells #[KB accts.length p] 24 (0, 0))] [(0, .grow (Qu Ju8 (fun y => y.x.val) (fun y => y.L))), (1, .pure), (2, .pure), (3, .grow (Qu v0 (fun y => y.x.val) (fun y => y.L))), (5, .pure), (6, .pure)] 7 [1, 2, 0, 3, 4, 5, 6] m5 m5 m7 ?_
 refine Jm (k := 1) rfl rfl rfl rfl rfl (fun _ hS => (J7 rfl rfl rfl)) ?_
 refine Jm (k := 2) rfl rfl rfl rfl rfl (fun _ hS => (Jd rfl (.inl (hS _ (Kq (n := 0) rfl))) rfl rfl)) ?_
 refine KY (k := 0) rfl rfl rfl rfl rfl Jv3 Ja9 oN fun t => ?_
 refine KY (k := 3) rfl rfl rfl rfl rfl (enters_of Tryz.func54 m5 rfl) (Jiw hs hn hb) oR fun v => ?_
 revert t v
 exact zq.1) : p := k ⟨h⟩
theorem N3 (h : q) (k : Bx q → p := by
 intro zq
 refine LR rfl (Jg (xs := a.cells) (n := 8) rfl (kn 1 rfl) rfl rfl rfl) ?_
 refine JB (n := 1) (sz := 8) (vs := [_]) (zs := [_, _, _, _, _, _, _, _]) (r := a.cells) rfl rfl rfl rfl rfl rfl rfl rfl rfl mi rfl fun rv => ?_
 refine LR rfl (J8 (r := [_]) rfl rfl) ?_
 refine Jc (v := .int .i64 (KP (StL.er ⟨[a], some (⟨rv, 0, none⟩, 1)⟩))) rfl rfl rfl Jvy (yI (Jqg ha rv)) (fun q hq => (List.mem_cons.1 hq).imp (fun h => by rw [h]; exact List.mem_cons_self) id) ?_
 refine Jn (congrArg (Value.int .i64) (chk_one a.er)) ?_
 refine JR 10 rfl ?_
 revert rv
 exact zq.1) : p := k ⟨h⟩
theorem N4 (h : q) (k : Bx q → p := by
 intro zq
 refine Jb rfl rfl rfl (J7 rfl rfl rfl) ?_
 refine Jb rfl rfl rfl (Jd rfl (kn 0 rfl) rfl rfl) ?_
 exact zq.1) : p := k ⟨h⟩
theorem N6 (h : q) (k : Bx q → p := by
 intro zq
 refine Jr 2 rfl ?_
 exact zq.1) : p := k ⟨h⟩
theorem N5 (h : q) (k : Bx q → p := by
 intro zq
 refine JM 5 rfl ?_
 exact zq.1) : p := k ⟨h⟩
theorem N7 (h : q) (k : Bx q → p := by
 intro zq
 refine KW (k := 2) rfl rfl rfl rfl rfl (Jd rfl (kn 2 rfl) rfl rfl) ?_
 refine KW (k := 5) rfl rfl rfl rfl rfl (Jl (vs := [_, _, _]) rfl (kn 2 rfl) rfl rfl rfl rfl) ?_
 refine KW (k := 6) rfl rfl rfl rfl rfl (Jl (vs := [_, _, _, _, _, _, _]) rfl (kn 1 rfl) rfl rfl rfl rfl) ?_
 refine MQ fun mr => ?_
 refine WE (Jh1 hkk) ?_
 refine Ql (k := 7) rfl rfl rfl rfl rfl hO.1 hO.2 oR ?_
 refine Jm (k := 8) rfl rfl rfl rfl rfl (fun _ hS => (J1 rfl rfl rfl)) ?_
 refine Jm (k := 9) rfl rfl rfl rfl rfl (fun _ hS => (JH rfl)) ?_
 revert mr
 exact zq.1) : p := k ⟨h⟩
theorem N9 (h : q) (k : Bx q → p := by
 intro zq
 refine Jm (k := 8) rfl rfl rfl rfl rfl (fun _ hS => (Je rfl)) ?_
 refine Jm (k := 9) rfl rfl rfl rfl rfl (fun _ hS => (Je rfl)) ?_
 refine Jm (k := 10) rfl rfl rfl rfl rfl (fun _ _ => Ki (j := i) (m := 1) (off' := i) rfl rfl rfl rfl m0 m0 m0) ?_
 refine KW (k := 11) rfl rfl rfl rfl rfl (Jd rfl (kn 0 rfl) rfl (vz (xs := Y.map bV) (v := bV (Y.getD (i) 0)) (Yt m0))) ?_
 refine Jm (k := 12) rfl rfl rfl rfl rfl (fun _ _ => Ki (j := i) (m := 1) (off' := i) rfl rfl rfl rfl m0 m0 m0) ?_
 exact zq.1) : p := k ⟨h⟩
theorem Na (h : p := by exact Jo (i + 1) m0 m0 (lK rfl) (List.nil_sublist _) (fun _ _ h => h)) : p := h
theorem Nb (h : q) (k : Bx q → p := by
 intro zq
 refine LW 2 [] rfl rfl (Jy 1 rfl (qN 2 rfl ?_))
 refine Mv fun w1 hs1 => ?_
 revert w1 hs1
 exact zq.1) : p := k ⟨h⟩
theorem Nc (h : q) (k : Bx q → p := by
 intro zq
 refine MC fun w1 hs1 => ?_
 refine ⟨?_, hs1.keep⟩
 revert w1 hs1
 exact zq.1) : p := k ⟨h⟩
theorem Nd (h : q) (k : Bx q → p := by
 intro zq
 refine JS 6 rfl ?_
 exact zq.1) : p := k ⟨h⟩
theorem Nf (h : q) (k : Bx q → p := by
 intro zq
 refine JT ?_
 refine Jr 9 rfl ?_
 refine MV ?_
 refine JR 4 rfl ?_
 refine Jw (σ := Nat) (fun i => i ≤ xs.length ∧ ∀ j, j < i → ∀ y, xs[j]? = some y → pr y = false) (fun i => [(0, KB xs.length p), (1, .func (.func g) #[] caps.toArray), (7, .int .i64 (xs.length : Int)), (8, .int .i64 (i : Int))]) (fun _ => []) (fun _ _ _ => True) (fun i => xs.length - i) 0 ⟨by omega, fun j hj => absurd hj m0⟩ (lK rfl) (List.nil_sublist _) (fun _ _ h => h) ?_
 exact zq.1) : p := k ⟨h⟩
theorem Ng (h : q) (k : Bx q → p := by
 intro zq
 refine LT 0 rfl rfl ?_
 exact zq.1) : p := k ⟨h⟩
theorem Nh (h : q) (k : Bx q → p := by
 intro zq
 refine Jb rfl rfl rfl (JL (j := i) (m := 1) (off' := i) rfl rfl rfl rfl m0 m0 m0) ?_
 exact zq.1) : p := k ⟨h⟩
theorem N2 (h : q) (k : Bx q → p := by
 intro zq
 refine pT rfl rfl rfl fun w1 hs1 => ?_
 revert w1 hs1
 exact zq.1) : p := k ⟨h⟩
theorem Ni (h : q) (k : Bx q → p := by
 intro zq
 refine LW 2 [] rfl rfl (Jy 1 rfl (Za 1 rfl ?_))
 exact zq.1) : p := k ⟨h⟩
theorem Nj (h : p := by
 refine JF (L0 := [_, _, _, _]) (xs := W8 (RS.take i)) (row := row) (n := i) (sz := 1) (b := 16) (news := [Js sv]) (List.perm_append_comm (l₁ := [_, _, _, _])) rfl rfl rfl rfl (kn 0 rfl) rfl rfl rfl rfl rfl m6 rfl rfl rfl m6 hrow m0 m0 fun ra cap sp hra => ?_
 refine JM 6 rfl ?_
 refine Jn m9 ?_
 refine Jy 2 rfl ?_
 refine Jv ?_
 refine QE [4, 0] (L' := [_, _]) m6 rfl ?_
 exact Jo (i + 1, some (ra, cap, sp)) ⟨by simp only; omega, by simp only; rw [htki, Zm]; exact hra⟩ ml (lK rfl) Mc (fun _ _ h => h)) : p := h
theorem Nk (h : q) (k : Bx q → p := by
 intro zq
 refine Jb rfl rfl rfl (Jd (v := KB s.accts.length s.p) rfl (kn 1 rfl) rfl rfl) ?_
 refine Mx ?_
 refine Jb rfl rfl rfl (Jf (j := i) rfl hseg rfl rfl rfl mc m0) ?_
 refine Jb rfl rfl rfl (JD (off' := Xd s.p + (i * 8 + 0)) rfl rfl nh) ?_
 refine Jb rfl rfl rfl (Qo AcL.len (k := 0) (v := Js y.addr) oR rfl hseg hy rfl rfl) ?_
 refine Jb rfl rfl rfl (J7 rfl rfl rfl) ?_
 refine Jb rfl rfl rfl (Jd rfl (kn 2 rfl) rfl rfl) ?_
 refine Jb rfl rfl rfl (W3 (a := y.addr) (b := a.addr) rfl rfl) ?_
 exact zq.1) : p := k ⟨h⟩
theorem Nl (h : p := by
 refine LR rfl (Kt rfl rfl) ?_
 refine Jy 4 rfl ?_
 refine N2 fun w1 hs1 => ?_
 exact ⟨(r1, r2), rfl, hs1⟩) : p := h
theorem Nm (h : q) (k : Bx q → p := by
 intro zq
 refine KS 11 rfl ?_
 refine Mv fun w1 hs1 => ?_
 revert w1 hs1
 exact zq.1) : p := k ⟨h⟩
theorem Nn (h : q) (k : Bx q → p := by
 intro zq
 refine LR rfl (J8 (r := [_, _, _, _]) rfl rfl) ?_
 exact zq.1) : p := k ⟨h⟩
theorem No (h : q) (k : Bx q → p := by
 intro zq
 refine LR rfl (Jf (j := i) rfl hseg rfl rfl rfl mc m0) ?_
 exact zq.1) : p := k ⟨h⟩
theorem Np (h : q) (k : Bx q → p := by
 intro zq
 refine LR rfl (JQ rfl rfl) ?_
 refine LS 2 [] rfl rfl ?_
 exact zq.1) : p := k ⟨h⟩
theorem Nq (h : q) (k : Bx q → p := by
 intro zq
 refine JT ?_
 refine N6 ?_
 refine LR rfl (Jd (v := .int .i64 (m : Int)) rfl (J2 (k := 0) rfl) rfl rfl) ?_
 refine JR 4 rfl ?_
 refine Jw (σ := Nat) (fun i => i ≤ m) (fun i => [(0, .func (.yield q) #[] #[]), (1, VA ri), (2, VA rt), (5, .int .i64 (m : Int)), (6, .int .i64 (i : Int))]) (fun _ => []) (fun i => XI i) (fun i => m - i) 0 (Nat.zero_le _) (lK rfl) (List.Sublist.refl _) (fun _ _ h => h) ?_
 exact zq.1) : p := k ⟨h⟩
theorem Nr (h : q) (k : Bx q → p := by
 intro zq
 refine Jr 3 rfl ?_
 refine LR rfl (Jg (xs := (JE k pick ins i).cells) (n := 3) rfl (kn 1 rfl) rfl rfl (JE k pick ins i).len) ?_
 refine LR rfl (Jg (xs := (XW items i).cells) (n := 7) rfl (kn 0 rfl) rfl rfl (XW items i).len) ?_
 refine Jc rfl rfl rfl Jnn (ih _ hix.2 (hi _ hix.2) _ (dp + 1) (hit _ hty.2) (hci _ hty.2)) (fun q hq => Or.inr (List.mem_append_right _ hq)) ?_
 refine JR 9 rfl ?_
 exact zq.1) : p := k ⟨h⟩
theorem Ns (h : q) (k : Bx q → p := by
 intro zq
 refine JU [] [(0, .pure), (1, .pure), (2, .pure), (3, .pure), (5, .pure), (6, .pure), (7, .pure), (8, .pure), (9, .pure), (10, .turn)] 11 [0, 1, 2, 3, 4, 5, 6, 7, 8, 9, 10] m5 m5 m7 ?_
 refine Jm (k := 0) rfl rfl rfl rfl rfl (fun _ hS => (Je rfl)) ?_
 refine Jm (k := 1) rfl rfl rfl rfl rfl (fun _ hS => (Je rfl)) ?_
 refine Jm (k := 2) rfl rfl rfl rfl rfl (fun _ _ => (J1 rfl rfl rfl)) ?_
 exact zq.1) : p := k ⟨h⟩
theorem Nt (h : q) (k : Bx q → p := by
 intro zq
 first | refine Jb rfl rfl rfl (Xe rfl rfl) ?_ | refine Jb rfl rfl rfl (Xf rfl rfl) ?_
 exact zq.1) : p := k ⟨h⟩
theorem Nu (h : q) (k : Bx q → p := by
 intro zq
 refine LR rfl (Jl (vs := [_, _, _, _, _, _, _, _]) rfl (kn 2 rfl) rfl rfl rfl rfl) ?_
 exact zq.1) : p := k ⟨h⟩
theorem Nv (h : q) (k : Bx q → p := by
 intro zq
 refine LS 1 [] rfl rfl ?_
 refine Kh (k := 2) (cs' := #[Jx (n + 1) (some (rap, cap, sp))]) rfl rfl rfl rfl rfl rfl rfl rfl rfl rfl ?_
 exact zq.1) : p := k ⟨h⟩
theorem Nx (h : q) (k : Bx q → p := by
 intro zq
 refine Jm (k := 2) rfl rfl rfl rfl rfl (fun _ hS => (J7 rfl rfl rfl)) ?_
 exact zq.1) : p := k ⟨h⟩
theorem Ny (h : p := by
 have e : TY = TY.take i ++ (x :: TY.drop (i + 1)) := by rw [← KK hx, List.take_append_drop]
 rw [e, V5, Ke] at hH
 have := ZL (TY.drop (i + 1))
 have := h.at_
 omega) : p := h
theorem Nz (h : q) (k : Bx q → p := by
 intro zq
 refine Jb rfl rfl rfl (JH rfl) ?_
 refine JY ?_
 exact zq.1) : p := k ⟨h⟩
theorem NA (h : q) (k : Bx q → p := by
 intro zq
 refine Jm (k := 3) rfl rfl rfl rfl rfl (fun _ _ => Ki (j := (i / 8)) (m := 1) (off' := (i / 8)) rfl rfl rfl rfl m0 m0 m0) ?_
 refine KW (k := 4) rfl rfl rfl rfl rfl (Jd rfl (kn 0 rfl) rfl (by rw [Ve]; exact Yt m0)) ?_
 refine Jm (k := 5) rfl rfl rfl rfl rfl (fun _ hS => (Je rfl)) ?_
 refine Jm (k := 6) rfl rfl rfl rfl rfl (fun _ _ => (J1 rfl rfl rfl)) ?_
 exact zq.1) : p := k ⟨h⟩
theorem Nw (h : q) (k : Bx q → p := by
 intro zq
 refine JR 3 rfl ?_
 exact zq.1) : p := k ⟨h⟩
theorem NB (h : q) (k : Bx q → p := by
 intro zq
 refine Jm (k := 5) rfl rfl rfl rfl rfl (fun _ hS => (J7 rfl rfl rfl)) ?_
 refine Jm (k := 6) rfl rfl rfl rfl rfl (fun _ hS => (Jd rfl (.inl (hS _ (Kq (n := 1) rfl))) rfl rfl)) ?_
 exact zq.1) : p := k ⟨h⟩
theorem NC (h : q) (k : Bx q → p := by
 intro zq
 rw [Qq _ n ins.length a b c d bits pb items pi pick _ rfl]
 exact zq.1) : p := k ⟨h⟩
theorem ND (h : q) (k : Bx q → p := by
 intro zq
 first | refine Jb rfl rfl rfl (Je rfl) ?_ | refine J9 rfl rfl rfl ?_
 first | (refine Jb rfl rfl rfl (Jf (j := i) rfl hseg rfl rfl rfl mc m0) ?_) | refine J9 rfl rfl rfl ?_
 exact zq.1) : p := k ⟨h⟩
theorem NE (h : q) (k : Bx q → p := by
 intro zq
 refine JT ?_
 refine N6 ?_
 refine KO (cs := (a.map uV).toArray) rfl rfl rfl rfl fun r1 => ?_
 refine KO (cs := (b.map uV).toArray) rfl rfl rfl rfl fun r2 => ?_
 revert r1 r2
 exact zq.1) : p := k ⟨h⟩
theorem NF (h : q) (k : Bx q → p := by
 intro zq
 refine Jn m9 ?_
 refine Jy 2 rfl ?_
 refine Jv ?_
 exact zq.1) : p := k ⟨h⟩
theorem NG (h : q) (k : Bx q → p := by
 intro zq
 refine Jr 1 rfl ?_
 refine LN rfl fun r1 => ?_
 refine JM 6 rfl ?_
 refine Vp rfl rfl rfl (enters_of Tryz.func177 m5 rfl) (Jdo ls2.length row2) fun rb => ?_
 refine Ks ((List.Perm.swap _ _ _).trans (List.Perm.cons _ List.perm_middle.symm)) ?_
 change HL _ _ _ ((r1, .cells #[.slice none 0 0] 109 (0, 0)) :: (WX Ds ++ ((rb, .cells #[Jx ls2.length row2] 109 (0, 0)) :: JJ 9 (W8 ls2) row2))) _ _ _ _
 refine Nw ?_
 revert r1 rb
 exact zq.1) : p := k ⟨h⟩
theorem HX (h : q) (k : Bx q → p := by
 intro zq
 refine JI 8 m5 m5 ?_
 refine Mx ?_
 refine Mx ?_
 refine Jb rfl rfl rfl (Jf (j := i) rfl hs rfl rfl rfl mc m0) ?_
 refine Jb rfl rfl rfl (JD (off' := Xd p + (i * 2 + 0)) rfl rfl Md) ?_
 refine Jb rfl rfl rfl (Qo JN (k := 0) (v := Js y.1) oR rfl hs hy rfl rfl) ?_
 refine N4 ?_
 refine Jb rfl rfl rfl (W3 (a := y.1) (b := x.1) rfl rfl) ?_
 exact zq.1) : p := k ⟨h⟩
theorem NI (h : q) (k : Bx q → p := by
 intro zq
 refine Jb rfl rfl rfl (JL (j := 0) rfl rfl rfl rfl rfl mC ma) ?_
 refine Jb rfl rfl rfl (Jd rfl (kn 0 rfl) rfl rfl) ?_
 exact zq.1) : p := k ⟨h⟩
theorem NJ (h : q) (k : Bx q → p := by
 intro zq
 refine LW 2 [0] rfl rfl ?_
 first | (refine LR rfl (Jf (j := i) rfl hseg rfl rfl rfl mc m0) ?_) | refine LK rfl ?_
 first | (refine LR rfl (JD (off' := Xd a.p + (i * 2 + 1)) rfl rfl nG) ?_) | refine LK rfl ?_
 first | refine LR rfl (Qo JN (k := 1) (v := Js x.2) oR rfl hseg hx rfl rfl) ?_ | refine LK rfl ?_
 refine MX ?_
 exact zq.1) : p := k ⟨h⟩
theorem NL (h : p := by
 refine LR rfl (KV oR rfl hst hty.1 rfl rfl) ?_
 refine Jk (k := 0) (n := 3) (ys := X.cells) rfl rfl rfl rfl rfl X.len rfl X.one rfl ?_
 refine Jy 5 rfl ?_
 refine Jj rfl rfl (.cons (Jt (vs := X.cells) rfl (kn 0 rfl) rfl (by rw [X.len]; rfl)) .nil) (fun w1 hs1 => ?_)
 exact MA) : p := h
theorem NM (h : q) (k : Bx q → p := by
 intro zq
 refine LR rfl (Jf (j := i) rfl hs rfl rfl rfl mc m0) ?_
 exact zq.1) : p := k ⟨h⟩
theorem NN (h : q) (k : Bx q → p := by
 intro zq
 refine Jm (k := 1) rfl rfl rfl rfl rfl (fun _ hS => (J7 rfl rfl rfl)) ?_
 exact zq.1) : p := k ⟨h⟩
theorem NO (h : q) (k : Bx q → p := by
 intro zq
 refine Jr 3 rfl ?_
 refine LR rfl (Jg (xs := Ty.cells (.mk k n p ins)) (n := 3) rfl (J2 (k := 1) rfl) rfl rfl (Ty.len _)) ?_
 refine QV rfl (Jc rfl rfl rfl (enters_of Tryz.func231 m5 rfl) (Juw ht (fun _ => Int.le_refl 0) (hx i hil)) (fun q hq => Or.inr (List.mem_cons_of_mem _ (List.mem_cons_of_mem _ hq))) ?_)
 exact zq.1) : p := k ⟨h⟩
theorem NP (h : p := by
 refine Mw fun r1 => ?_
 refine XN 7 [0] rfl rfl ?_
 refine LR rfl (Jd rfl (Or.inr hb) rfl rfl) ?_
 refine LR rfl (Vi rfl rfl) ?_
 exact MY) : p := h
theorem NQ (h : p := by exact zm h0 hkm hdep (Region.noSelect_spec hsel) (fun E E' listed a hp hT => ⟨hT.1, hTp _ _ _ hp hT.2⟩) (hlt k hkm) (fun E' listed' a' hL => hseq _ hL.1) l.length listed E a inv (Region.free_spec h0 hr.1.2) hSE nr hr' hr.2 h1 fun x => next _ _ hSE.grow (h2 x)) : p := h
theorem NR (h : q) (k : Bx q → p := by
 intro zq
 refine Jj rfl rfl (.cons (Jt (vs := [_]) rfl (kn 0 rfl) rfl rfl) (.cons (Jp rfl) .nil)) (fun w1 hs1 => ?_)
 revert w1 hs1
 exact zq.1) : p := k ⟨h⟩
theorem NS (h : q) (k : Bx q → p := by
 intro zq
 refine JR 4 rfl ?_
 refine JU [] [(1, .pure), (4, .pure), (6, .pure), (7, .pure), (8, .pure)] 9 [0, 1, 2, 4, 5, 6, 3, 7, 8] m5 m5 m7 ?_
 refine MP ?_
 refine KW (k := 5) rfl rfl rfl rfl rfl (Jd rfl (kn 0 rfl) rfl rfl) ?_
 refine Jm (k := 6) rfl rfl rfl rfl rfl (fun _ hS => (Ju rfl hs rfl)) ?_
 exact zq.1) : p := k ⟨h⟩
theorem NT (h : q) (k : Bx q → p := by
 intro zq
 refine Jr 5 rfl ?_
 refine My ?_
 exact zq.1) : p := k ⟨h⟩
theorem NU (h : q) (k : Bx q → p := by
 intro zq
 refine LW 1 [0] rfl rfl ?_
 exact zq.1) : p := k ⟨h⟩
theorem NV (h : q) (k : Bx q → p := by
 intro zq
 refine Jj rfl rfl (.cons (Jt (vs := [_, _, _, _, _, _, _, _]) rfl (kn 1 rfl) rfl rfl) (.cons (Jp rfl) .nil)) (fun w1 hs1 => ?_)
 revert w1 hs1
 exact zq.1) : p := k ⟨h⟩
theorem NW (h : q) (k : Bx q → p := by
 intro zq
 refine KS 7 rfl ?_
 refine Mv fun w1 hs1 => ?_
 revert w1 hs1
 exact zq.1) : p := k ⟨h⟩
theorem NY (h : q) (k : Bx q → p := by
 intro zq
 refine LR rfl (Jg (xs := (JE k 0 ins i).cells) (n := 3) rfl (kn 0 rfl) rfl rfl (JE k 0 ins i).len) ?_
 exact zq.1) : p := k ⟨h⟩
theorem kc (h : q) (k : Bx q → p := by
 intro zq
 refine LR rfl (Jf (j := i) rfl hs rfl rfl rfl rfl m0) ?_
 exact zq.1) : p := k ⟨h⟩
theorem ko (h : q) (k : Bx q → p := by
 intro zq
 refine LS 2 [] rfl rfl ?_
 exact zq.1) : p := k ⟨h⟩
theorem kd (h : q) (k : Bx q → p := by
 intro zq
 refine JT ?_
 refine Jr 9 rfl ?_
 exact zq.1) : p := k ⟨h⟩
theorem HY (h : p := by
 refine JI 7 m5 m5 ?_
 refine Jb rfl rfl rfl (Jd (v := Jx (SL.pairUp ls2).length row3) rfl (kn 1 rfl) rfl rfl) ?_
 refine Mx ?_
 refine Mx ?_
 refine Jb rfl rfl rfl (Vy (a := z) (b := z) rfl rfl m0) ?_
 refine Qd rfl rfl rfl Jc8 hkz ?_
 refine Jb rfl rfl rfl (JH rfl) ?_
 exact MZ) : p := h
theorem kg (h : q) (k : Bx q → p := by
 intro zq
 refine Mw fun r1 => ?_
 refine N5 ?_
 refine MD ?_
 revert r1
 exact zq.1) : p := k ⟨h⟩
theorem ki (h : p := by
 rw [if_neg hmod, if_neg M8] at hmq
 refine JM 6 rfl ?_
 refine LR rfl (Ja5 (a := B) (b := y) rfl rfl m0 m0) ?_
 refine Jy 4 rfl ?_
 refine N2 fun w1 hs1 => ?_
 exact .inl ⟨by rw [hmq], (), by rw [hmq]; rfl, hs1.weakL (List.nil_sublist _)⟩) : p := h
theorem Gs (h : q) (k : Bx q → p := by
 intro zq
 refine Ng ?_
 refine Jy 5 rfl ?_
 exact zq.1) : p := k ⟨h⟩
theorem kp (h : q) (k : Bx q → p := by
 intro zq
 first | refine Jb rfl rfl rfl (J7 rfl rfl rfl) ?_ | refine J9 rfl rfl rfl ?_
 exact zq.1) : p := k ⟨h⟩
theorem kq (h : p := by
 rw [hset, if_neg m0, if_neg m0, if_pos m0]
 exact ⟨⟨a, 5, [], ha, rfl⟩, rfl, hs1.weakL (List.nil_sublist _)⟩) : p := h
theorem kr (h : q) (k : Bx q → p := by
 intro zq
 refine Jm (k := 5) rfl rfl rfl rfl rfl (fun _ hS => (Qh rfl rfl)) ?_
 refine Jm (k := 6) rfl rfl rfl rfl rfl (fun _ hS => (Qh rfl rfl)) ?_
 exact zq.1) : p := k ⟨h⟩
theorem ku (h : q) (k : Bx q → p := by
 intro zq
 refine LW 1 [1] rfl rfl ?_
 refine MH ?_
 exact zq.1) : p := k ⟨h⟩
theorem kv (h : q) (k : Bx q → p := by
 intro zq
 refine KS 4 rfl ?_
 refine Qw rfl rfl .nil (fun w1 hs1 => ?_)
 revert w1 hs1
 exact zq.1) : p := k ⟨h⟩
theorem kw (h : p := by exact fun _ _ _ h => h.elim) : p := h
theorem kA (h : q) (k : Bx q → p := by
 intro zq
 refine JR 4 rfl ?_
 exact zq.1) : p := k ⟨h⟩
theorem kB (h : q) (k : Bx q → p := by
 intro zq
 refine LR rfl (Jg (xs := a.cells) (n := 8) rfl (kn 2 rfl) rfl rfl rfl) ?_
 exact zq.1) : p := k ⟨h⟩
theorem kC (h : q) (k : Bx q → p := by
 intro zq
 refine Jb rfl rfl rfl (JL (j := i / 8) (m := 1) (off' := i / 8) rfl rfl rfl rfl m0 m0 m0) ?_
 exact zq.1) : p := k ⟨h⟩
theorem kD (h : p := by
 refine Jr 3 rfl ?_
 refine Jh m0 m0 ?_
 refine Jy 3 rfl ?_
 refine Jv ?_
 exact Jo ((i + j) / 2 + 1, j) ⟨⟨by simp only; omega, hj0⟩, Jcs hso hx m8, hi2⟩ ml (lK rfl) (List.nil_sublist _) (fun _ _ h => h)) : p := h
theorem kE (h : q) (k : Bx q → p := by
 intro zq
 refine MG ?_
 refine Nx ?_
 refine Jm (k := 3) rfl rfl rfl rfl rfl (fun _ hS => (Jd rfl (.inl (hS _ (Kq (n := 1) rfl))) rfl rfl)) ?_
 exact zq.1) : p := k ⟨h⟩
theorem kF (h : q) (k : Bx q → p := by
 intro zq
 refine JS 5 rfl ?_
 exact zq.1) : p := k ⟨h⟩
theorem kG (h : q) (k : Bx q → p := by
 intro zq
 refine Jn mW ?_
 refine WR rfl ?_
 refine Jn mX ?_
 refine WR rfl ?_
 refine Jn mM ?_
 refine W1 (n := N) (b := 1) rfl rfl rfl rfl rfl rfl rfl rfl rfl m0 m0 fun rm => ?_
 rw [show List.replicate N (Value.int .u8 0) = (KM l N 0).map bV from by rw [KM, List.map_replicate]; rfl]
 revert rm
 exact zq.1) : p := k ⟨h⟩
theorem kH (h : q) (k : Bx q → p := by
 intro zq
 refine LR rfl (J8 (r := [_, _, _, _, _, _, _]) rfl rfl) ?_
 exact zq.1) : p := k ⟨h⟩
theorem kI (h : q) (k : Bx q → p := by
 intro zq
 refine Jj rfl rfl (.cons (KL rfl (kn 1 rfl) rfl rfl) .nil) (fun w1 hs1 => ?_)
 revert w1 hs1
 exact zq.1) : p := k ⟨h⟩
theorem kJ (h : q) (k : Bx q → p := by
 intro zq
 first | refine Jb rfl rfl rfl (Jd rfl (kn 0 rfl) rfl rfl) ?_ | refine J9 rfl rfl rfl ?_
 exact zq.1) : p := k ⟨h⟩
theorem kz (h : q) (k : Bx q → p := by
 intro zq
 refine LS 3 [] rfl rfl ?_
 exact zq.1) : p := k ⟨h⟩
theorem kL (h : q) (k : Bx q → p := by
 intro zq
 refine LR rfl (Ju rfl hseg rfl) ?_
 exact zq.1) : p := k ⟨h⟩
theorem kM (h : q) (k : Bx q → p := by
 intro zq
 refine Jr 6 rfl ?_
 refine Kh (k := 2) (cs' := #[Js a.addr, uV a.nonce, uV a.bal.a, uV a.bal.b, uV a.bal.c, uV a.bal.d, Js a.code, Jx (Kx a.slots k v).length row]) rfl rfl rfl rfl rfl (We _ _) rfl rfl rfl rfl ?_
 refine JM 4 rfl ?_
 exact zq.1) : p := k ⟨h⟩
theorem kN (h : q) (k : Bx q → p := by
 intro zq
 refine No ?_
 refine LR rfl (Kc AcL.len oR rfl hseg ha rfl rfl) ?_
 exact zq.1) : p := k ⟨h⟩
theorem kP (h : q) (k : Bx q → p := by
 intro zq
 refine Jk (k := 0) (n := 7) (ys := (XW items i).cells) rfl rfl rfl rfl rfl (XW items i).len rfl (XW items i).one rfl ?_
 exact zq.1) : p := k ⟨h⟩
theorem kQ (h : p := by exact Jb9 h0 nr hdep (Region.noSelect_spec hsel) (hlt k hkm) (fun E' listed' a' hL => hseq _ hL.1) l.length listed E a inv (Region.free_spec h0 hr.1.2) hSE hr' h1 (next _ _ hSE h2)) : p := h
theorem kR (h : p := by
 refine JS 1 rfl ?_
 have hg1 := jP hm2e (i := 2 * i) m0
 have hg2 := jP hm2e (i := 2 * i + 1) m0
 have hkc := Jdn (s := ls2.getD (2 * i) [] ++ ls2.getD (2 * i + 1) []) ne
 exact MM) : p := h
theorem kS (h : q) (k : Bx q → p := by
 intro zq
 refine Jy 1 rfl ?_
 refine hKr _ _ ?_
 refine JT ?_
 exact zq.1) : p := k ⟨h⟩
theorem kU (h : q) (k : Bx q → p := by
 intro zq
 refine Jr 1 rfl ?_
 refine LR rfl (Jl (vs := [Jx n row]) rfl (kn 0 rfl) rfl rfl rfl rfl) ?_
 refine Qs (k := 3) (n := 1) (cs' := #[Jx n row]) (vs := #[_]) rfl rfl rfl rfl rfl rfl mD mo rfl rfl ?_
 refine Jy 4 rfl ?_
 refine Jj rfl rfl (.cons (Jt (vs := [_]) rfl (kn 3 rfl) rfl rfl) (.cons (Jp rfl) .nil)) (fun w1 hs1 => ?_)
 revert w1 hs1
 exact zq.1) : p := k ⟨h⟩
theorem NZ (h : q) (k : Bx q → p := by
 intro zq
 refine Mx ?_
 refine Mz ?_
 exact zq.1) : p := k ⟨h⟩
theorem HZ (h : p := by
 obtain rfl : n = (SL.pairUp ls2).length := by omega
 subst hxs
 rw [← hn] at hr3
 refine Za 2 rfl ?_
 have hkz := Jdn (s := z ++ z) ne
 obtain ⟨z2, hz2⟩ : ∃ x, x = WS (z ++ z) := ⟨_, rfl⟩
 rw [← hz2] at hkz heq
 exact HY) : p := h
theorem kV (h : p := by
 refine Jm (k := 8) rfl rfl rfl rfl rfl (fun _ hS => (JH rfl)) ?_
 refine Kz ?_
 refine Jy 3 rfl ?_
 exact MK) : p := h
theorem kX (h : p := by
 refine N2 fun w1 hs1 => ?_
 exact ⟨⟨row, hrow⟩, rfl, hs1.weakL (List.sublist_append_left _ _)⟩) : p := h
theorem kK (h : q) (k : Bx q → p := by
 intro zq
 refine JX (LR rfl (Jd rfl (J2 (k := 3) rfl) rfl rfl) (LR rfl (JQ rfl rfl) ?_))
 refine LS 4 [0] rfl rfl ?_
 refine Ng ?_
 refine LT 3 rfl rfl ?_
 refine Kh (k := 4) rfl rfl rfl rfl rfl rfl rfl rfl mf mg ?_
 refine KE (hK12 _ _ _ _ ?_)
 exact zq.1) : p := k ⟨h⟩
theorem kY (h : p := by
 refine KS 5 rfl ?_
 refine Jv ?_
 exact Jo (i, (i + j) / 2) ⟨⟨by simp only; omega, by simp only; omega⟩, hi1, Jct hso hx m8⟩ ml (lK rfl) (List.nil_sublist _) (fun _ _ h => h)) : p := h
theorem kZ (h : p := by
 obtain ⟨s', g1, g2, g3, g4⟩ := hq
 have hp' : p a' w' (μ s') := ⟨s', g1, g3, g4, rfl⟩
 refine ⟨⟨_, hp'⟩, ?_⟩
 have := (hfm a' w' ⟨_, hp'⟩).2 _ hp'
 omega) : p := h
theorem g6 (h : q) (k : Bx q → p := by
 intro zq
 refine LR rfl (JQ rfl rfl) ?_
 exact zq.1) : p := k ⟨h⟩
theorem g7 (h : q) (k : Bx q → p := by
 intro zq
 refine LR rfl (Kt rfl rfl) ?_
 exact zq.1) : p := k ⟨h⟩
theorem g8 (h : q) (k : Bx q → p := by
 intro zq
 refine Jb rfl rfl rfl (Jhg rfl rfl rfl m5 m5 (.scal m6 rfl rfl rfl rfl rfl (.scal m6 rfl rfl rfl rfl rfl .nil))) ?_
 refine Qe (congrArg (fun b => Value.bool (!b)) (Jhi x y)) ?_
 refine JY ?_
 refine JR 2 rfl ?_
 exact zq.1) : p := k ⟨h⟩
theorem g9 (h : p := by exact .inr ⟨(back2 v).symm.trans g1, go E undef hSE (.inl (List.Sublist.refl _)) g2⟩) : p := h
theorem gc (h : p := by
 unfold wpOpIn
 simp only [ho]
 rw [if_pos (by unfold Region.wanted; rw [g3])]
 refine ⟨KQ, ?_⟩
 rw [Oper.semAt_eq _ _ _ (Wn g2)]
 exact hp _ a w (frd hi hk hall) hs) : p := h
theorem gg (h : q) (k : Bx q → p := by
 intro zq
 refine LR rfl (J8 (r := [_]) rfl rfl) ?_
 exact zq.1) : p := k ⟨h⟩
theorem gh (h : q) (k : Bx q → p := by
 intro zq
 refine LR rfl (Jd rfl (J2 (k := 0) rfl) rfl rfl) ?_
 exact zq.1) : p := k ⟨h⟩
theorem gi (h : q) (k : Bx q → p := by
 intro zq
 refine LR rfl (Jd rfl (J2 (k := 1) rfl) rfl rfl) ?_
 exact zq.1) : p := k ⟨h⟩
theorem gk (h : q) (k : Bx q → p := by
 intro zq
 refine Kh (k := 7) (cs' := #[Jx (i2 + 1) (some (ra2, cap2, sp2))]) rfl rfl rfl rfl rfl rfl rfl rfl rfl rfl ?_
 exact zq.1) : p := k ⟨h⟩
theorem gl (h : q) (k : Bx q → p := by
 intro zq
 refine MO ?_
 refine W5 (n := 1) (sz := 8) (vs := [_]) (zs := [_, _, _, _, _, _, _, _]) (r := y.cells) rfl rfl rfl rfl rfl rfl rfl rfl rfl rfl mi rfl (fun p hp => List.mem_singleton.1 hp ▸ List.mem_cons_self) fun rv => ?_
 refine xx ?_
 revert rv
 exact zq.1) : p := k ⟨h⟩
theorem gn (h : q) (k : Bx q → p := by
 intro zq
 first | refine LR rfl (Ju rfl hs rfl) ?_ | refine LK rfl ?_
 exact zq.1) : p := k ⟨h⟩
theorem gp (h : q) (k : Bx q → p := by
 intro zq
 refine Jb rfl rfl rfl (Jd rfl (J2 (k := 0) rfl) rfl rfl) ?_
 exact zq.1) : p := k ⟨h⟩
theorem gr (h : q) (k : Bx q → p := by
 intro zq
 refine LW 2 [] rfl rfl ?_
 exact zq.1) : p := k ⟨h⟩
theorem gs (h : q) (k : Bx q → p := by
 intro zq
 refine JB (n := 1) (sz := 2) (vs := [_]) (zs := [_, _]) (r := Qn y) rfl rfl rfl rfl rfl rfl rfl rfl rfl mi rfl fun rv => ?_
 revert rv
 exact zq.1) : p := k ⟨h⟩
theorem gt (h : q) (k : Bx q → p := by
 intro zq
 refine Jm (k := 7) rfl rfl rfl rfl rfl (fun _ hS => (J7 rfl rfl rfl)) ?_
 exact zq.1) : p := k ⟨h⟩
theorem gu (h : q) (k : Bx q → p := by
 intro zq
 simp only [execOp, Sem.run_bind]
 exact zq.1) : p := k ⟨h⟩
theorem gw (h : q) (k : Bx q → p := by
 intro zq
 refine Wt 4 [0] rfl rfl ?_
 refine No ?_
 refine LR rfl (JD (off' := Xd a.p + (i * 2 + 0)) rfl rfl M6) ?_
 refine LR rfl (Qo JN (k := 0) (v := Js x.1) oR rfl hseg hx rfl rfl) ?_
 refine Np ?_
 exact zq.1) : p := k ⟨h⟩
theorem gx (h : q) (k : Bx q → p := by
 intro zq
 refine Ks List.perm_append_comm ?_
 exact zq.1) : p := k ⟨h⟩
theorem gC (h : q) (k : Bx q → p := by
 intro zq
 refine Jb rfl rfl rfl (J7 rfl rfl rfl) ?_
 exact zq.1) : p := k ⟨h⟩
theorem gE (h : q) (k : Bx q → p := by
 intro zq
 refine Jr 8 rfl ?_
 refine Jh m0 m0 ?_
 refine WR rfl (qK m0 m0 (LR rfl (wl (n := 1) (b := (((i + j) / 2 : Nat) : Int)) rfl rfl rfl m6 m0 m0) ?_))
 refine WR rfl (Jh m0 m0 (JR 4 rfl ?_))
 exact zq.1) : p := k ⟨h⟩
theorem gF (h : q) (k : Bx q → p := by
 intro zq
 refine J6 rfl rfl rfl Jv4 (q4 (n := 32 - s.length) m0) ?_
 rw [ZY]
 refine LR rfl (Vy (a := s) (b := List.replicate (32 - s.length) 0) rfl rfl (by rw [List.length_replicate]; omega)) ?_
 exact zq.1) : p := k ⟨h⟩
theorem Gh (h : p := by
 refine KS 7 rfl ?_
 refine N2 fun w1 hs1 => ?_
 exact ⟨⟨none, rfl, rfl⟩, rfl, hs1⟩) : p := h
theorem gz (h : q) (k : Bx q → p := by
 intro zq
 refine JT ?_
 refine N6 ?_
 exact zq.1) : p := k ⟨h⟩
theorem gA (h : q) (k : Bx q → p := by
 intro zq
 refine Jy 4 rfl ?_
 exact zq.1) : p := k ⟨h⟩
theorem gG (h : q) (k : Bx q → p := by
 intro zq
 refine Jy 2 rfl ?_
 refine QE [1] (L' := [_]) m6 rfl ?_
 exact zq.1) : p := k ⟨h⟩
theorem gH (h : p := by
 refine kv fun w1 hs1 => ?_
 obtain ⟨xs1, hx1⟩ := hs1.now
 exact ⟨⟨_, rfl⟩, hs1.keep, .inl ⟨i, _, (by show i = N; omega), hx1⟩⟩) : p := h
theorem gI (h : q) (k : Bx q → p := by
 intro zq
 refine Jk (k := 0) (n := 3) (ys := y.cells) rfl rfl rfl rfl rfl y.len rfl y.one rfl ?_
 refine JM 4 rfl ?_
 refine LR rfl (Jg (xs := y.cells) (n := 3) rfl (kn 0 rfl) rfl rfl y.len) ?_
 exact zq.1) : p := k ⟨h⟩
theorem NK (h : q) (k : Bx q → p := by
 intro zq
 refine LR rfl (KH rfl rfl) ?_
 exact zq.1) : p := k ⟨h⟩
theorem N8 (h : q) (k : Bx q → p := by
 intro zq
 refine Mx ?_
 refine Mx ?_
 exact zq.1) : p := k ⟨h⟩
theorem gJ (h : q) (k : Bx q → p := by
 intro zq
 change HL _ _ _ (WY rv (.mk a b c d bits pb items pi pick) :: VK rt (.mk k n p ins) :: _) _ _ _ _
 refine Nw ?_
 refine Wp [3, 0, 1, 2, 4, 5] (L' := [_, _, _, _, _, _]) m6 rfl ?_
 exact zq.1) : p := k ⟨h⟩
theorem gK (h : q) (k : Bx q → p := by
 intro zq
 refine NM ?_
 refine LR rfl (QH oR rfl hs hix.1 rfl rfl) ?_
 refine QD (cs := #[.int .u64 0, .int .u64 0, .int .u64 0, .int .u64 0, .slice none 0 0, .slice none 0 0, .int .i64 0]) rfl rfl rfl rfl fun rv => ?_
 revert rv
 exact zq.1) : p := k ⟨h⟩
theorem gL (h : p := by exact qp ho (hnd i o ho) hw (hr E hE w hs) fun u w' ⟨x, e', hk, hf, hd⟩ => h _ _ w' hE.grow (hs.freshs hk hf hd) (e' ▸ (h2 x))) : p := h
theorem gB (h : q) (k : Bx q → p := by
 intro zq
 refine JM 6 rfl ?_
 exact zq.1) : p := k ⟨h⟩
theorem gM (h : q) (k : Bx q → p := by
 intro zq
 refine JR 2 rfl ?_
 exact zq.1) : p := k ⟨h⟩
theorem gm (h : q) (k : Bx q → p := by
 intro zq
 refine Gs ?_
 refine Jj rfl rfl (.cons (Jt (vs := [_, _, _, _, _, _, _]) rfl (kn 0 rfl) rfl rfl) .nil) (fun w1 hs1 => ?_)
 revert w1 hs1
 exact zq.1) : p := k ⟨h⟩
theorem gN (h : p := by
 refine Nm fun w1 hs1 => ?_
 rw [ZD fun j u v hu hv => hinv j u v (by have := (List.getElem?_eq_some_iff.1 hv).1; omega) hu hv]
 rfl) : p := h
theorem gP (h : p := by
 refine NR fun w1 hs1 => ?_
 rw [hput, if_pos m0]
 exact ⟨⟨s, KP s.er, [], hs, rfl⟩, rfl, hs1.weakL (List.nil_sublist _)⟩) : p := h
theorem gR (h : p := by exact .inl ⟨g1.same (back1 v).symm (back2 v).symm, fun x => go _ _ hSE.grow (.inl (List.sublist_append_right _ _)) (g2 x)⟩) : p := h
theorem gS (h : q) (k : Bx q → p := by
 intro zq
 first | (refine Jc rfl rfl rfl Jhx hro oR ?_) | refine LK rfl ?_
 exact zq.1) : p := k ⟨h⟩
theorem gU (h : q) (k : Bx q → p := by
 intro zq
 refine Jr 6 rfl ?_
 exact zq.1) : p := k ⟨h⟩
theorem gV (h : p := by
 refine Jy 3 rfl ?_
 refine Jv ?_
 exact Jo (i + 1) ⟨by omega, by omega⟩ m0 (lK rfl) (List.Sublist.refl _) (fun _ _ h => h)) : p := h
theorem kj (h : q) (k : Bx q → p := by
 intro zq
 refine Jy 5 rfl ?_
 exact zq.1) : p := k ⟨h⟩
theorem gW (h : q) (k : Bx q → p := by
 intro zq
 refine LR rfl (Jl (vs := [_]) rfl (kn 0 rfl) rfl rfl rfl rfl) ?_
 exact zq.1) : p := k ⟨h⟩
theorem gX (h : p := by
 obtain ⟨g1, g2, g3⟩ := hs.own p hp
 exact ⟨g1, g2, (hk.block p.1 (Jq g3) fun hm => (hx1 _ hm).2.2 p hp rfl).trans g3⟩) : p := h
theorem gY (h : q) (k : Bx q → p := by
 intro zq
 refine MV ?_
 refine kA ?_
 exact zq.1) : p := k ⟨h⟩
theorem gZ (h : q) (k : Bx q → p := by
 intro zq
 refine Jb rfl rfl rfl (Jf (j := i) rfl hs rfl rfl rfl mc m0) ?_
 exact zq.1) : p := k ⟨h⟩
theorem G0 (h : q) (k : Bx q → p := by
 intro zq
 refine Jy 2 rfl (Za 1 rfl ?_)
 exact zq.1) : p := k ⟨h⟩
theorem G1 (h : q) (k : Bx q → p := by
 intro zq
 refine KS 8 rfl ?_
 refine Mv fun w1 hs1 => ?_
 revert w1 hs1
 exact zq.1) : p := k ⟨h⟩
theorem G3 (h : q) (k : Bx q → p := by
 intro zq
 refine Jr 3 rfl ?_
 exact zq.1) : p := k ⟨h⟩
theorem G5 (h : p := by
 refine N5 ?_
 refine My ?_
 exact MU) : p := h
theorem G6 (h : p := by exact .inr ⟨(back2 undef).symm.trans g1, go E undef hSE g2⟩) : p := h
theorem G7 (h : p := by exact Jo (i + 1, some (ra, cap, sp)) ⟨by simp only; omega, hra⟩ ml (lK rfl) (List.Sublist.refl _) (fun _ _ h => h)) : p := h
theorem G9 (h : q) (k : Bx q → p := by
 intro zq
 first | refine LR rfl (Ju rfl hseg rfl) ?_ | refine LK rfl ?_
 exact zq.1) : p := k ⟨h⟩
theorem Ga (h : q) (k : Bx q → p := by
 intro zq
 refine LR rfl (J8 (r := [_, _, _, _, _, _, _, _]) rfl rfl) ?_
 exact zq.1) : p := k ⟨h⟩
theorem Gb (h : q) (k : Bx q → p := by
 intro zq
 refine LR rfl (Jl (vs := Qn x) rfl (kn 0 rfl) rfl rfl rfl rfl) ?_
 refine JB (n := 1) (sz := 2) (vs := [_]) (zs := [_, _]) (r := Qn x) rfl rfl rfl rfl rfl rfl rfl rfl rfl mi rfl fun rv => ?_
 revert rv
 exact zq.1) : p := k ⟨h⟩
theorem Gc (h : p := by exact absurd hj (tail_waits h2 h3 nN inv _ i rfl hi hun j hjm)) : p := h
theorem Gd (h : p := by
 refine Mw fun r1 => ?_
 refine Goq 11 [0] rfl rfl ?_
 exact MK) : p := h
theorem Ge (h : q) (k : Bx q → p := by
 intro zq
 refine No ?_
 refine LR rfl (JD (off' := Xd s.p + (i * 8 + 0)) rfl rfl nh) ?_
 refine LR rfl (Qo AcL.len (k := 0) (v := Js a.addr) oR rfl hseg ha rfl rfl) ?_
 exact zq.1) : p := k ⟨h⟩
theorem Gg (h : q) (k : Bx q → p := by
 intro zq
 refine kg fun r1 => ?_
 refine Jc rfl rfl rfl Jhv hno oR ?_
 refine QV rfl ?_
 revert r1
 exact zq.1) : p := k ⟨h⟩
theorem D0 (h : q) (k : Bx q → p := by
 intro zq
 refine Jb rfl rfl rfl (Jl (vs := [_, _, _, _, _, _, _]) rfl (kn 0 rfl) rfl rfl rfl rfl) ?_
 refine Xy rfl rfl rfl (enters_of Tryz.func200 m5 rfl) hnu oR ?_
 exact zq.1) : p := k ⟨h⟩
theorem Gl (h : q) (k : Bx q → p := by
 intro zq
 refine Jk (k := 0) (n := 3) (ys := (JE k pick ins i).cells) rfl rfl rfl rfl rfl (JE k pick ins i).len rfl (JE k pick ins i).one rfl ?_
 refine JM 3 rfl ?_
 exact zq.1) : p := k ⟨h⟩
theorem Gm (h : q) (k : Bx q → p := by
 intro zq
 refine NN ?_
 refine KW (k := 2) rfl rfl rfl rfl rfl (Jd rfl (kn 0 rfl) rfl rfl) ?_
 exact zq.1) : p := k ⟨h⟩
theorem Gp (h : p := by
 rw [hput, if_neg m0, if_pos m0]
 exact ⟨⟨s, WT a.er, [], hs, rfl⟩, rfl, hs1.weakL (List.nil_sublist _)⟩) : p := h
theorem Ht (h : p := by
 have hi2 : 2 * i = ls2.length := by omega
 have hpl := Wv ls2
 rw [List.take_of_length_le m0] at hxs
 exact HZ) : p := h
theorem Gq (h : q) (k : Bx q → p := by
 intro zq
 refine JX (LS 3 [4] rfl rfl ?_)
 refine Jn mu ?_
 refine LT 4 rfl rfl ?_
 refine KE ?_
 refine Yh (QE [4, 5, 6, 7, 0] (L' := [_, _, _, _, _]) m6 rfl ?_)
 exact zq.1) : p := k ⟨h⟩
theorem Gr (h : q) (k : Bx q → p := by
 intro zq
 refine Jb rfl rfl rfl (KG rfl (J2 (k := 1) rfl) rfl (KT (by rw [hbln]; omega))) ?_
 exact zq.1) : p := k ⟨h⟩
theorem Gi (h : p := by
 refine Mv fun w1 hs1 => ?_
 rw [hcg m0, ← hinv, if_pos my]
 rfl) : p := h
theorem Gj (h : q) (k : Bx q → p := by
 intro zq
 refine N6 ?_
 refine NY ?_
 refine LR rfl (Jg (xs := (XW items i).cells) (n := 7) rfl (kn 1 rfl) rfl rfl (XW items i).len) ?_
 refine Jc rfl rfl rfl Jsa hbi oR ?_
 exact zq.1) : p := k ⟨h⟩
theorem Gk (h : q) (k : Bx q → p := by
 intro zq
 refine JT ?_
 refine JS 12 rfl ?_
 exact zq.1) : p := k ⟨h⟩
theorem Gn (h : q) (k : Bx q → p := by
 intro zq
 refine gz ?_
 refine KO (cs := s.cells.toArray) rfl rfl rfl rfl fun rs => ?_
 revert rs
 exact zq.1) : p := k ⟨h⟩
theorem Gt (h : q) (k : Bx q → p := by
 intro zq
 refine JS 3 rfl ?_
 exact zq.1) : p := k ⟨h⟩
theorem gD (h : q) (k : Bx q → p := by
 intro zq
 refine Jr 4 rfl ?_
 exact zq.1) : p := k ⟨h⟩
theorem Gu (h : q) (k : Bx q → p := by
 intro zq
 refine kd ?_
 refine MV ?_
 refine QV rfl (LR rfl (Ju rfl hs' rfl) (JR 3 rfl ?_))
 exact zq.1) : p := k ⟨h⟩
theorem Gv (h : q) (k : Bx q → p := by
 intro zq
 refine N5 ?_
 refine LR rfl (Jg (xs := (Ty.mk k n p ins).cells) (n := 3) rfl (kn 1 rfl) rfl rfl (Ty.mk k n p ins).len) ?_
 refine LS 2 [0] rfl rfl ?_
 exact zq.1) : p := k ⟨h⟩
theorem Gw (h : p := by exact qp ho (hnd i o ho) hw (hr w hs) fun u w' ⟨x, e', hs'⟩ => h _ _ w' (h2 x).1 hs' (e' ▸ (h2 x).2)) : p := h
theorem Gx (h : q) (k : Bx q → p := by
 intro zq
 refine LR rfl (Jg (xs := a.map uV) (n := 4) rfl (kn 1 rfl) rfl rfl nH) ?_
 refine LR rfl (Jg (xs := b.map uV) (n := 4) rfl (kn 0 rfl) rfl rfl nI) ?_
 exact zq.1) : p := k ⟨h⟩
theorem Gy (h : p := by
 rw [hset, if_neg m0, if_pos m0]
 exact ⟨⟨a, 2, [], ha, rfl⟩, rfl, hs1.weakL (List.nil_sublist _)⟩) : p := h
theorem Gz (h : q) (k : Bx q → p := by
 intro zq
 refine Jj rfl rfl (.cons (Jt (vs := [_, _, _, _, _, _, _]) rfl (kn 1 rfl) rfl rfl) .nil) (fun w1 hs1 => ?_)
 revert w1 hs1
 exact zq.1) : p := k ⟨h⟩
theorem GA (h : q) (k : Bx q → p := by
 intro zq
 refine gC ?_
 refine Jb rfl rfl rfl (Jd rfl (kn 1 rfl) rfl rfl) ?_
 refine Mx ?_
 refine Jb rfl rfl rfl (Jf (j := i) rfl h1 rfl rfl rfl mc m0) ?_
 exact zq.1) : p := k ⟨h⟩
theorem GB (h : q) (k : Bx q → p := by
 intro zq
 refine LR rfl (JL (j := 0) rfl rfl rfl rfl rfl mC ma) ?_
 exact zq.1) : p := k ⟨h⟩
theorem GC (h : p := by
 rw [Kp hx, V5, Ke, Ke, WN, if_neg hn, ← h.at_]
 omega) : p := h
theorem GD (h : q) (k : Bx q → p := by
 intro zq
 refine Jj rfl rfl (.cons (Jt (vs := [_]) rfl (kn 2 rfl) rfl rfl) (.cons (Jp rfl) .nil)) (fun w1 hs1 => ?_)
 revert w1 hs1
 exact zq.1) : p := k ⟨h⟩
theorem GF (h : q) (k : Bx q → p := by
 intro zq
 refine Jm (k := 0) rfl rfl rfl rfl rfl (fun _ hS => (J7 rfl rfl rfl)) ?_
 refine KW (k := 1) rfl rfl rfl rfl rfl (Jd rfl (kn 1 rfl) rfl rfl) ?_
 exact zq.1) : p := k ⟨h⟩
theorem GG (h : p := by
 rw [hset, if_pos m0]
 exact ⟨⟨a, WT a.er, [], ha, rfl⟩, rfl, hs1.weakL (List.nil_sublist _)⟩) : p := h
theorem GH (h : p := by exact qp ho (hnd i o ho) hw (hq w hs) fun u w' ⟨e, hk'⟩ => h E _ w' hE (hs.more hk') (e ▸ hk)) : p := h
theorem GI (h : q) (k : Bx q → p := by
 intro zq
 refine LR rfl (Jg (xs := (ys).cells) (n := 1) rfl (kn 3 rfl) rfl rfl rfl) ?_
 exact zq.1) : p := k ⟨h⟩
theorem GJ (h : q) (k : Bx q → p := by
 intro zq
 refine LR rfl (Jl (vs := [_, _, _, _, _]) rfl (kn 0 rfl) rfl rfl rfl rfl) ?_
 exact zq.1) : p := k ⟨h⟩
theorem GK (h : q) (k : Bx q → p := by
 intro zq
 refine Jk (k := 0) (n := 3) (ys := (JE k 0 ins i).cells) rfl rfl rfl rfl rfl (JE k 0 ins i).len rfl (JE k 0 ins i).one rfl ?_
 refine kS ?_
 exact zq.1) : p := k ⟨h⟩
theorem G4 (h : q) (k : Bx q → p := by
 intro zq
 refine Jr 5 rfl ?_
 exact zq.1) : p := k ⟨h⟩
theorem GL (h : p := by
 rw [List.getD_eq_getElem?_getD, List.getElem?_eq_getElem h]
 exact ⟨rfl, List.getElem_mem h⟩) : p := h
theorem GM (h : p := by exact .inl ⟨g1.same (back1 undef).symm (back2 undef).symm, fun x => go _ _ hSE.grow (g2 x)⟩) : p := h
theorem GN (h : p := by
 unfold wpOpIn
 simp only [ho]
 rw [if_neg (by rw [hw]; simp)]
 exact ⟨KQ, h E _ w hE hs hk⟩) : p := h
theorem GO (h : p := by
 obtain ⟨e, he, hb, hno⟩ := op6 i o ho' hiP hik
 exact absurd (hi.2.1 _ (hall e he hb)) hno) : p := h
theorem GP (h : q) (k : Bx q → p := by
 intro zq
 refine Jb rfl rfl rfl (KG rfl (kn 1 rfl) rfl (KT (by rw [hsl]; omega))) ?_
 exact zq.1) : p := k ⟨h⟩
theorem GQ (h : q) (k : Bx q → p := by
 intro zq
 refine Jm (k := 11) rfl rfl rfl rfl rfl (fun _ hS => (J7 rfl rfl rfl)) ?_
 exact zq.1) : p := k ⟨h⟩
theorem GR (h : p := by exact ⟨fun a w => Classical.choose (h1 a w), fun a w => Classical.choose_spec (h1 a w)⟩) : p := h
theorem GS (h : q) (k : Bx q → p := by
 intro zq
 refine JM 4 rfl ?_
 exact zq.1) : p := k ⟨h⟩
theorem GU (h : q) (k : Bx q → p := by
 intro zq
 refine Jy 2 rfl ?_
 refine Jv ?_
 exact zq.1) : p := k ⟨h⟩
theorem GV (h : q) (k : Bx q → p := by
 intro zq
 refine LT 1 rfl rfl ?_
 refine Jy 3 rfl ?_
 exact zq.1) : p := k ⟨h⟩
theorem H1 (h : p := by
 obtain ⟨h1, rfl⟩ := List.getElem?_eq_some_iff.1 h
 exact List.drop_eq_getElem_cons h1) : p := h
theorem H2 (h : q) (k : Bx q → p := by
 intro zq
 refine QK (k := 0) rfl rfl ?_
 exact zq.1) : p := k ⟨h⟩
theorem H5 (h : q) (k : Bx q → p := by
 intro zq
 refine LR rfl (Jl (vs := [_, _, _]) rfl (kn 2 rfl) rfl rfl rfl rfl) ?_
 exact zq.1) : p := k ⟨h⟩
theorem H6 (h : q) (k : Bx q → p := by
 intro zq
 change HC _ _ [(0, _), (1, _), (2, _), (8, _), (9, .int .i64 (i : Int)), (10, .int .i64 (j : Int))] _ _ _ _
 refine JS 8 rfl ?_
 exact zq.1) : p := k ⟨h⟩
theorem H7 (h : p := by
 have h1 := Wd ha
 have h2 := Wd hb
 rw [h, h2] at h1
 exact (Option.some.inj h1).symm) : p := h
theorem H8 (h : q) (k : Bx q → p := by
 intro zq
 refine Jk (k := 0) (n := 4) (ys := (yQ a b).1.map uV) rfl rfl rfl rfl rfl (by rw [List.length_map]; exact xD) rfl (Zb _) rfl ?_
 exact zq.1) : p := k ⟨h⟩
theorem GX (h : p := by
 refine Nm fun w1 hs1 => ?_
 rw [Jcp fun j x hx => hinv j (by have := (List.getElem?_eq_some_iff.1 hx).1; omega) x hx]
 rfl) : p := h
theorem GY (h : q) (k : Bx q → p := by
 intro zq
 refine JT ?_
 refine Jr 8 rfl ?_
 exact zq.1) : p := k ⟨h⟩
theorem GZ (h : p := by
 rw [Kp hx, V5, Ke, Ke, WN, if_pos hf, ← h.at_]
 omega) : p := h
theorem H0 (h : q) (k : Bx q → p := by
 intro zq
 refine Mx ?_
 refine Jb rfl rfl rfl (Qh rfl rfl) ?_
 refine Jb rfl rfl rfl (Qh rfl rfl) ?_
 refine Jb rfl rfl rfl (JH rfl) ?_
 refine Nz ?_
 exact zq.1) : p := k ⟨h⟩
theorem H3 (h : p := by
 refine Jy 3 rfl ?_
 exact MK) : p := h
theorem H4 (h : q) (k : Bx q → p := by
 intro zq
 refine N6 ?_
 refine LN rfl fun r1 => ?_
 refine MI ?_
 refine g7 ?_
 revert r1
 exact zq.1) : p := k ⟨h⟩
theorem H9 (h : q) (k : Bx q → p := by
 intro zq
 refine kB ?_
 refine JB (n := 1) (sz := 8) (vs := [_]) (zs := [_, _, _, _, _, _, _, _]) (r := a.cells) rfl rfl rfl rfl rfl rfl rfl rfl rfl mi rfl fun rv => ?_
 revert rv
 exact zq.1) : p := k ⟨h⟩
theorem Ha (h : q) (k : Bx q → p := by
 intro zq
 first | refine Jb rfl rfl rfl (Je rfl) ?_ | refine J9 rfl rfl rfl ?_
 exact zq.1) : p := k ⟨h⟩
theorem Hb (h : q) (k : Bx q → p := by
 intro zq
 refine Wt 3 [3, 2] rfl rfl ?_
 refine Vp rfl rfl rfl (enters_of Tryz.func162 m5 rfl) (Jdg (.mk k n p ins) (.mk a b c d bits pb items pi pick)) fun pp => ?_
 revert pp
 exact zq.1) : p := k ⟨h⟩
theorem Hc (h : q) (k : Bx q → p := by
 intro zq
 refine Wt 4 [0] rfl rfl ?_
 exact zq.1) : p := k ⟨h⟩
theorem Hd (h : p := by exact ⟨m, hm, fun k hp => Nat.le_of_not_lt fun hlt => hx ⟨k, hlt, hp⟩⟩) : p := h
theorem GT (h : q) (k : Bx q → p := by
 intro zq
 refine JM 7 rfl ?_
 exact zq.1) : p := k ⟨h⟩
theorem He (h : q) (k : Bx q → p := by
 intro zq
 refine JR 9 rfl ?_
 exact zq.1) : p := k ⟨h⟩
theorem Hf (h : q) (k : Bx q → p := by
 intro zq
 refine Jr 1 rfl ?_
 exact zq.1) : p := k ⟨h⟩
theorem Hh (h : p := by
 rw [getD_set_ne true hjk] at hun
 exact hun) : p := h
theorem Hi (h : q) (k : Bx q → p := by
 intro zq
 refine gt ?_
 refine Jm (k := 8) rfl rfl rfl rfl rfl (fun _ hS => (Jd rfl (.inl (hS _ (Kq (n := 1) rfl))) rfl rfl)) ?_
 exact zq.1) : p := k ⟨h⟩
theorem Hk (h : q) (k : Bx q → p := by
 intro zq
 refine LW 3 [] rfl rfl (Jy 1 rfl (qN 2 rfl ?_))
 exact zq.1) : p := k ⟨h⟩
theorem Hl (h : q) (k : Bx q → p := by
 intro zq
 first | (refine Jc rfl rfl rfl Jnv hpl oR ?_) | refine LK rfl ?_
 exact zq.1) : p := k ⟨h⟩
theorem Hm (h : q) (k : Bx q → p := by
 intro zq
 first | refine Jb rfl rfl rfl (Jl (vs := [_, _, _, _]) rfl (kn 0 rfl) rfl rfl rfl rfl) ?_ | refine J9 rfl rfl rfl ?_
 exact zq.1) : p := k ⟨h⟩
theorem Hn (h : q) (k : Bx q → p := by
 intro zq
 refine Jb rfl rfl rfl (JL (j := 0) rfl rfl rfl rfl rfl mC ma) ?_
 exact zq.1) : p := k ⟨h⟩
theorem Ho (h : q) (k : Bx q → p := by
 intro zq
 refine Jm (k := 0) rfl rfl rfl rfl rfl (fun _ hS => (Je rfl)) ?_
 exact zq.1) : p := k ⟨h⟩
theorem Hy (h : q) (k : Bx q → p := by
 intro zq
 refine QV rfl ?_
 refine LR rfl (Jf (j := i) rfl hsb rfl rfl rfl mc m0) ?_
 refine LR rfl (Ym oR rfl hsb hy rfl) ?_
 exact zq.1) : p := k ⟨h⟩
theorem Hp (h : p := by exact ⟨⟨s, 5, [], hs, rfl⟩, rfl, hs1.weakL (List.nil_sublist _)⟩) : p := h
theorem Hq (h : p := by
 have h1 := h _ w (qj (n := c.n) nS) hs
 rw [hro, hc, hn] at h1
 exact h1) : p := h
theorem Hr (h : q) (k : Bx q → p := by
 intro zq
 refine J6 rfl rfl rfl Jhz Jat ?_
 refine Nw ?_
 exact zq.1) : p := k ⟨h⟩
theorem Hs (h : q) (k : Bx q → p := by
 intro zq
 refine LR rfl (J8 (r := [_, _, _]) rfl rfl) ?_
 exact zq.1) : p := k ⟨h⟩
theorem Hz (h : q) (k : Bx q → p := by
 intro zq
 refine KO (cs := a.cells.toArray) rfl rfl rfl rfl fun ra => ?_
 revert ra
 exact zq.1) : p := k ⟨h⟩
theorem D4 (h : q) (k : Bx q → p := by
 intro zq
 refine JY ?_
 refine gM ?_
 exact zq.1) : p := k ⟨h⟩
theorem HG (h : q) (k : Bx q → p := by
 intro zq
 refine KS 12 rfl ?_
 refine Mv fun w1 hs1 => ?_
 revert w1 hs1
 exact zq.1) : p := k ⟨h⟩
theorem HH (h : p := by
 refine Qw rfl rfl .nil (fun w1 hs1 => ?_)
 exact ⟨(), rfl, hs1⟩) : p := h
theorem Hu (h : p := by
 have h1 := hT _ _ _ H j (ready_mono hj hji)
 have h2 := hlt _ inv (mem_ready.1 hr).1 j hj
 omega) : p := h
theorem Hv (h : p := by
 refine kr ?_
 refine Kz ?_
 refine kj ?_
 refine Nc fun w1 hs1 => ?_
 rw [hb1 hz]
 rfl) : p := h
theorem Hw (h : p := by
 refine N6 ?_
 refine Nu ?_
 refine Gs ?_
 refine ME fun w1 hs1 => ?_
 exact kq) : p := h
theorem Hx (h : q) (k : Bx q → p := by
 intro zq
 refine Ja Tryz.func118 rfl rfl fun w => ?_
 refine GY ?_
 refine LR rfl (Jd (v := .int .i64 (bits.length : Int)) rfl (J2 (k := 0) rfl) rfl rfl) ?_
 revert w
 exact zq.1) : p := k ⟨h⟩
theorem HF (h : q) (k : Bx q → p := by
 intro zq
 refine JI 7 m5 m5 ?_
 refine gp ?_
 refine Jb rfl rfl rfl (Jd rfl (J2 (k := 1) rfl) rfl rfl) ?_
 refine Mx ?_
 exact zq.1) : p := k ⟨h⟩
theorem HI (h : p := by
 refine WF (k := 7) rfl rfl rfl rfl rfl Jnp (Joi m0 m0) ?_
 exact kV) : p := h
theorem HO (h : q) (k : Bx q → p := by
 intro zq
 refine gA ?_
 refine Mv fun w1 hs1 => ?_
 revert w1 hs1
 exact zq.1) : p := k ⟨h⟩
theorem HK (h : p := by
 rw [wV, wL, Km]
 have : 1 * s.length ≤ (7 - d) * s.length := Nat.mul_le_mul_right _ m0
 omega) : p := h
theorem HM (h : q) (k : Bx q → p := by
 intro zq
 refine N6 ?_
 refine kB ?_
 refine Jk (k := 1) (n := 8) (ys := (a).cells) rfl rfl rfl rfl rfl rfl rfl rfl rfl ?_
 refine kj ?_
 exact zq.1) : p := k ⟨h⟩
theorem HN (h : p := by
 refine Nm fun w1 hs1 => ?_
 rw [hcg m0, ← hinv, List.drop_of_length_le M2]
 rfl) : p := h
theorem HP (h : p := by
 have : (ins.length : Int) * B ≤ 16 * B := Int.mul_le_mul_of_nonneg_right m0 m0
 omega) : p := h
theorem HR (h : p := by
 refine KS 9 rfl ?_
 refine Nc fun w1 hs1 => ?_
 rw [if_pos m0]
 rfl) : p := h
theorem HT (h : q) (k : Bx q → p := by
 intro zq
 refine LT 1 rfl rfl ?_
 refine kj ?_
 exact zq.1) : p := k ⟨h⟩
theorem HU (h : p := by
 simp at ho ⊢
 omega) : p := h
theorem HV (h : p := by
 rw [List.perm_iff_count]
 intro x
 simp only [List.count_append]
 omega) : p := h
theorem HW (h : p := by
 have := Nat.eq_of_beq_eq_true h0
 omega) : p := h
end Go.SL
