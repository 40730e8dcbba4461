import Derived.WalkKit
import Derived.CallsIn
import Derived.RangeFuncIn
import Derived.RangeFuncRecord
import Derived.RangeFuncSeq
import Derived.RangeFuncLeaves
import Derived.RangeFuncBound
import Derived.TacticsIn
import Derived.Shelf.Abstract
import Derived.Orders
import Derived.StillTail
import Derived.Sort.QuietThIn
import Derived.Sort.Grow
import Derived.ChangeKeysEq
import Derived.Laws.BytesString
import Derived.ProofKit
import Derived.OpenShut
import Derived.ShutString
import Derived.ChangeOld
import Derived.Below
import Derived.Laws.Small
import Derived.Laws.IdiomStrings
namespace Go.SL
set_option linter.all false
structure Bx (q : Prop) : Prop where
  of : q
variable {p q : Prop}
theorem m0 (h : p := by omega) : p := h
theorem m5 (h : p := by kernel_rfl) : p := h
theorem m6 (h : p := by first | exact (fun _ h => absurd h List.not_mem_nil) | simp [SubS] | (intro p hp; simp [hp])) : p := h
theorem m7 (h : p := by decide) : p := h
theorem m8 (h : p := by exact show _ = Value.int .i64 ((i + 1 : Nat) : Int) from by rw [wrap_i64 (by omega) (by omega)]; congr 1 <;> omega) : p := h
theorem m9 (h : p := by assumption) : p := h
theorem ma (h : p := by rw [wrap_i64 (by omega) (by omega)]; omega) : p := h
theorem mb (h : p := by simp only [List.mem_cons, List.mem_append, hq, or_true, true_or]) : p := h
theorem mc (h : p := by first | (simp only [Nat.zero_add, Nat.reduceAdd, Nat.reduceMul, Nat.zero_mul, Nat.mul_one, Nat.add_zero]; exact rfl) | exact rfl) : p := h
theorem me (h : p := by exact show V6 (Vl.mk ya yb yc yd ybits ypb yitems ypi ypick) ge = .agg #[uV ya, uV yb, uV yc, uV yd, Ky ybits.length ypb, Ky yitems.length ypi, .int .i64 ypick, .int .i64 ge] from rfl) : p := h
theorem mf (h : p := by simp) : p := h
theorem mg (h : p := by first | rfl | omega) : p := h
theorem mh (h : p := by first | (simp only [List.set_cons_zero, List.set_cons_succ]; exact rfl) | exact rfl) : p := h
theorem mi (h : p := by first | (simp only [List.setIfInBounds_toArray, List.set_cons_zero, List.set_cons_succ]; exact rfl) | exact rfl) : p := h
theorem mj (h : p := by show (madeCells #[_] _).toList = _; rw [Qu]; exact rfl) : p := h
theorem ml (h : p := by simp only; omega) : p := h
theorem mm (h : p := by exact Nat.le_of_ble_eq_true rfl) : p := h
theorem mn (h : p := by rw [JU]; exact rfl) : p := h
theorem mo (h : p := by unfold VQ; first | (rw [if_pos (by assumption)]) | (rw [if_neg (by assumption), if_pos (by assumption)]; have := hp8 (by assumption); omega) | (rw [if_neg (by assumption), if_neg (by assumption)]; rfl)) : p := h
theorem mq (h : p := by exact show _ = Value.int .i64 ((A + y : Nat)) from congrArg (Value.int .i64) (by rw [wrap_i64 (by omega) (by omega)]; omega)) : p := h
theorem ms (h : p := by first | exact V0 _ _ | exact QP (by omega) (by decide) (by omega) | (rw [wrap_i64 (by omega) (by omega)]; omega)) : p := h
theorem mt (h : p := by simp only [List.mem_append] at hq; rcases hq with h | h <;> simp [h]) : p := h
theorem mu (h : p := by rw [if_neg (by omega)]; omega) : p := h
theorem mw (h : p := by exact show _ = Value.int .i64 ((8 * s.length : Nat)) from congrArg (Value.int .i64) (by rw [wrap_i64 (by omega) (by omega)]; omega)) : p := h
theorem my (h : p := by simp only [List.size_toArray, List.length_append]; omega) : p := h
theorem mz (h : p := by simp_all) : p := h
theorem mA (h : p := by rintro _ _ _ ⟨_, rfl, _⟩; rfl) : p := h
theorem mB (h : p := by rw [Int.tmod_eq_emod_of_nonneg (by omega)]; omega) : p := h
theorem mC (h : p := by exact show _ = Value.int .i64 ((s.getD 0 0).toNat : Nat) from congrArg (Value.int .i64) (wrap_i64 (by omega) (by have := QC (s.getD 0 0); omega))) : p := h
theorem mD (h : p := by exact show _ = Value.int .u8 ((if (s.getD (i / 8) 0).toNat.testBit (i % 8) then 1 else 0 : Nat) : Int) from congrArg (Value.int .u8) ((V0 _ _).trans (congrArg Int.ofNat ((Nat.and_one_is_mod _).symm.trans Jps)))) : p := h
theorem mE (h : p := by rw [List.mem_singleton.1 hp, List.append_nil]; exact List.mem_cons_self) : p := h
theorem mF (h : p := by simp only [Nat.min_def]; split <;> omega) : p := h
theorem mG (h : p := by first | decide | omega) : p := h
theorem mH (h : p := by exact show _ = Value.int .i64 ((N : Nat) : Int) from congrArg (Value.int .i64) (by omega)) : p := h
theorem mI (h : p := by unfold Yo; omega) : p := h
theorem mJ (h : p := by exact show _ = Value.int .i64 ((j + 1 : Nat) : Int) from by rw [wrap_i64 (by omega) (by omega)]; congr 1 <;> omega) : p := h
theorem mK (h : p := by simp only; rw [← hvc]; exact .cons _ (.cons _ (List.Sublist.refl _))) : p := h
theorem mL (h : p := by exact show _ = Value.int .i64 (((i % 5 + 1) % 5 : Nat) : Int) from congrArg (Value.int .i64) (by rw [Int.tmod_eq_emod_of_nonneg (by omega)]; omega)) : p := h
theorem mM (h : p := by exact show CallsIn (FW c.ro) 0 c.P g vs.toArray w _ from hc) : p := h
theorem mN (h : p := by rw [h] at hr; cases hr) : p := h
theorem mO (h : p := by exact show _ = Value.int .i64 ((136 * i + 136 : Nat) : Int) from congrArg (Value.int .i64) (by rw [wrap_i64 (by omega) (by omega)]; omega)) : p := h
theorem mP (h : p := by exact show _ = Value.int .i64 ((i % 8 : Nat) : Int) from congrArg (Value.int .i64) (by rw [Int.tmod_eq_emod_of_nonneg (by omega)]; omega)) : p := h
theorem mQ (h : p := by exact show _ = Value.int .i64 ((i / 8 : Nat) : Int) from congrArg (Value.int .i64) (by rw [QP (by omega) (by omega) (by omega)]; omega)) : p := h
theorem mR (h : p := by exact show _ = Value.int .i64 ((8 * s.length - 1 : Nat)) from congrArg (Value.int .i64) (by rw [wrap_i64 (by omega) (by omega)]; omega)) : p := h
theorem mT (h : p := by exact show _ ≤ 64 from by omega) : p := h
theorem mU (h : p := by exact show _ = Value.int .i64 ((i % 5 + 1 : Nat) : Int) from congrArg (Value.int .i64) (by rw [wrap_i64 (by omega) (by omega)]; omega)) : p := h
theorem mV (h : p := by exact show _ = Value.int .i64 ((i % 8 * 8 : Nat) : Int) from congrArg (Value.int .i64) (by rw [wrap_i64 (by omega) (by omega)]; omega)) : p := h
theorem mW (h : p := by exact show _ = Value.int .i64 ((N : Nat) : Int) from congrArg (Value.int .i64) (by rw [QP (by omega) (by decide) (by omega), hN]; rfl)) : p := h
theorem mX (h : p := by simp only; rw [← hvc]; exact .cons _ (.cons _ (.cons _ (List.Sublist.refl _)))) : p := h
theorem mY (h : p := by exact show _ = Value.int .i64 ((s.length - 1 : Nat)) from congrArg (Value.int .i64) (by rw [wrap_i64 (by omega) (by omega)]; omega)) : p := h
theorem mZ (h : p := by exact show _ = Value.int .i64 ((8 * i : Nat) : Int) from congrArg (Value.int .i64) (by rw [wrap_i64 (by omega) (by omega)]; omega)) : p := h
theorem n4 (h : p := by exact show _ = Value.int .i64 ((2 ^ (k + 1) : Nat) : Int) from congrArg (Value.int .i64) ((Jd3 hk16).trans (by rw [Nat.pow_succ]))) : p := h
theorem n5 (h : p := by exact show _ = Value.int .i64 ((i % 8 : Nat)) from congrArg (Value.int .i64) (V0 _ _)) : p := h
theorem n6 (h : p := by exact show _ = uV (s.getD i 0).toNat from congrArg (Value.int .u64) (wrap_u64 (by omega) (by have := QC (s.getD i 0); omega))) : p := h
theorem n7 (h : p := by exact show _ = Value.int .i64 ((i - 1 : Nat)) from congrArg (Value.int .i64) (by rw [wrap_i64 (by omega) (by omega)]; omega)) : p := h
theorem n8 (h : p := by simp only [JL, List.nil_append, List.append_nil]; exact List.Sublist.refl _) : p := h
theorem n9 (h : p := by exact show _ = Value.int .i64 ((A + 4 : Nat)) from congrArg (Value.int .i64) (by rw [wrap_i64 (by omega) (by omega)]; omega)) : p := h
theorem na (h : p := by rw [List.mem_singleton.1 hq]; exact List.mem_cons_self) : p := h
theorem nb (h : p := by simpa using h) : p := h
theorem nc (h : p := by exact show _ = Value.int .i64 ((l.length + 8 : Nat) : Int) from by rw [wrap_i64 (by omega) (by omega)]; congr 1 <;> omega) : p := h
theorem nd (h : p := by exact show _ = Value.int .i64 ((l.length + 7 : Nat) : Int) from by rw [wrap_i64 (by omega) (by omega)]; congr 1 <;> omega) : p := h
theorem ne (h : p := by exact show _ = Value.int .i64 ((A2 : Nat)) from congrArg (Value.int .i64) (by rw [wrap_i64 (by omega) (by omega)]; omega)) : p := h
theorem nf (h : p := by simp only [JL, List.nil_append]; exact .cons_cons _ (.cons_cons _ (.cons_cons _ (List.sublist_append_left _ _)))) : p := h
theorem ng (h : p := by exact show i < xs.length by omega) : p := h
theorem nh (h : p := by exact show _ = Value.int .i64 ((32 * i + M : Nat) : Int) from by rw [wrap_i64 (by omega) (by omega)]; congr 1 <;> omega) : p := h
theorem ni (h : p := by exact show _ = Value.int .i64 ((2 * i + 1 : Nat) : Int) from by rw [wrap_i64 (by omega) (by omega)]; congr 1 <;> omega) : p := h
theorem nj (h : p := by exact show _ = Value.int .i64 ((n + 1 - i : Nat) : Int) from by rw [wrap_i64 (by omega) (by omega)]; congr 1 <;> omega) : p := h
theorem nk (h : p := by exact show _ = Value.int .i64 ((n.toNat : Nat) : Int) from congrArg (Value.int .i64) (by have := hnk ‹_›; omega)) : p := h
theorem nl (h : p := by rcases List.mem_append.1 hq with h | h <;> simp [h]) : p := h
theorem nn (h : p := by exact show _ = Value.int .i64 ((i / 8 : Nat)) from congrArg (Value.int .i64) (QP (by omega) (by decide) (by omega))) : p := h
theorem np (h : p := by exact show _ = Value.int .i64 ((n + 1 : Nat) : Int) from by rw [wrap_i64 (by omega) (by omega)]; congr 1 <;> omega) : p := h
theorem nq (h : p := by simp only [List.toList_toArray]; rw [List.append_assoc, List.drop_left' lA, ← hX, List.take_left' lB]) : p := h
theorem nr (h : p := by intro e he; simp at he; rcases he with rfl | rfl | rfl | rfl | rfl | rfl | rfl <;> exact ⟨_, rfl⟩) : p := h
theorem nt (h : p := by have := congrArg List.length hX; simp only [List.size_toArray, List.length_append] at this ⊢; omega) : p := h
theorem nw (h : p := by rw [List.length_append]; omega) : p := h
theorem ny (h : p := by exact show _ = Value.bool (Qg s i) from by unfold Qg; cases (s.getD (i / 8) 0).toNat.testBit (i % 8) <;> rfl) : p := h
theorem nz (h : p := by rw [List.length_drop, List.length_take]; omega) : p := h
theorem nA (h : p := by intro e he; simp at he; rcases he with rfl | rfl | rfl | rfl | rfl | rfl <;> exact ⟨_, rfl⟩) : p := h
theorem nB (h : p := by simp only [List.toList_toArray]; rw [List.append_assoc, List.drop_left' lA, List.take_left' lB]) : p := h
theorem nC (h : p := by rw [List.length_drop]; omega) : p := h
theorem nD (h : p := by simp only [List.toList_toArray, List.drop_zero]; rw [List.append_assoc, List.take_left' lA]) : p := h
theorem nE (h : p := by intro e he; simp at he; rcases he with rfl | rfl | rfl | rfl | rfl <;> exact ⟨_, rfl⟩) : p := h
theorem nF (h : p := by rw [List.length_map, hsl]; omega) : p := h
theorem nG (h : p := by simp only [List.mem_cons, not_or]; exact ⟨hnq, fun hm => apartR (.inl hm) p hp rfl⟩) : p := h
theorem nH (h : p := by cases hdep) : p := h
theorem nI (h : p := by exact show i < ins.length by omega) : p := h
theorem nJ (h : p := by rw [List.mem_singleton.1 hp]; exact List.mem_cons_self) : p := h
theorem nL (h : p := by intro e he; simp at he; rcases he with rfl | rfl | rfl | rfl <;> exact ⟨_, rfl⟩) : p := h
theorem nM (h : p := by exact show CallsIn (FW c.ro) (0 - 1) c.P gf _ w2 _ from callsIn_wide (n := 0) |>.2 hcalls) : p := h
theorem nN (h : p := by rw [ha]; rfl) : p := h
theorem nO (h : p := by exact show _ = uV (i % 8) from congrArg (Value.int .u64) (wrap_u64 (by omega) (by omega))) : p := h
theorem nP (h : p := by simp only [List.toList_toArray]; rw [List.take_left' (by rw [List.length_map])]) : p := h
theorem nQ (h : p := by have := congrArg List.length hX; simp only [List.length_append] at this; omega) : p := h
theorem nR (h : p := by rw [List.length_take]; omega) : p := h
theorem nS (h : p := by intro e he; simp at he; rcases he with rfl | rfl | rfl <;> exact ⟨_, rfl⟩) : p := h
theorem nT (h : p := by exact show ¬ ((k = 4 ∧ n < items.length) ∨ (k = 6 ∧ n < bits.length)) by omega) : p := h
theorem nU (h : p := by simp; omega) : p := h
theorem nV (h : p := by split <;> omega) : p := h
theorem nW (h : p := by exact show body.wpIn ((FW none).inRound (w.heap.size + 1)) 0 c.P _ a₁ _ from hb2) : p := h
theorem nX (h : p := by rw [QP (by omega) (by omega) (by omega)]; omega) : p := h
theorem nY (h : p := by show (QW (J3 _ _) && true) = true; rw [Zp]; rfl) : p := h
theorem nZ (h : p := by rw [List.length_map, ha.1]) : p := h
theorem M0 (h : p := by rw [List.length_map, hb.1]) : p := h
theorem M1 (h : p := by intro e he; simp at he; rcases he with rfl | rfl <;> exact ⟨_, rfl⟩) : p := h
theorem M2 (h : p := by rw [List.length_drop, List.length_map]; omega) : p := h
theorem M3 (h : p := by exact show _ = s.drop 1 from by rw [List.take_length]) : p := h
theorem M4 (h : p := by have := Z2.1 hv.1; omega) : p := h
theorem M5 (h : p := by simpa using (show m < ops.length by omega)) : p := h
theorem M6 (h : p := by exact show RoundIn (FW c.ro) (0 - 1) c.P q fn tmps assign body w _ from hR) : p := h
theorem M7 (h : p := by intro e he; simp at he; rcases he with rfl <;> exact ⟨_, rfl⟩) : p := h
theorem M8 (h : p := by first | exact V0 _ _ | exact QP (by omega) (by decide) (by omega)) : p := h
theorem M9 (h : p := by exact show _ ≤ 8 from by omega) : p := h
theorem Ma (h : p := by have := QC (s.getD 0 0); omega) : p := h
theorem Mb (h : p := by rw [hn]; exact Nat.le_of_ble_eq_true hlen) : p := h
theorem Mc (h : p := by rw [getD_replicate_false] at hl; cases hl) : p := h
theorem Md (h : p := by have := QC (s.getD 0 0); unfold Yo; omega) : p := h
theorem Me (h : p := by rw [List.length_map]; exact h) : p := h
theorem Mf (h : p := by exact show _ = some (J3 (KX l N l.length).length _) from by rw [Vy]; rfl) : p := h
theorem Mg (h : p := by exact show i < s.accts.length by omega) : p := h
theorem Mh (h : p := by exact show i < t.accts.length by omega) : p := h
theorem Mi (h : p := by simpa using hb) : p := h
theorem Mj (h : p := by rw [show ((0 : Nat) : Int) = 0 from rfl, Int.sub_zero]; rfl) : p := h
theorem Mk (h : p := by rw [hmq, if_pos (fun e => absurd hv.1 (by rw [e]; decide))]) : p := h
theorem Ml (h : p := by rw [hmq, if_neg hmod, if_pos (by have := Z2.1 hv.1; omega)]) : p := h
theorem Mm (h : p := by rw [hl]; simp [bV, Function.comp_def]) : p := h
theorem Mn (h : p := by simp only [List.toList_toArray]; rw [List.take_left' hr1]) : p := h
theorem Mo (h : p := by rw [List.size_toArray, List.length_append, hr1]; omega) : p := h
theorem Mp (h : p := by rw [List.mem_singleton.1 hp]; simp) : p := h
theorem Mq (h : p := by show XO a.p + i * 2 + 1 = _; omega) : p := h
theorem Mr (h : p := by show XO xpi + 4 * 7 + 5 = _; omega) : p := h
theorem Ms (h : p := by simp only [List.mem_cons, not_or]; exact ⟨g2, g1⟩) : p := h
theorem Mt (h : p := by have := Z1.mp hok; omega) : p := h
theorem Mu (h : p := by show _ ≤ 100000; show p0it.length ≤ 100000; omega) : p := h
theorem Mv (h : p := by show _ ≤ 100000; show p3it.length ≤ 100000; omega) : p := h
theorem Mw (h : p := by show _ ≤ 100000; omega) : p := h
theorem Mx (h : p := by simpa using hy) : p := h
theorem My (h : p := by rw [qi (by rw [List.length_set]; omega), YW, ← hY]) : p := h
theorem Mz (h : p := by rw [Bool.not_eq_true]; assumption) : p := h
theorem MA (h : p := by have := m4 (by assumption); omega) : p := h
theorem MB (h : p := by simp only; rw [htki, Zz]; exact List.Sublist.refl _) : p := h
theorem MC (h : p := by exact show _ = s.take 4 from rfl) : p := h
theorem MD (h : p := by rw [QP (by omega) (by decide) (by omega), hN]; rfl) : p := h
theorem ME (h : p := by exact show St c L X w.drew from hs.drew) : p := h
theorem MF (h : p := by exact show [x0][0]? = some x0 from rfl) : p := h
theorem MG (h : p := by rw [hz]; rfl) : p := h
theorem MH (h : p := by rw [WM, if_pos (by assumption)] at hb1; omega) : p := h
theorem MI (h : p := by rw [s.er_len]; omega) : p := h
theorem MJ (h : p := by exact show i < items.length by omega) : p := h
theorem MK (h : p := by decide +kernel) : p := h
theorem ML (h : p := by rw [List.length_map, hl.1]) : p := h
theorem MM (h : p := by exact show m < ops.length by omega) : p := h
theorem MN (h : p := by rw [hx]; exact hk) : p := h
theorem MO (h : p := by rw [Int.natCast_ediv]) : p := h
theorem MP (h : p := by simpa using hx) : p := h
theorem MQ (h : p := by simpa using ho) : p := h
theorem MR (h : p := by simpa using ht) : p := h
theorem MS (h : p := by rw [Kq]; omega) : p := h
theorem MT (h : p := by rw [h]; decide) : p := h
theorem MU (h : p := by simp at h ⊢; omega) : p := h
theorem MV (h : p := by rw [hdl]; exact hL.1) : p := h
theorem MW (h : q) (k : Bx q → p := by
 intro zq
 refine pT rfl rfl rfl fun w1 hs1 => ?_
 refine ⟨?_, hs1.keep⟩
 revert w1 hs1
 exact zq.1) : p := k ⟨h⟩
theorem MX (h : q) (k : Bx q → p := by
 intro zq
 refine JS ?_
 refine Jt 2 rfl ?_
 refine LN rfl fun r1 => ?_
 revert r1
 exact zq.1) : p := k ⟨h⟩
theorem MZ (h : q) (k : Bx q → p := by
 intro zq
 refine Jd rfl rfl (.cons (Jn rfl) (.cons (Jn rfl) .nil)) (fun w1 hs1 => ?_)
 revert w1 hs1
 exact zq.1) : p := k ⟨h⟩
theorem MY (h : q) (k : Bx q → p := by
 intro zq
 refine Jc rfl rfl rfl (Jf rfl) ?_
 exact zq.1) : p := k ⟨h⟩
theorem N0 (h : q) (k : Bx q → p := by
 intro zq
 refine Jh m0 m0 ?_
 refine Jz 2 rfl ?_
 refine Jv ?_
 exact zq.1) : p := k ⟨h⟩
theorem N2 (h : q) (k : Bx q → p := by
 intro zq
 refine LR rfl (Jo (vs := [_, _, _]) rfl (kn 0 rfl) rfl rfl rfl rfl) ?_
 exact zq.1) : p := k ⟨h⟩
theorem N3 (h : q) (k : Bx q → p := by
 intro zq
 refine LW 1 [0] rfl rfl ?_
 first | refine LR rfl (Jq rfl hs rfl) ?_ | refine LK rfl ?_
 exact zq.1) : p := k ⟨h⟩
theorem N1 (h : q) (k : Bx q → p := by
 intro zq
 refine Jc rfl rfl rfl (J1 rfl rfl rfl) ?_
 exact zq.1) : p := k ⟨h⟩
theorem N4 (h : p := by exact ⟨rfl, hs1.keep⟩) : p := h
theorem N5 (h : p := by
 refine KK 5 rfl ?_
 refine Jd rfl rfl .nil (fun w1 hs1 => ?_)
 obtain ⟨xs1, hx1⟩ := hs1.now
 exact ⟨⟨_, rfl⟩, hs1.keep, .inr ⟨_, hx1⟩⟩) : p := h
theorem N6 (h : q) (k : Bx q → p := by
 intro zq
 refine Ji (k := 0) rfl rfl rfl rfl rfl (fun _ hS => (J5 rfl rfl rfl)) ?_
 refine Ji (k := 1) rfl rfl rfl rfl rfl (fun _ hS => (Je rfl (.inl (hS _ (Kn (n := 0) rfl))) rfl rfl)) ?_
 exact zq.1) : p := k ⟨h⟩
theorem N7 (h : q) (k : Bx q → p := by
 intro zq
 refine Jd rfl rfl (.cons (Jl (vs := [_, _, _, _, _, _, _, _]) rfl (kn 0 rfl) rfl rfl) .nil) (fun w1 hs1 => ?_)
 revert w1 hs1
 exact zq.1) : p := k ⟨h⟩
theorem N8 (h : q) (k : Bx q → p := by
 intro zq
 refine LR rfl (Jm (xs := (J0 k 0 ins i).cells) (n := 3) rfl (kn 0 rfl) rfl rfl (J0 k 0 ins i).len) ?_
 exact zq.1) : p := k ⟨h⟩
theorem N9 (h : p := by
 have hvc : Xn acs ++ AcL.cells (⟨WO (.mk p0a p0b p0c p0d p0bi p0pb p0it p0pi p0pk), p1a, ⟨p2a, p2b, p2c, p2d⟩, WO (.mk p3a p3b p3c p3d p3bi p3pb p3it p3pi p3pk), p4it.map Wd, QD rw2⟩ : AcL) = Xn (acs ++ [(⟨WO (.mk p0a p0b p0c p0d p0bi p0pb p0it p0pi p0pk), p1a, ⟨p2a, p2b, p2c, p2d⟩, WO (.mk p3a p3b p3c p3d p3bi p3pb p3it p3pi p3pk), p4it.map Wd, QD rw2⟩ : AcL)]) := by unfold Xn; rw [List.flatMap_append]; simp
 refine VI (Jrl (M := [_, _, _]) ..) ?_
 exact Jr (i + 1, acs ++ [(⟨WO (.mk p0a p0b p0c p0d p0bi p0pb p0it p0pi p0pk), p1a, ⟨p2a, p2b, p2c, p2d⟩, WO (.mk p3a p3b p3c p3d p3bi p3pb p3it p3pi p3pk), p4it.map Wd, QD rw2⟩ : AcL)], some (ra, cap, sp), JL 59 (jq (p4it.map Wd)) rw2 ++ E) ⟨by simp only; omega, by simp only; rw [← hvc]; exact hra, fun z hz => Jrf hin (KY hrow2 m7) hp0 hp3 hz16 hq3 hba hzz hz, Jrg her hx⟩ ml (lK rfl) mK (fun _ _ h => h)) : p := h
theorem Na (h : q) (k : Bx q → p := by
 intro zq
 refine Jt 1 rfl ?_
 refine LR rfl (Jm (xs := [.int .u64 0, .int .u64 0, .int .u64 0, .int .u64 0, .slice none 0 0, J3 i row, .int .i64 0]) (n := 7) rfl (kn 0 rfl) rfl rfl rfl) ?_
 refine Ju (k := 1) (n := 7) (ys := [.int .u64 0, .int .u64 0, .int .u64 0, .int .u64 0, .slice none 0 0, J3 i row, .int .i64 0]) rfl rfl rfl rfl rfl rfl rfl honeV rfl ?_
 refine Jz 3 rfl ?_
 refine Jd rfl rfl (.cons (Jl (vs := [_, _, _, _, _, _, _]) rfl (kn 1 rfl) rfl rfl) .nil) (fun w1 hs1 => ?_)
 revert w1 hs1
 exact zq.1) : p := k ⟨h⟩
theorem Nb (h : q) (k : Bx q → p := by
 intro zq
 refine LR rfl (Js (r := [_, _, _, _, _, _, _, _]) rfl rfl) ?_
 exact zq.1) : p := k ⟨h⟩
theorem Ng (h : q) (k : Bx q → p := by
 intro zq
 first | refine LR rfl (J5 rfl rfl rfl) ?_ | refine LK rfl ?_
 exact zq.1) : p := k ⟨h⟩
theorem Nc (h : p := by
 refine pT rfl rfl rfl fun w1 hs1 => ?_
 exact N4) : p := h
theorem Nd (h : q) (k : Bx q → p := by
 intro zq
 refine MX fun r1 => ?_
 refine LN rfl fun r2 => ?_
 revert r1 r2
 exact zq.1) : p := k ⟨h⟩
theorem Nf (h : q) (k : Bx q → p := by
 intro zq
 refine Jk m8 ?_
 refine Jz 2 rfl ?_
 refine Jv ?_
 exact zq.1) : p := k ⟨h⟩
theorem Nh (h : q) (k : Bx q → p := by
 intro zq
 refine JK 5 rfl ?_
 refine LR rfl (Jo (vs := [_, _, _, _, _, _, _]) rfl (kn 0 rfl) rfl rfl rfl rfl) ?_
 exact zq.1) : p := k ⟨h⟩
theorem Ni (h : q) (k : Bx q → p := by
 intro zq
 refine LR rfl (Jq rfl hs rfl) ?_
 exact zq.1) : p := k ⟨h⟩
theorem Nj (h : q) (k : Bx q → p := by
 intro zq
 refine JX 7 m5 m5 ?_
 refine MY ?_
 refine Jc rfl rfl rfl (J5 rfl rfl rfl) ?_
 refine Jc rfl rfl rfl (Je rfl (JB (k := 1) rfl) rfl rfl) ?_
 refine MY ?_
 refine Jc rfl rfl rfl (Jg (j := VQ k pick i) rfl hst rfl rfl rfl mo (hx i hil)) ?_
 refine Jc rfl rfl rfl (Kj oR rfl hst hty.1 rfl rfl) ?_
 refine Jc rfl rfl rfl (Jm (xs := (Yb items i).cells) (n := 7) rfl (kn 0 rfl) rfl rfl (Yb items i).len) ?_
 exact zq.1) : p := k ⟨h⟩
theorem Nk (h : q) (k : Bx q → p := by
 intro zq
 refine Jcb [(r1, .cells #[J3 n row3] 109 (0, 0))] [(0, .pure), (1, .pure), (2, .pure), (3, .pure), (4, .pure), (5, .act (Jhc (slV 1) (.cells #[Jw sv] 9 (0, 0))))] 6 m5 m5 (fun p hp => List.mem_singleton.1 hp ▸ List.mem_cons_self) ?_
 refine Jcc rfl rfl rfl rfl (fun _ hS => (Je rfl (.inl (hS _ (Kn (n := 0) rfl))) rfl rfl)) ?_
 refine Jcc rfl rfl rfl rfl (fun _ hS => (Jf rfl)) ?_
 refine Jcc rfl rfl rfl rfl (fun _ hS => (Jf rfl)) ?_
 refine Jcc rfl rfl rfl rfl (fun _ hS => (VD (a := ls2.getD (2 * i) []) (b := ls2.getD (2 * i + 1) []) rfl rfl m0)) ?_
 refine Jcd rfl rfl rfl rfl Jdh hkc ?_
 refine jl (n := 1) (sz := 1) (vs := [_]) (zs := [_]) (r := [Jw sv]) rfl rfl rfl rfl rfl rfl rfl rfl rfl rfl mj rfl (fun p hp => List.mem_singleton.1 hp ▸ List.mem_cons_self) fun rv => ?_
 refine Jmk ?_
 revert rv
 exact zq.1) : p := k ⟨h⟩
theorem Nl (h : q) (k : Bx q → p := by
 intro zq
 refine MZ fun w1 hs1 => ?_
 refine ⟨?_, hs1.keep⟩
 revert w1 hs1
 exact zq.1) : p := k ⟨h⟩
theorem Nm (h : q) (k : Bx q → p := by
 intro zq
 refine LT 0 rfl rfl ?_
 exact zq.1) : p := k ⟨h⟩
theorem Nn (h : q) (k : Bx q → p := by
 intro zq
 refine Ji (k := 0) rfl rfl rfl rfl rfl (fun _ hS => (Jf rfl)) ?_
 exact zq.1) : p := k ⟨h⟩
theorem No (h : q) (k : Bx q → p := by
 intro zq
 refine LR rfl (Js (r := [_, _, _, _, _, _, _]) rfl rfl) ?_
 exact zq.1) : p := k ⟨h⟩
theorem Np (h : q) (k : Bx q → p := by
 intro zq
 refine Jd rfl rfl (.cons (Jl (vs := [_, _, _, _, _, _, _, _]) rfl (kn 0 rfl) rfl rfl) (.cons (Jn rfl) .nil)) (fun w1 hs1 => ?_)
 revert w1 hs1
 exact zq.1) : p := k ⟨h⟩
theorem Nq (h : q) (k : Bx q → p := by
 intro zq
 refine KG (k := 0) rfl rfl rfl rfl rfl (Jm (xs := (Ty.mk k n p ins).cells) (n := 3) rfl (kn 1 rfl) rfl rfl (Ty.mk k n p ins).len) ?_
 refine Ji (k := 1) rfl rfl rfl rfl rfl (fun _ hS => (J5 rfl rfl rfl)) ?_
 refine KG (k := 2) rfl rfl rfl rfl rfl (Je rfl (kn 0 rfl) rfl rfl) ?_
 refine Ji (k := 4) rfl rfl rfl rfl rfl (fun _ hS => (J5 rfl rfl rfl)) ?_
 exact zq.1) : p := k ⟨h⟩
theorem Nr (h : p := by
 rw [List.perm_iff_count]
 intro x
 simp only [List.count_append, List.count_cons]
 omega) : p := h
theorem Ns (h : q) (k : Bx q → p := by
 intro zq
 refine Yx (k := 0) rfl rfl rfl rfl rfl Jdg qd fun mr => ?_
 refine KG (k := 3) rfl rfl rfl rfl rfl (Ys (XQ (t := 3) m5) rfl rfl (kn 0 rfl) rfl rfl ⟨_, rfl⟩ Zu (ZW hkk)) ?_
 refine Ji (k := 4) rfl rfl rfl rfl rfl (fun _ hS => (J1 rfl rfl rfl)) ?_
 revert mr
 exact zq.1) : p := k ⟨h⟩
theorem Nt (h : p := by exact Jr (i + 1) m0 m0 (lK rfl) (List.Sublist.refl _) (fun _ _ h => h)) : p := h
theorem Nu (h : q) (k : Bx q → p := by
 intro zq
 refine Ji (k := 7) rfl rfl rfl rfl rfl (fun _ _ => ww (n := i % 8) (b := ((2 ^ (i % 8) : Nat) : Int)) rfl rfl rfl M9 (Jpe m0)) ?_
 refine Ji (k := 8) rfl rfl rfl rfl rfl (fun _ _ => vO (op := .or) (m := (Y.getD (i / 8) 0).toNat) (n := 2 ^ (i % 8)) rfl rfl rfl (QC _) (Nat.pow_lt_pow_right m7 m0 : 2 ^ (i % 8) < 2 ^ 8) rfl) ?_
 refine VL (Jix _ m0) ?_
 refine Ji (k := 9) rfl rfl rfl rfl rfl (fun _ _ => Kc (j := (i / 8)) (m := 1) (off' := (i / 8)) rfl rfl rfl rfl m0 m0 m0) ?_
 refine WS (k := 10) (q := 0) (cs' := ((KX l N (i + 1)).map bV).toArray) rfl rfl rfl rfl rfl rfl rfl rfl nU (by rw [zV, hst1]) rfl (fun _ h => nomatch h) ?_
 refine Kk ?_
 exact zq.1) : p := k ⟨h⟩
theorem Nv (h : q) (k : Bx q → p := by
 intro zq
 refine JE 6 rfl ?_
 exact zq.1) : p := k ⟨h⟩
theorem Nw (h : q) (k : Bx q → p := by
 intro zq
 refine Jt 2 rfl ?_
 exact zq.1) : p := k ⟨h⟩
theorem Nx (h : q) (k : Bx q → p := by
 intro zq
 refine LR rfl (JI rfl rfl) ?_
 exact zq.1) : p := k ⟨h⟩
theorem Ny (h : p := by
 obtain ⟨sv, hsv⟩ : ∃ x, x = WZ (ls2.getD (2 * i) [] ++ ls2.getD (2 * i + 1) []) := ⟨_, rfl⟩
 rw [← hsv] at hkc
 refine Nk fun rv => ?_
 refine JF (L0 := [_, _]) (xs := xs) (row := row3) (n := n) (sz := 1) (b := 16) (news := [Jw sv]) (List.perm_append_comm (l₁ := [_, _])) rfl rfl rfl rfl (kn 0 rfl) rfl rfl rfl rfl rfl m7 rfl rfl rfl m7 hr3 m0 m0 fun ra cap sp hra => ?_
 refine Kt (k := 2) (cs' := #[J3 (n + 1) (some (ra, cap, sp))]) rfl rfl rfl rfl rfl rfl rfl rfl rfl rfl ?_
 refine Jz 2 rfl ?_
 refine QG [2, 0] (L' := [_, _]) m7 rfl ?_
 exact QU (n + 1, xs ++ [Jw sv], some (ra, cap, sp)) ⟨by omega, by simp only; omega, by simp only; rw [zU ls2 hii, ← hsv, hxs]; unfold WL; rw [List.map_append]; rfl, by rw [← hn]; exact hra⟩ rfl) : p := h
theorem Nz (h : p := by
 refine Jz 4 rfl ?_
 exact Nc) : p := h
theorem NA (h : q) (k : Bx q → p := by
 intro zq
 rw [← hY]
 refine JJ [] [(0, .pure), (1, .pure), (2, .pure), (3, .pure), (4, .pure), (5, .pure), (6, .pure), (8, .pure), (9, .pure), (10, .pure), (12, .pure), (13, .turn), (14, .pure), (15, .turn)] 16 [0, 1, 2, 3, 4, 5, 6, 7, 8, 9, 10, 11, 12, 13, 14, 15] m5 m5 m6 ?_
 refine Nn ?_
 refine Ji (k := 1) rfl rfl rfl rfl rfl (fun _ hS => (Jf rfl)) ?_
 refine Ji (k := 2) rfl rfl rfl rfl rfl (fun _ hS => (Jf rfl)) ?_
 refine Ji (k := 3) rfl rfl rfl rfl rfl (fun _ hS => (Jf rfl)) ?_
 refine Ji (k := 4) rfl rfl rfl rfl rfl (fun _ hS => (Jf rfl)) ?_
 refine Ji (k := 5) rfl rfl rfl rfl rfl (fun _ hS => (Jf rfl)) ?_
 exact zq.1) : p := k ⟨h⟩
theorem NB (h : q) (k : Bx q → p := by
 intro zq
 refine JJ [(r1, .cells #[Ky accts.length p] 24 (0, 0))] [(0, .grow (Qh Jv5 (fun y => y.x.val) (fun y => y.L))), (1, .pure), (2, .pure), (3, .grow (Qh v0 (fun y => y.x.val) (fun y => y.L))), (5, .pure), (6, .pure)] 7 [1, 2, 0, 3, 4, 5, 6] m5 m5 m6 ?_
 refine Ji (k := 1) rfl rfl rfl rfl rfl (fun _ hS => (J5 rfl rfl rfl)) ?_
 refine Ji (k := 2) rfl rfl rfl rfl rfl (fun _ hS => (Je rfl (.inl (hS _ (Kn (n := 0) rfl))) rfl rfl)) ?_
 refine KI (k := 0) rfl rfl rfl rfl rfl Jwx Jbk oN fun t => ?_
 refine KI (k := 3) rfl rfl rfl rfl rfl (enters_of Tryz.func54 m5 rfl) (Jjl hs hn hb) oR fun v => ?_
 revert t v
 exact zq.1) : p := k ⟨h⟩
theorem NC (h : q) (k : Bx q → p := by
 intro zq
 refine LS 2 [] rfl rfl ?_
 exact zq.1) : p := k ⟨h⟩
theorem NE (h : q) (k : Bx q → p := by
 intro zq
 refine LW 2 [] rfl rfl (Jz 1 rfl (Yh 2 rfl ?_))
 refine MW fun w1 hs1 => ?_
 revert w1 hs1
 exact zq.1) : p := k ⟨h⟩
theorem NF (h : p := by
 refine JF (L0 := [_, _, _, _]) (xs := WL (RS.take i)) (row := row) (n := i) (sz := 1) (b := 16) (news := [Jw sv]) (List.perm_append_comm (l₁ := [_, _, _, _])) rfl rfl rfl rfl (kn 0 rfl) rfl rfl rfl rfl rfl m7 rfl rfl rfl m7 hrow m0 m0 fun ra cap sp hra => ?_
 refine JK 6 rfl ?_
 refine Nf ?_
 refine QG [4, 0] (L' := [_, _]) m7 rfl ?_
 exact Jr (i + 1, some (ra, cap, sp)) ⟨by simp only; omega, by simp only; rw [htki, Zz]; exact hra⟩ ml (lK rfl) MB (fun _ _ h => h)) : p := h
theorem ND (h : q) (k : Bx q → p := by
 intro zq
 refine JK 5 rfl ?_
 exact zq.1) : p := k ⟨h⟩
theorem NG (h : q) (k : Bx q → p := by
 intro zq
 first | refine LR rfl (JI rfl rfl) ?_ | refine LK rfl ?_
 exact zq.1) : p := k ⟨h⟩
theorem NH (h : q) (k : Bx q → p := by
 intro zq
 refine KG (k := 2) rfl rfl rfl rfl rfl (Je rfl (kn 2 rfl) rfl rfl) ?_
 refine KG (k := 5) rfl rfl rfl rfl rfl (Jo (vs := [_, _, _]) rfl (kn 2 rfl) rfl rfl rfl rfl) ?_
 refine KG (k := 6) rfl rfl rfl rfl rfl (Jo (vs := [_, _, _, _, _, _, _]) rfl (kn 1 rfl) rfl rfl rfl rfl) ?_
 refine Ns fun mr => ?_
 refine VL (Jir hkk) ?_
 refine KR (k := 7) rfl rfl rfl rfl rfl hO.1 hO.2 oR ?_
 refine Ji (k := 8) rfl rfl rfl rfl rfl (fun _ hS => (J1 rfl rfl rfl)) ?_
 refine Ji (k := 9) rfl rfl rfl rfl rfl (fun _ hS => (JP rfl)) ?_
 revert mr
 exact zq.1) : p := k ⟨h⟩
theorem NI (h : q) (k : Bx q → p := by
 intro zq
 refine Ji (k := 8) rfl rfl rfl rfl rfl (fun _ hS => (Jf rfl)) ?_
 refine Ji (k := 9) rfl rfl rfl rfl rfl (fun _ hS => (Jf rfl)) ?_
 refine Ji (k := 10) rfl rfl rfl rfl rfl (fun _ _ => Kc (j := i) (m := 1) (off' := i) rfl rfl rfl rfl m0 m0 m0) ?_
 refine KG (k := 11) rfl rfl rfl rfl rfl (Je rfl (kn 0 rfl) rfl (jK (xs := Y.map bV) (v := bV (Y.getD (i) 0)) (Y1 m0))) ?_
 refine Ji (k := 12) rfl rfl rfl rfl rfl (fun _ _ => Kc (j := i) (m := 1) (off' := i) rfl rfl rfl rfl m0 m0 m0) ?_
 exact zq.1) : p := k ⟨h⟩
theorem NJ (h : p := by exact Jr (i + 1) m0 m0 (lK rfl) (List.nil_sublist _) (fun _ _ h => h)) : p := h
theorem NL (h : p := by
 refine Jv ?_
 refine xD (List.Perm.cons _ (Jc9 (_ :: JL 9 (WL (SL.pairUp ls2)) row3) (Xg Ds) _)) ?_
 exact zI (k + 1, SL.pairUp ls2, row3, z2, D :: Ds) rfl ⟨hk, hr3, by rw [show lg m - (k + 1) = K by omega]; exact heq, by rw [show lg m - (k + 1) = K by omega]; simp only; omega, ju ls2, by rw [hz2]; exact ZS _⟩ ml (lK rfl) (.cons_cons _ ((List.Sublist.refl _).append (.cons _ (List.sublist_append_left _ _)))) (fun _ _ h => h)) : p := h
theorem NM (h : p := by
 refine LR rfl (Js (r := [_, _, _]) rfl rfl) ?_
 refine J7 (vs := [_]) (zs := [_, _, _]) (r := [_, _, _]) rfl rfl rfl rfl rfl rfl rfl rfl rfl mn rfl fun r2 => ?_
 refine LR rfl (Js (r := [_, _, _]) rfl rfl) ?_
 refine LT 1 rfl rfl ?_
 refine Jz 3 rfl ?_
 refine Jd rfl rfl (.cons (Jl (vs := [_, _, _]) rfl (kn 1 rfl) rfl rfl) .nil) (fun w1 hs1 => ?_)
 exact ⟨r2, rfl, hs1.weakL ((List.cons_sublist_cons).2 (List.nil_sublist _))⟩) : p := h
theorem NN (h : q) (k : Bx q → p := by
 intro zq
 refine LR rfl (Jg (j := 4) rfl hsx rfl rfl rfl rfl mm) ?_
 refine LR rfl (JR (off' := XO xpi + 33) rfl rfl Mr) ?_
 refine LR rfl (X8 (j := 33) (v := Ky p4it.length p4pi) (fun q hq => .inl mb) rfl hsx (Nat.le_of_ble_eq_true rfl) rfl rfl) ?_
 exact zq.1) : p := k ⟨h⟩
theorem NO (h : q) (k : Bx q → p := by
 intro zq
 refine Ju (k := 0) (n := 3) (ys := (J0 k 0 ins i).cells) rfl rfl rfl rfl rfl (J0 k 0 ins i).len rfl (J0 k 0 ins i).one rfl ?_
 exact zq.1) : p := k ⟨h⟩
theorem NQ (h : q) (k : Bx q → p := by
 intro zq
 refine JS ?_
 refine Jt 9 rfl ?_
 refine Ni ?_
 refine JQ 4 rfl ?_
 refine Jy (σ := Nat) (fun i => i ≤ xs.length ∧ ∀ j, j < i → ∀ y, xs[j]? = some y → pr y = false) (fun i => [(0, Ky xs.length p), (1, .func (.func g) #[] caps.toArray), (7, .int .i64 (xs.length : Int)), (8, .int .i64 (i : Int))]) (fun _ => []) (fun _ _ _ => True) (fun i => xs.length - i) 0 ⟨by omega, fun j hj => absurd hj m0⟩ (lK rfl) (List.nil_sublist _) (fun _ _ h => h) ?_
 exact zq.1) : p := k ⟨h⟩
theorem NS (h : q) (k : Bx q → p := by
 intro zq
 refine LR rfl (Js (r := [_, _, _, _]) rfl rfl) ?_
 exact zq.1) : p := k ⟨h⟩
theorem NT (h : q) (k : Bx q → p := by
 intro zq
 refine LR rfl (Jg (j := i) rfl hs rfl rfl rfl rfl m0) ?_
 refine LR rfl (Kj oR rfl hs hy rfl rfl) ?_
 exact zq.1) : p := k ⟨h⟩
theorem NU (h : q) (k : Bx q → p := by
 intro zq
 refine Jc rfl rfl rfl (JN (j := i) (m := 1) (off' := i) rfl rfl rfl rfl m0 m0 m0) ?_
 exact zq.1) : p := k ⟨h⟩
theorem NV (h : p := by
 refine ZU (L' := JL 4 (KL (J4 s i) ++ [Value.bool (Qg s i)]) (some (ra, cap, sp))) (List.sublist_append_left (JL 4 (KL (J4 s i) ++ [Value.bool (Qg s i)]) (some (ra, cap, sp))) _) ?_
 rw [show KL (J4 s i) ++ [Value.bool (Qg s i)] = KL (J4 s (i + 1)) from (Ji4 s i).symm] at hra ⊢
 exact Jr (i + 1, some (ra, cap, sp)) ⟨by simp only; omega, hra⟩ ml (lK rfl) (List.Sublist.refl _) (fun _ _ h => h)) : p := h
theorem NR (h : q) (k : Bx q → p := by
 intro zq
 refine JQ 3 rfl ?_
 exact zq.1) : p := k ⟨h⟩
theorem NW (h : q) (k : Bx q → p := by
 intro zq
 refine Jc rfl rfl rfl (JP rfl) ?_
 refine Kv ?_
 exact zq.1) : p := k ⟨h⟩
theorem NX (h : q) (k : Bx q → p := by
 intro zq
 refine Ji (k := 2) rfl rfl rfl rfl rfl (fun _ hS => (J5 rfl rfl rfl)) ?_
 exact zq.1) : p := k ⟨h⟩
theorem NY (h : q) (k : Bx q → p := by
 intro zq
 refine LW 2 [] rfl rfl (Jz 1 rfl (Zj 1 rfl ?_))
 exact zq.1) : p := k ⟨h⟩
theorem NZ (h : p := by
 refine Jt 4 rfl ?_
 refine LR rfl (Jo (vs := [_]) rfl (kn 0 rfl) rfl rfl rfl rfl) ?_
 refine LT 2 rfl rfl ?_
 refine Jz 4 rfl ?_
 refine Jd rfl rfl (.cons (Jl (vs := [_]) rfl (kn 2 rfl) rfl rfl) (.cons (Jn rfl) .nil)) (fun w1 hs1 => ?_)
 exact ⟨⟨⟨acs, QD row⟩, 0, JL 34 (Xn acs) row ++ E, by simpa using hsin, by rw [hPc hge m9]; show (acs.map AcL.er, _) = _; rw [her, ← hby]⟩, rfl, hs1.weakL (.cons _ (.cons _ (.cons _ ((List.Sublist.refl _).append (List.sublist_append_left _ _)))))⟩) : p := h
theorem kc (h : q) (k : Bx q → p := by
 intro zq
 refine JJ [] [(0, .pure), (1, .pure), (2, .pure), (3, .pure), (5, .pure)] 6 [0, 1, 2, 3, 4, 5] m5 m5 m6 ?_
 refine Nn ?_
 refine Ji (k := 1) rfl rfl rfl rfl rfl (fun _ hS => (Jf rfl)) ?_
 refine Ji (k := 2) rfl rfl rfl rfl rfl (fun _ _ => ZD (a := B) (b := y) rfl rfl m0 m0) ?_
 refine Ji (k := 3) rfl rfl rfl rfl rfl (fun _ hS => (J5 rfl rfl rfl)) ?_
 refine KG (k := 4) rfl rfl rfl rfl rfl (Je rfl (kn 0 rfl) rfl rfl) ?_
 refine Ji (k := 5) rfl rfl rfl rfl rfl (fun _ hS => (J1 rfl rfl rfl)) ?_
 refine Kk ?_
 exact zq.1) : p := k ⟨h⟩
theorem kd (h : q) (k : Bx q → p := by
 intro zq
 refine KK 11 rfl ?_
 refine MW fun w1 hs1 => ?_
 revert w1 hs1
 exact zq.1) : p := k ⟨h⟩
theorem ke (h : q) (k : Bx q → p := by
 intro zq
 refine Jc rfl rfl rfl (J5 rfl rfl rfl) ?_
 refine Jc rfl rfl rfl (Je rfl (kn 0 rfl) rfl rfl) ?_
 exact zq.1) : p := k ⟨h⟩
theorem kg (h : q) (k : Bx q → p := by
 intro zq
 refine Jc rfl rfl rfl (JN (j := i / 8) (m := 1) (off' := i / 8) rfl rfl rfl rfl m0 m0 m0) ?_
 exact zq.1) : p := k ⟨h⟩
theorem ki (h : q) (k : Bx q → p := by
 intro zq
 refine Nm ?_
 refine Jz 5 rfl ?_
 exact zq.1) : p := k ⟨h⟩
theorem kj (h : q) (k : Bx q → p := by
 intro zq
 refine JS ?_
 refine Nw ?_
 refine LR rfl (Je (v := .int .i64 (m : Int)) rfl (JB (k := 0) rfl) rfl rfl) ?_
 refine JQ 4 rfl ?_
 refine Jy (σ := Nat) (fun i => i ≤ m) (fun i => [(0, .func (.yield q) #[] #[]), (1, QR ri), (2, QR rt), (5, .int .i64 (m : Int)), (6, .int .i64 (i : Int))]) (fun _ => []) (fun i => XI i) (fun i => m - i) 0 (Nat.zero_le _) (lK rfl) (List.Sublist.refl _) (fun _ _ h => h) ?_
 exact zq.1) : p := k ⟨h⟩
theorem ko (h : q) (k : Bx q → p := by
 intro zq
 refine Jt 3 rfl ?_
 refine LR rfl (Jm (xs := (J0 k pick ins i).cells) (n := 3) rfl (kn 1 rfl) rfl rfl (J0 k pick ins i).len) ?_
 refine LR rfl (Jm (xs := (Yb items i).cells) (n := 7) rfl (kn 0 rfl) rfl rfl (Yb items i).len) ?_
 refine Jb rfl rfl rfl Jof (ih _ hix.2 (hi _ hix.2) _ (dp + 1) (hit _ hty.2) (hci _ hty.2)) (fun q hq => Or.inr (List.mem_append_right _ hq)) ?_
 refine JQ 9 rfl ?_
 exact zq.1) : p := k ⟨h⟩
theorem kp (h : q) (k : Bx q → p := by
 intro zq
 refine LR rfl (Jo (vs := [_, _, _, _, _, _, _, _]) rfl (kn 2 rfl) rfl rfl rfl rfl) ?_
 exact zq.1) : p := k ⟨h⟩
theorem kq (h : q) (k : Bx q → p := by
 intro zq
 refine Jt 1 rfl ?_
 refine LN rfl fun r1 => ?_
 refine JK 6 rfl ?_
 refine Vx rfl rfl rfl (enters_of Tryz.func177 m5 rfl) (Jd1 ls2.length row2) fun rb => ?_
 refine JY ((List.Perm.swap _ _ _).trans (List.Perm.cons _ List.perm_middle.symm)) ?_
 change HL _ _ _ ((r1, .cells #[.slice none 0 0] 109 (0, 0)) :: (Xg Ds ++ ((rb, .cells #[J3 ls2.length row2] 109 (0, 0)) :: JL 9 (WL ls2) row2))) _ _ _ _
 refine NR ?_
 revert r1 rb
 exact zq.1) : p := k ⟨h⟩
theorem kr (h : p := by
 have e : TY = TY.take i ++ (x :: TY.drop (i + 1)) := by rw [← KF hx, List.take_append_drop]
 rw [e, VF, JV] at hH
 have := Ye (TY.drop (i + 1))
 have := h.at_
 omega) : p := h
theorem NP (h : q) (k : Bx q → p := by
 intro zq
 refine pT rfl rfl rfl fun w1 hs1 => ?_
 revert w1 hs1
 exact zq.1) : p := k ⟨h⟩
theorem ku (h : q) (k : Bx q → p := by
 intro zq
 refine Ji (k := 3) rfl rfl rfl rfl rfl (fun _ _ => Kc (j := (i / 8)) (m := 1) (off' := (i / 8)) rfl rfl rfl rfl m0 m0 m0) ?_
 refine KG (k := 4) rfl rfl rfl rfl rfl (Je rfl (kn 0 rfl) rfl (by rw [Vd]; exact Y1 m0)) ?_
 refine Ji (k := 5) rfl rfl rfl rfl rfl (fun _ hS => (Jf rfl)) ?_
 refine Ji (k := 6) rfl rfl rfl rfl rfl (fun _ _ => (J1 rfl rfl rfl)) ?_
 exact zq.1) : p := k ⟨h⟩
theorem kv (h : q) (k : Bx q → p := by
 intro zq
 refine MX fun r1 => ?_
 refine ND ?_
 refine N2 ?_
 revert r1
 exact zq.1) : p := k ⟨h⟩
theorem kw (h : q) (k : Bx q → p := by
 intro zq
 refine Ji (k := 5) rfl rfl rfl rfl rfl (fun _ hS => (J5 rfl rfl rfl)) ?_
 refine Ji (k := 6) rfl rfl rfl rfl rfl (fun _ hS => (Je rfl (.inl (hS _ (Kn (n := 1) rfl))) rfl rfl)) ?_
 exact zq.1) : p := k ⟨h⟩
theorem kA (h : q) (k : Bx q → p := by
 intro zq
 rw [Qw _ n ins.length a b c d bits pb items pi pick _ rfl]
 exact zq.1) : p := k ⟨h⟩
theorem kB (h : q) (k : Bx q → p := by
 intro zq
 refine Jc rfl rfl rfl (JN (j := 0) rfl rfl rfl rfl rfl mG mc) ?_
 exact zq.1) : p := k ⟨h⟩
theorem kC (h : p := by
 refine LR rfl (KA rfl rfl) ?_
 refine Jz 4 rfl ?_
 refine NP fun w1 hs1 => ?_
 exact ⟨(r1, r2), rfl, hs1⟩) : p := h
theorem kD (h : q) (k : Bx q → p := by
 intro zq
 refine LW 4 [0] rfl rfl (Jz 1 rfl (Yh 4 rfl ?_))
 refine MW fun w1 hs1 => ?_
 unfold JG
 simp only [JC]
 revert w1 hs1
 exact zq.1) : p := k ⟨h⟩
theorem kE (h : q) (k : Bx q → p := by
 intro zq
 refine JS ?_
 refine Nw ?_
 refine QX (cs := (a.map uV).toArray) rfl rfl rfl rfl fun r1 => ?_
 refine QX (cs := (b.map uV).toArray) rfl rfl rfl rfl fun r2 => ?_
 revert r1 r2
 exact zq.1) : p := k ⟨h⟩
theorem kF (h : p := by
 refine LR rfl (Js (r := [_]) rfl rfl) ?_
 refine QK rfl ?_
 refine LT 2 rfl rfl ?_
 refine Jz 5 rfl ?_
 refine Jd rfl rfl (.cons (Jl (vs := [_]) rfl (kn 2 rfl) rfl rfl) (.cons (Jn rfl) .nil)) (fun w1 hs1 => ?_)
 exact ⟨⟨st0L, ck, [], jr, by rw [hPb hge m9]; rfl⟩, rfl, hs1.weakL (List.nil_sublist _)⟩) : p := h
theorem kG (h : q) (k : Bx q → p := by
 intro zq
 refine JJ [] [(0, .pure), (1, .pure), (2, .pure), (3, .pure), (5, .pure), (6, .pure), (7, .pure), (8, .pure), (9, .pure), (10, .turn)] 11 [0, 1, 2, 3, 4, 5, 6, 7, 8, 9, 10] m5 m5 m6 ?_
 refine Nn ?_
 refine Ji (k := 1) rfl rfl rfl rfl rfl (fun _ hS => (Jf rfl)) ?_
 refine Ji (k := 2) rfl rfl rfl rfl rfl (fun _ _ => (J1 rfl rfl rfl)) ?_
 exact zq.1) : p := k ⟨h⟩
theorem kH (h : q) (k : Bx q → p := by
 intro zq
 refine Ji (k := 1) rfl rfl rfl rfl rfl (fun _ hS => (J5 rfl rfl rfl)) ?_
 exact zq.1) : p := k ⟨h⟩
theorem kI (h : q) (k : Bx q → p := by
 intro zq
 refine Jt 3 rfl ?_
 refine LR rfl (Jm (xs := Ty.cells (.mk k n p ins)) (n := 3) rfl (JB (k := 1) rfl) rfl rfl (Ty.len _)) ?_
 refine QK rfl (Jb rfl rfl rfl (enters_of Tryz.func231 m5 rfl) (Jvq ht (fun _ => Int.le_refl 0) (hx i hil)) (fun q hq => Or.inr (List.mem_cons_of_mem _ (List.mem_cons_of_mem _ hq))) ?_)
 exact zq.1) : p := k ⟨h⟩
theorem kJ (h : p := by
 refine MX fun r1 => ?_
 refine X6 7 [0] rfl rfl ?_
 refine LR rfl (Je rfl (Or.inr hb) rfl rfl) ?_
 refine LR rfl (Vc rfl rfl) ?_
 exact Nz) : p := h
theorem NK (h : q) (k : Bx q → p := by
 intro zq
 refine MY ?_
 refine MY ?_
 exact zq.1) : p := k ⟨h⟩
theorem kK (h : q) (k : Bx q → p := by
 intro zq
 refine QZ 4 [0] rfl rfl ?_
 exact zq.1) : p := k ⟨h⟩
theorem kL (h : p := by exact zw h0 hkm hdep (Region.noSelect_spec hsel) (fun E E' listed a hp hT => ⟨hT.1, hTp _ _ _ hp hT.2⟩) (hlt k hkm) (fun E' listed' a' hL => hseq _ hL.1) l.length listed E a inv (Region.free_spec h0 hr.1.2) hSE nN hr' hr.2 h1 fun x => next _ _ hSE.grow (h2 x)) : p := h
theorem kM (h : q) (k : Bx q → p := by
 intro zq
 refine Ji (k := 1) rfl rfl rfl rfl rfl (fun _ hS => (Js (r := [_, _, _]) rfl rfl)) ?_
 refine Ji (k := 2) rfl rfl rfl rfl rfl (fun _ hS => (Js (r := [_, _, _]) rfl rfl)) ?_
 refine Ji (k := 4) rfl rfl rfl rfl rfl (fun _ hS => (Jo (vs := [_, _, _]) rfl (.inl (hS _ (Kn (n := 0) rfl))) rfl rfl rfl rfl)) ?_
 exact zq.1) : p := k ⟨h⟩
theorem kN (h : q) (k : Bx q → p := by
 intro zq
 refine J7 (vs := [_]) (zs := [_]) (r := [_]) rfl rfl rfl rfl rfl rfl rfl rfl rfl mj rfl fun r2 => ?_
 revert r2
 exact zq.1) : p := k ⟨h⟩
theorem kP (h : q) (k : Bx q → p := by
 intro zq
 first | refine Jc rfl rfl rfl (Je rfl (kn 0 rfl) rfl rfl) ?_ | refine JZ rfl rfl rfl ?_
 first | refine Jc rfl rfl rfl (Jf rfl) ?_ | refine JZ rfl rfl rfl ?_
 exact zq.1) : p := k ⟨h⟩
theorem kQ (h : p := by
 refine Nm ?_
 refine ND ?_
 refine LR rfl (Jo (vs := [_, _, _, _]) rfl (kn 0 rfl) rfl rfl rfl rfl) ?_
 refine LT 1 rfl rfl ?_
 refine Jz 3 rfl ?_
 refine Jd rfl rfl (.cons (Jl (vs := [_, _, _, _]) rfl (kn 1 rfl) rfl rfl) .nil) (fun w1 hs1 => ?_)
 exact N4) : p := h
theorem kR (h : q) (k : Bx q → p := by
 intro zq
 refine JQ 4 rfl ?_
 exact zq.1) : p := k ⟨h⟩
theorem G6 (h : q) (k : Bx q → p := by
 intro zq
 refine Jt 5 rfl ?_
 refine N0 ?_
 exact zq.1) : p := k ⟨h⟩
theorem kT (h : q) (k : Bx q → p := by
 intro zq
 refine LW 1 [1] rfl rfl ?_
 refine Ng ?_
 refine LW 1 [0] rfl rfl ?_
 exact zq.1) : p := k ⟨h⟩
theorem kV (h : p := by
 refine QG [2, 0] (L' := [_, _]) m7 rfl ?_
 exact Jr (m + 1, some (ra, cap, sp)) ⟨by simp only; omega, hra⟩ ml (.cons rfl (.cons rfl (.cons rfl (.cons (congrArg (fun z => some (Value.int .i64 z)) ml) .nil)))) (List.Sublist.refl _) (fun _ _ h => h)) : p := h
theorem kX (h : q) (k : Bx q → p := by
 intro zq
 refine JE 5 rfl ?_
 exact zq.1) : p := k ⟨h⟩
theorem kY (h : p := by
 refine NS ?_
 refine ki ?_
 refine Jd rfl rfl (.cons (Jl (vs := [_, _, _, _]) rfl (kn 0 rfl) rfl rfl) (.cons (Jn rfl) .nil)) (fun w1 hs1 => ?_)
 refine ⟨?_, hs1.keep⟩
 rw [show Zk s = (zW, 2) from by unfold Zk; rw [if_neg m0]]
 rfl) : p := h
theorem kZ (h : q) (k : Bx q → p := by
 intro zq
 refine JY List.perm_append_comm ?_
 exact zq.1) : p := k ⟨h⟩
theorem g6 (h : q) (k : Bx q → p := by
 intro zq
 refine JJ [] [(1, .pure), (4, .pure), (6, .pure), (7, .pure), (8, .pure)] 9 [0, 1, 2, 4, 5, 6, 3, 7, 8] m5 m5 m6 ?_
 refine Nq ?_
 refine KG (k := 5) rfl rfl rfl rfl rfl (Je rfl (kn 0 rfl) rfl rfl) ?_
 refine Ji (k := 6) rfl rfl rfl rfl rfl (fun _ hS => (Jq rfl hs rfl)) ?_
 exact zq.1) : p := k ⟨h⟩
theorem g7 (h : q) (k : Bx q → p := by
 intro zq
 refine QZ 4 [2] rfl rfl ?_
 refine Jk mH ?_
 refine LR rfl (JT (kl := none) (kh := some N) (km := none) (m := 0) (q := N) (z := cap) (off' := 0) (sz := 1) rfl rfl rfl trivial ⟨_, rfl⟩ trivial rfl rfl rfl m0 m0 (Nat.le_refl _) (fun e => nomatch e) nV) ?_
 refine No ?_
 exact zq.1) : p := k ⟨h⟩
theorem g8 (h : q) (k : Bx q → p := by
 intro zq
 refine KK 7 rfl ?_
 refine MW fun w1 hs1 => ?_
 revert w1 hs1
 exact zq.1) : p := k ⟨h⟩
theorem g9 (h : p := by
 refine Nw ?_
 refine LR rfl (Js (r := [_]) rfl rfl) ?_
 refine QK rfl ?_
 refine LT 1 rfl rfl ?_
 refine Jz 5 rfl ?_
 refine Jd rfl rfl (.cons (Jl (vs := [_]) rfl (kn 1 rfl) rfl rfl) (.cons (Jn rfl) .nil)) (fun w1 hs1 => ?_)
 exact ⟨⟨st0L, ge, [], jr, by rw [hPa m9]; rfl⟩, rfl, hs1.weakL (List.nil_sublist _)⟩) : p := h
theorem gc (h : q) (k : Bx q → p := by
 intro zq
 refine JS ?_
 refine Jt 9 rfl ?_
 exact zq.1) : p := k ⟨h⟩
theorem kW (h : q) (k : Bx q → p := by
 intro zq
 refine JX 7 m5 m5 ?_
 refine Jc rfl rfl rfl (Je (v := J3 (SL.pairUp ls2).length row3) rfl (kn 1 rfl) rfl rfl) ?_
 refine NK ?_
 refine Jc rfl rfl rfl (VD (a := z) (b := z) rfl rfl m0) ?_
 refine Qt rfl rfl rfl Jdh hkz ?_
 refine Jc rfl rfl rfl (JP rfl) ?_
 refine NW ?_
 refine JK 6 rfl ?_
 exact zq.1) : p := k ⟨h⟩
theorem gh (h : p := by
 refine Jd rfl rfl (.cons (Jl (vs := X.cells) rfl (kn 0 rfl) rfl (by rw [X.len]; rfl)) .nil) (fun w1 hs1 => ?_)
 exact N4) : p := h
theorem gi (h : q) (k : Bx q → p := by
 intro zq
 refine LR rfl (Jg (j := i) rfl hs rfl rfl rfl mg m0) ?_
 exact zq.1) : p := k ⟨h⟩
theorem gk (h : q) (k : Bx q → p := by
 intro zq
 refine LR rfl (KU (j := i / 8) rfl rfl rfl rfl m0 rfl) ?_
 refine NC ?_
 refine Jk n5 ?_
 refine V7 rfl (Jk nO (LR rfl (jL (n := i % 8) (b := (((s.getD (i / 8) 0).toNat / 2 ^ (i % 8) : Nat) : Int)) rfl rfl rfl M9 m0 MO) ?_))
 refine V7 rfl (Jk mD ?_)
 refine V7 rfl ?_
 exact zq.1) : p := k ⟨h⟩
theorem gl (h : q) (k : Bx q → p := by
 intro zq
 refine Nn ?_
 refine Ji (k := 1) rfl rfl rfl rfl rfl (fun _ _ => KU (j := 0) rfl rfl rfl rfl m0 rfl) ?_
 refine Ji (k := 2) rfl rfl rfl rfl rfl (fun _ _ => (J1 rfl rfl rfl)) ?_
 refine VL mC ?_
 refine Ji (k := 3) rfl rfl rfl rfl rfl (fun _ hS => (J5 rfl rfl rfl)) ?_
 exact zq.1) : p := k ⟨h⟩
theorem gm (h : q) (k : Bx q → p := by
 intro zq
 refine Ji (k := 5) rfl rfl rfl rfl rfl (fun _ hS => (Qp rfl rfl)) ?_
 refine Ji (k := 6) rfl rfl rfl rfl rfl (fun _ hS => (Qp rfl rfl)) ?_
 exact zq.1) : p := k ⟨h⟩
theorem gn (h : q) (k : Bx q → p := by
 intro zq
 refine KK 4 rfl ?_
 refine QB rfl rfl .nil (fun w1 hs1 => ?_)
 revert w1 hs1
 exact zq.1) : p := k ⟨h⟩
theorem gp (h : p := by exact fun _ _ _ h => h.elim) : p := h
theorem gJ (h : q) (k : Bx q → p := by
 intro zq
 refine Jz 4 rfl ?_
 exact zq.1) : p := k ⟨h⟩
theorem gr (h : q) (k : Bx q → p := by
 intro zq
 refine LR rfl (Kj oR rfl hst hty.1 rfl rfl) ?_
 refine Ju (k := 0) (n := 3) (ys := X.cells) rfl rfl rfl rfl rfl X.len rfl X.one rfl ?_
 exact zq.1) : p := k ⟨h⟩
theorem gs (h : p := by
 refine Jt 3 rfl ?_
 refine Jh m0 m0 ?_
 refine Jz 3 rfl ?_
 refine Jv ?_
 exact Jr ((i + j) / 2 + 1, j) ⟨⟨by simp only; omega, hj0⟩, Jc1 hso hx m9, hi2⟩ ml (lK rfl) (List.nil_sublist _) (fun _ _ h => h)) : p := h
theorem gt (h : q) (k : Bx q → p := by
 intro zq
 refine N6 ?_
 refine NX ?_
 refine Ji (k := 3) rfl rfl rfl rfl rfl (fun _ hS => (Je rfl (.inl (hS _ (Kn (n := 1) rfl))) rfl rfl)) ?_
 exact zq.1) : p := k ⟨h⟩
theorem gu (h : q) (k : Bx q → p := by
 intro zq
 refine QZ 3 [0] rfl rfl ?_
 refine LR rfl (Jg (j := 0) rfl hsg rfl rfl rfl mg m0) ?_
 refine LR rfl (Kj oR rfl hsg hx00 rfl rfl) ?_
 exact zq.1) : p := k ⟨h⟩
theorem gy (h : q) (k : Bx q → p := by
 intro zq
 refine Jd rfl rfl (.cons (KT rfl (kn 1 rfl) rfl rfl) .nil) (fun w1 hs1 => ?_)
 revert w1 hs1
 exact zq.1) : p := k ⟨h⟩
theorem gN (h : p := by
 refine NP fun w1 hs1 => ?_
 exact ⟨⟨row, hrow⟩, rfl, hs1.weakL (List.sublist_append_left _ _)⟩) : p := h
theorem kU (h : q) (k : Bx q → p := by
 intro zq
 refine MY ?_
 refine N1 ?_
 exact zq.1) : p := k ⟨h⟩
theorem gz (h : q) (k : Bx q → p := by
 intro zq
 refine Jd rfl rfl (.cons (Jl (vs := [_, _, _, _, _, _, _, _]) rfl (kn 1 rfl) rfl rfl) .nil) (fun w1 hs1 => ?_)
 revert w1 hs1
 exact zq.1) : p := k ⟨h⟩
theorem gA (h : q) (k : Bx q → p := by
 intro zq
 refine Ka (LR rfl (Je rfl (JB (k := 3) rfl) rfl rfl) (LR rfl (JI rfl rfl) ?_))
 refine LS 4 [0] rfl rfl ?_
 refine Nm ?_
 refine LT 3 rfl rfl ?_
 refine Kt (k := 4) rfl rfl rfl rfl rfl rfl rfl rfl mi mh ?_
 refine KM (hK12 _ _ _ _ ?_)
 exact zq.1) : p := k ⟨h⟩
theorem gC (h : q) (k : Bx q → p := by
 intro zq
 first | refine Jc rfl rfl rfl (YC rfl rfl) ?_ | refine Jc rfl rfl rfl (YD rfl rfl) ?_
 exact zq.1) : p := k ⟨h⟩
theorem gD (h : q) (k : Bx q → p := by
 intro zq
 refine N3 ?_
 refine LW 3 [] rfl rfl ?_
 exact zq.1) : p := k ⟨h⟩
theorem gE (h : q) (k : Bx q → p := by
 intro zq
 refine Ju (k := 0) (n := 7) (ys := (Yb items i).cells) rfl rfl rfl rfl rfl (Yb items i).len rfl (Yb items i).one rfl ?_
 exact zq.1) : p := k ⟨h⟩
theorem gF (h : q) (k : Bx q → p := by
 intro zq
 refine Jz 1 rfl ?_
 refine hKr _ _ ?_
 refine JS ?_
 exact zq.1) : p := k ⟨h⟩
theorem gG (h : q) (k : Bx q → p := by
 intro zq
 refine LW 3 [] rfl rfl (Jz 1 rfl (Yh 2 rfl ?_))
 refine MW fun w1 hs1 => ?_
 revert w1 hs1
 exact zq.1) : p := k ⟨h⟩
theorem gg (h : p := by
 rw [if_neg hmod, if_neg Mt] at hmq
 refine JK 6 rfl ?_
 refine LR rfl (ZD (a := B) (b := y) rfl rfl m0 m0) ?_
 refine gJ ?_
 refine NP fun w1 hs1 => ?_
 exact .inl ⟨by rw [hmq], (), by rw [hmq]; rfl, hs1.weakL (List.nil_sublist _)⟩) : p := h
theorem gH (h : p := by
 refine Ji (k := 8) rfl rfl rfl rfl rfl (fun _ hS => (JP rfl)) ?_
 refine Kk ?_
 refine Jz 3 rfl ?_
 exact Nc) : p := h
theorem gK (h : q) (k : Bx q → p := by
 intro zq
 refine Jk nc ?_
 refine V7 rfl ?_
 refine Jk nd ?_
 refine V7 rfl ?_
 refine Jk mW ?_
 refine WJ (n := N) (b := 1) rfl rfl rfl rfl rfl rfl rfl rfl rfl m0 m0 fun rm => ?_
 rw [show List.replicate N (Value.int .u8 0) = (KX l N 0).map bV from by rw [KX, List.map_replicate]; rfl]
 revert rm
 exact zq.1) : p := k ⟨h⟩
theorem gL (h : p := by
 refine Jd rfl rfl (.cons (Jl (vs := [_, _, _]) rfl (kn 0 rfl) rfl rfl) .nil) (fun w1 hs1 => ?_)
 exact N4) : p := h
theorem gx (h : p := by
 refine Zj 2 rfl ?_
 have hkz := Jd0 (s := z ++ z) nw
 obtain ⟨z2, hz2⟩ : ∃ x, x = WZ (z ++ z) := ⟨_, rfl⟩
 rw [← hz2] at hkz heq
 refine kW ?_
 refine Jk n4 ?_
 refine Jz 2 rfl ?_
 exact NL) : p := h
theorem gP (h : p := by
 refine Nw ?_
 refine kp ?_
 refine ki ?_
 refine Np fun w1 hs1 => ?_
 rw [hset, if_neg m0, if_neg m0, if_pos m0]
 exact ⟨⟨a, 5, [], ha, rfl⟩, rfl, hs1.weakL (List.nil_sublist _)⟩) : p := h
theorem gQ (h : p := by
 refine KK 5 rfl ?_
 refine Jv ?_
 exact Jr (i, (i + j) / 2) ⟨⟨by simp only; omega, by simp only; omega⟩, hi1, Jc2 hso hx m9⟩ ml (lK rfl) (List.nil_sublist _) (fun _ _ h => h)) : p := h
theorem gR (h : q) (k : Bx q → p := by
 intro zq
 refine Jd rfl rfl (.cons (Jl (vs := [_]) rfl (kn 0 rfl) rfl rfl) (.cons (Jn rfl) .nil)) (fun w1 hs1 => ?_)
 revert w1 hs1
 exact zq.1) : p := k ⟨h⟩
theorem gS (h : p := by exact Jcm h0 nN hdep (Region.noSelect_spec hsel) (hlt k hkm) (fun E' listed' a' hL => hseq _ hL.1) l.length listed E a inv (Region.free_spec h0 hr.1.2) hSE hr' h1 (next _ _ hSE h2)) : p := h
theorem gU (h : p := by
 refine JE 1 rfl ?_
 have hg1 := qg hm2e (i := 2 * i) m0
 have hg2 := qg hm2e (i := 2 * i + 1) m0
 have hkc := Jd0 (s := ls2.getD (2 * i) [] ++ ls2.getD (2 * i + 1) []) nw
 exact Ny) : p := h
theorem Gd (h : p := by
 refine Nf ?_
 exact Jr (i + 1) m0 m0 (lK rfl) (.cons _ (List.Sublist.refl _)) (fun _ _ h => h)) : p := h
theorem gV (h : q) (k : Bx q → p := by
 intro zq
 first | (refine LR rfl (KV (kl := none) (kh := some (.i64, 4)) (m := 0) (n := 4) rfl rfl rfl rfl rfl rfl m0 m0 MC) ?_) | refine LK rfl ?_
 first | (refine J6 rfl rfl rfl Jdi (yF (s := s.take 4) nR) ?_) | refine LK rfl ?_
 exact zq.1) : p := k ⟨h⟩
theorem gW (h : q) (k : Bx q → p := by
 intro zq
 refine Ji (k := 2) rfl rfl rfl rfl rfl (fun _ hS => (Jf rfl)) ?_
 exact zq.1) : p := k ⟨h⟩
theorem gw (h : q) (k : Bx q → p := by
 intro zq
 refine LS 3 [] rfl rfl ?_
 exact zq.1) : p := k ⟨h⟩
theorem gX (h : p := by
 obtain ⟨s', g1, g2, g3, g4⟩ := hq
 have hp' : p a' w' (μ s') := ⟨s', g1, g3, g4, rfl⟩
 refine ⟨⟨_, hp'⟩, ?_⟩
 have := (hfm a' w' ⟨_, hp'⟩).2 _ hp'
 omega) : p := h
theorem gY (h : q) (k : Bx q → p := by
 intro zq
 refine Jt 6 rfl ?_
 exact zq.1) : p := k ⟨h⟩
theorem gZ (h : q) (k : Bx q → p := by
 intro zq
 refine LR rfl (KA rfl rfl) ?_
 exact zq.1) : p := k ⟨h⟩
theorem DX (h : q) (k : Bx q → p := by
 intro zq
 refine LS 1 [] rfl rfl ?_
 refine Kt (k := 4) (cs' := #[.int .u64 0, .int .u64 0, .int .u64 0, .int .u64 0, .slice none 0 0, J3 (i + 1) (some (ra, cap, sp)), .int .i64 0]) rfl rfl rfl rfl rfl rfl rfl rfl rfl rfl ?_
 exact zq.1) : p := k ⟨h⟩
theorem G0 (h : q) (k : Bx q → p := by
 intro zq
 refine Jc rfl rfl rfl (Jh6 rfl rfl rfl m5 m5 (.scal m7 rfl rfl rfl rfl rfl (.scal m7 rfl rfl rfl rfl rfl .nil))) ?_
 refine Qc (congrArg (fun b => Value.bool (!b)) (Jh8 x y)) ?_
 refine Kv ?_
 refine JQ 2 rfl ?_
 exact zq.1) : p := k ⟨h⟩
theorem G1 (h : p := by exact .inr ⟨(back2 v).symm.trans g1, go E undef hSE (.inl (List.Sublist.refl _)) g2⟩) : p := h
theorem G3 (h : q) (k : Bx q → p := by
 intro zq
 refine LR rfl (Jg (j := i) rfl hseg rfl rfl rfl mg m0) ?_
 refine LR rfl (KE AcL.len oR rfl hseg ha rfl rfl) ?_
 exact zq.1) : p := k ⟨h⟩
theorem G4 (h : p := by
 unfold wpOpIn
 simp only [ho]
 rw [if_pos (by unfold Region.wanted; rw [g3])]
 refine ⟨Qa, ?_⟩
 rw [Oper.semAt_eq _ _ _ (W6 g2)]
 exact hp _ a w (frd hi hk hall) hs) : p := h
theorem G5 (h : q) (k : Bx q → p := by
 intro zq
 refine kK ?_
 refine Ni ?_
 refine NC ?_
 exact zq.1) : p := k ⟨h⟩
theorem G7 (h : q) (k : Bx q → p := by
 intro zq
 refine LR rfl (Je rfl (JB (k := 0) rfl) rfl rfl) ?_
 exact zq.1) : p := k ⟨h⟩
theorem G8 (h : q) (k : Bx q → p := by
 intro zq
 refine LR rfl (Je rfl (JB (k := 1) rfl) rfl rfl) ?_
 exact zq.1) : p := k ⟨h⟩
theorem G9 (h : q) (k : Bx q → p := by
 intro zq
 refine Kt (k := 7) (cs' := #[J3 (i2 + 1) (some (ra2, cap2, sp2))]) rfl rfl rfl rfl rfl rfl rfl rfl rfl rfl ?_
 exact zq.1) : p := k ⟨h⟩
theorem Gb (h : q) (k : Bx q → p := by
 intro zq
 refine Jc rfl rfl rfl (Je rfl (JB (k := 0) rfl) rfl rfl) ?_
 exact zq.1) : p := k ⟨h⟩
theorem kz (h : q) (k : Bx q → p := by
 intro zq
 refine LR rfl (KO rfl rfl) ?_
 exact zq.1) : p := k ⟨h⟩
theorem gO (h : p := by
 have hi2 : 2 * i = ls2.length := by omega
 have hpl := WC ls2
 rw [List.take_of_length_le m0] at hxs
 obtain rfl : n = (SL.pairUp ls2).length := by omega
 subst hxs
 rw [← hn] at hr3
 exact gx) : p := h
theorem Gc (h : q) (k : Bx q → p := by
 intro zq
 refine JK 6 rfl ?_
 exact zq.1) : p := k ⟨h⟩
theorem GQ (h : p := by
 refine KK 7 rfl ?_
 refine NP fun w1 hs1 => ?_
 exact ⟨⟨none, rfl, rfl⟩, rfl, hs1⟩) : p := h
theorem Gg (h : q) (k : Bx q → p := by
 intro zq
 refine LW 3 [] rfl rfl (Jz 1 rfl (Yh 4 rfl ?_))
 refine MW fun w1 hs1 => ?_
 unfold JG
 simp only [JC]
 revert w1 hs1
 exact zq.1) : p := k ⟨h⟩
theorem Gh (h : p := by
 refine Jt 3 rfl ?_
 refine Jk n7 ?_
 refine Jz 3 rfl ?_
 refine Jv ?_
 exact Jr (i - 1) ⟨by omega, by omega⟩ m0 (lK rfl) (List.Sublist.refl _) (fun _ _ h => h)) : p := h
theorem Gj (h : q) (k : Bx q → p := by
 intro zq
 refine JQ 2 rfl ?_
 exact zq.1) : p := k ⟨h⟩
theorem Gk (h : q) (k : Bx q → p := by
 intro zq
 refine Ji (k := 7) rfl rfl rfl rfl rfl (fun _ hS => (J5 rfl rfl rfl)) ?_
 exact zq.1) : p := k ⟨h⟩
theorem Gl (h : q) (k : Bx q → p := by
 intro zq
 simp only [execOp, Sem.run_bind]
 exact zq.1) : p := k ⟨h⟩
theorem Gi (h : q) (k : Bx q → p := by
 intro zq
 refine JK 7 rfl ?_
 exact zq.1) : p := k ⟨h⟩
theorem Gm (h : q) (k : Bx q → p := by
 intro zq
 refine Jt 8 rfl ?_
 refine Jh m0 m0 ?_
 refine V7 rfl (qX m0 m0 (LR rfl (jL (n := 1) (b := (((i + j) / 2 : Nat) : Int)) rfl rfl rfl m7 m0 m0) ?_))
 refine V7 rfl (Jh m0 m0 (JQ 4 rfl ?_))
 exact zq.1) : p := k ⟨h⟩
theorem Gn (h : q) (k : Bx q → p := by
 intro zq
 refine LR rfl (Jo (vs := [_, _, _]) rfl (kn 1 rfl) rfl rfl rfl rfl) ?_
 exact zq.1) : p := k ⟨h⟩
theorem Gp (h : q) (k : Bx q → p := by
 intro zq
 refine LR rfl (Jo (vs := [_, _, _]) rfl (kn 2 rfl) rfl rfl rfl rfl) ?_
 exact zq.1) : p := k ⟨h⟩
theorem Gq (h : q) (k : Bx q → p := by
 intro zq
 refine J6 rfl rfl rfl Jwy (qH (n := 32 - s.length) m0) ?_
 rw [jx]
 refine LR rfl (VD (a := s) (b := List.replicate (32 - s.length) 0) rfl rfl (by rw [List.length_replicate]; omega)) ?_
 exact zq.1) : p := k ⟨h⟩
theorem Gr (h : q) (k : Bx q → p := by
 intro zq
 refine Jz 2 rfl ?_
 refine QG [1] (L' := [_]) m7 rfl ?_
 exact zq.1) : p := k ⟨h⟩
theorem Gs (h : p := by
 refine gn fun w1 hs1 => ?_
 obtain ⟨xs1, hx1⟩ := hs1.now
 exact ⟨⟨_, rfl⟩, hs1.keep, .inl ⟨i, _, (by show i = N; omega), hx1⟩⟩) : p := h
theorem Gt (h : q) (k : Bx q → p := by
 intro zq
 refine Ju (k := 0) (n := 3) (ys := y.cells) rfl rfl rfl rfl rfl y.len rfl y.one rfl ?_
 refine JK 4 rfl ?_
 refine LR rfl (Jm (xs := y.cells) (n := 3) rfl (kn 0 rfl) rfl rfl y.len) ?_
 exact zq.1) : p := k ⟨h⟩
theorem Gu (h : q) (k : Bx q → p := by
 intro zq
 refine kg ?_
 refine Kv ?_
 refine KS (k := 0) (off := i / 8) (xs := (YJ f i).map uV) (ys := (YJ f (i + 1)).map uV) rfl rfl rfl rfl rfl rfl (by simp [jN]; omega) (Wr (wA f m0)) rfl ?_
 exact zq.1) : p := k ⟨h⟩
theorem Gv (h : q) (k : Bx q → p := by
 intro zq
 refine LW 2 [] rfl rfl ?_
 exact zq.1) : p := k ⟨h⟩
theorem Gw (h : q) (k : Bx q → p := by
 intro zq
 refine JE 3 rfl ?_
 exact zq.1) : p := k ⟨h⟩
theorem kS (h : q) (k : Bx q → p := by
 intro zq
 refine Jt 5 rfl ?_
 exact zq.1) : p := k ⟨h⟩
theorem Ga (h : q) (k : Bx q → p := by
 intro zq
 refine Jz 5 rfl ?_
 exact zq.1) : p := k ⟨h⟩
theorem Gy (h : q) (k : Bx q → p := by
 intro zq
 refine Nw ?_
 refine Nb ?_
 refine Nm ?_
 exact zq.1) : p := k ⟨h⟩
theorem Gz (h : q) (k : Bx q → p := by
 intro zq
 change HL _ _ _ (WE rv (.mk a b c d bits pb items pi pick) :: Vs rt (.mk k n p ins) :: _) _ _ _ _
 refine NR ?_
 refine YE [3, 0, 1, 2, 4, 5] (L' := [_, _, _, _, _, _]) m7 rfl ?_
 exact zq.1) : p := k ⟨h⟩
theorem GA (h : q) (k : Bx q → p := by
 intro zq
 refine gi ?_
 refine LR rfl (Qe oR rfl hs hix.1 rfl rfl) ?_
 refine Ql (cs := #[.int .u64 0, .int .u64 0, .int .u64 0, .int .u64 0, .slice none 0 0, .slice none 0 0, .int .i64 0]) rfl rfl rfl rfl fun rv => ?_
 revert rv
 exact zq.1) : p := k ⟨h⟩
theorem GB (h : p := by exact q9 ho (hnd i o ho) hw (hr E hE w hs) fun u w' ⟨x, e', hk, hf, hd⟩ => h _ _ w' hE.grow (hs.freshs hk hf hd) (e' ▸ (h2 x))) : p := h
theorem GC (h : q) (k : Bx q → p := by
 intro zq
 refine Jc rfl rfl rfl (J5 rfl rfl rfl) ?_
 refine Jc rfl rfl rfl (Je rfl (kn 1 rfl) rfl rfl) ?_
 refine MY ?_
 refine Jc rfl rfl rfl (Jg (j := i) rfl h1 rfl rfl rfl mg m0) ?_
 exact zq.1) : p := k ⟨h⟩
theorem GD (h : q) (k : Bx q → p := by
 intro zq
 refine KK 8 rfl ?_
 exact zq.1) : p := k ⟨h⟩
theorem GF (h : q) (k : Bx q → p := by
 intro zq
 refine kB ?_
 refine Jc rfl rfl rfl (Je rfl (kn 0 rfl) rfl rfl) ?_
 exact zq.1) : p := k ⟨h⟩
theorem GG (h : p := by
 refine kd fun w1 hs1 => ?_
 rw [ZT fun j u v hu hv => hinv j u v (by have := (List.getElem?_eq_some_iff.1 hv).1; omega) hu hv]
 rfl) : p := h
theorem GH (h : q) (k : Bx q → p := by
 intro zq
 refine ki ?_
 refine Jd rfl rfl (.cons (Jl (vs := [_, _, _, _, _, _, _]) rfl (kn 0 rfl) rfl rfl) .nil) (fun w1 hs1 => ?_)
 revert w1 hs1
 exact zq.1) : p := k ⟨h⟩
theorem GJ (h : p := by exact .inl ⟨g1.same (back1 v).symm (back2 v).symm, fun x => go _ _ hSE.grow (.inl (List.sublist_append_right _ _)) (g2 x)⟩) : p := h
theorem GK (h : q) (k : Bx q → p := by
 intro zq
 first | (refine Jb rfl rfl rfl Jin hro oR ?_) | refine LK rfl ?_
 exact zq.1) : p := k ⟨h⟩
theorem GM (h : q) (k : Bx q → p := by
 intro zq
 refine Ji (k := 6) rfl rfl rfl rfl rfl (fun _ hS => (Jf rfl)) ?_
 exact zq.1) : p := k ⟨h⟩
theorem GN (h : q) (k : Bx q → p := by
 intro zq
 refine LR rfl (Jo (vs := [_]) rfl (kn 0 rfl) rfl rfl rfl rfl) ?_
 exact zq.1) : p := k ⟨h⟩
theorem GO (h : p := by
 obtain ⟨g1, g2, g3⟩ := hs.own p hp
 exact ⟨g1, g2, (hk.block p.1 (Jx g3) fun hm => (hx1 _ hm).2.2 p hp rfl).trans g3⟩) : p := h
theorem GP (h : q) (k : Bx q → p := by
 intro zq
 refine LR rfl (Jm (xs := (YJ f 32).map uV) rfl (kn 0 rfl) rfl rfl rfl) ?_
 refine Ju (k := 1) (n := 4) (ys := (YJ f 32).map uV) rfl rfl rfl rfl rfl rfl rfl rfl rfl ?_
 exact zq.1) : p := k ⟨h⟩
theorem GY (h : q) (k : Bx q → p := by
 intro zq
 refine LW 1 [1] rfl rfl ?_
 exact zq.1) : p := k ⟨h⟩
theorem GZ (h : q) (k : Bx q → p := by
 intro zq
 refine LW 4 [0] rfl rfl ?_
 exact zq.1) : p := k ⟨h⟩
theorem H0 (h : q) (k : Bx q → p := by
 intro zq
 refine Ni ?_
 refine kR ?_
 exact zq.1) : p := k ⟨h⟩
theorem H1 (h : q) (k : Bx q → p := by
 intro zq
 refine Jc rfl rfl rfl (Jg (j := i) rfl hs rfl rfl rfl mg m0) ?_
 exact zq.1) : p := k ⟨h⟩
theorem H2 (h : q) (k : Bx q → p := by
 intro zq
 refine Jz 2 rfl (Zj 1 rfl ?_)
 exact zq.1) : p := k ⟨h⟩
theorem GR (h : q) (k : Bx q → p := by
 intro zq
 refine KK 12 rfl ?_
 refine MW fun w1 hs1 => ?_
 revert w1 hs1
 exact zq.1) : p := k ⟨h⟩
theorem Hv (h : p := by
 refine Nv ?_
 obtain rfl : i = n := by omega
 refine KK 6 rfl ?_
 refine NP fun w1 hs1 => ?_
 exact ⟨⟨row, hrow⟩, rfl, hs1⟩) : p := h
theorem GS (h : q) (k : Bx q → p := by
 intro zq
 refine JS ?_
 refine Jt 8 rfl ?_
 exact zq.1) : p := k ⟨h⟩
theorem GT (h : q) (k : Bx q → p := by
 intro zq
 refine Ji (k := 4) rfl rfl rfl rfl rfl (fun _ hS => (J5 rfl rfl rfl)) ?_
 refine KG (k := 5) rfl rfl rfl rfl rfl (Je rfl (kn 0 rfl) rfl rfl) ?_
 refine Kk ?_
 refine NR ?_
 exact zq.1) : p := k ⟨h⟩
theorem GU (h : q) (k : Bx q → p := by
 intro zq
 refine Jc rfl rfl rfl (Jo (vs := [_, _, _, _, _, _, _]) rfl (kn 0 rfl) rfl rfl rfl rfl) ?_
 refine WQ rfl rfl rfl (enters_of Tryz.func200 m5 rfl) hnu oR ?_
 refine MY ?_
 exact zq.1) : p := k ⟨h⟩
theorem GV (h : q) (k : Bx q → p := by
 intro zq
 refine JK 4 rfl ?_
 exact zq.1) : p := k ⟨h⟩
theorem GW (h : q) (k : Bx q → p := by
 intro zq
 refine Jt 3 rfl ?_
 exact zq.1) : p := k ⟨h⟩
theorem GX (h : p := by
 refine Jz 3 rfl ?_
 refine Jv ?_
 exact Jr (i + 1) ⟨by omega, by omega⟩ m0 (lK rfl) (List.Sublist.refl _) (fun _ _ h => h)) : p := h
theorem H3 (h : p := by
 refine kd fun w1 hs1 => ?_
 rw [Jcy fun j x hx => hinv j (by have := (List.getElem?_eq_some_iff.1 hx).1; omega) x hx]
 rfl) : p := h
theorem H4 (h : q) (k : Bx q → p := by
 intro zq
 refine Jt 1 rfl ?_
 exact zq.1) : p := k ⟨h⟩
theorem H5 (h : p := by
 refine ND ?_
 refine N0 ?_
 exact Nt) : p := h
theorem H6 (h : q) (k : Bx q → p := by
 intro zq
 refine Nw ?_
 refine N8 ?_
 refine LR rfl (Jm (xs := (Yb items i).cells) (n := 7) rfl (kn 1 rfl) rfl rfl (Yb items i).len) ?_
 refine Jb rfl rfl rfl Js4 hbi oR ?_
 exact zq.1) : p := k ⟨h⟩
theorem H7 (h : p := by exact .inr ⟨(back2 undef).symm.trans g1, go E undef hSE g2⟩) : p := h
theorem H8 (h : p := by exact Jr (i + 1, some (ra, cap, sp)) ⟨by simp only; omega, hra⟩ ml (lK rfl) (List.Sublist.refl _) (fun _ _ h => h)) : p := h
theorem Ha (h : p := by exact absurd hj (tail_waits h2 h3 M5 inv _ i rfl hi hun j hjm)) : p := h
theorem Hb (h : p := by
 refine MX fun r1 => ?_
 refine Goq 11 [0] rfl rfl ?_
 exact Nc) : p := h
theorem GL (h : q) (k : Bx q → p := by
 intro zq
 refine JE 1 rfl ?_
 exact zq.1) : p := k ⟨h⟩
theorem Hc (h : q) (k : Bx q → p := by
 intro zq
 refine kv fun r1 => ?_
 refine Jb rfl rfl rfl Jil hno oR ?_
 refine QK rfl ?_
 revert r1
 exact zq.1) : p := k ⟨h⟩
theorem Hd (h : q) (k : Bx q → p := by
 intro zq
 refine Ju (k := 0) (n := 3) (ys := (J0 k pick ins i).cells) rfl rfl rfl rfl rfl (J0 k pick ins i).len rfl (J0 k pick ins i).one rfl ?_
 refine JK 3 rfl ?_
 exact zq.1) : p := k ⟨h⟩
theorem He (h : q) (k : Bx q → p := by
 intro zq
 refine kH ?_
 refine KG (k := 2) rfl rfl rfl rfl rfl (Je rfl (kn 0 rfl) rfl rfl) ?_
 exact zq.1) : p := k ⟨h⟩
theorem Hf (h : q) (k : Bx q → p := by
 intro zq
 refine Jc rfl rfl rfl (KJ rfl (JB (k := 1) rfl) rfl (KW (by rw [hbln]; omega))) ?_
 exact zq.1) : p := k ⟨h⟩
theorem Hg (h : q) (k : Bx q → p := by
 intro zq
 refine Ka (LS 3 [4] rfl rfl ?_)
 refine Jk mq ?_
 refine LT 4 rfl rfl ?_
 refine KM ?_
 refine Yp (QG [4, 5, 6, 7, 0] (L' := [_, _, _, _, _]) m7 rfl ?_)
 exact zq.1) : p := k ⟨h⟩
theorem Hh (h : q) (k : Bx q → p := by
 intro zq
 refine LR rfl (Js (r := [_]) rfl rfl) ?_
 exact zq.1) : p := k ⟨h⟩
theorem Hi (h : q) (k : Bx q → p := by
 intro zq
 refine QZ 6 [0] rfl rfl ?_
 exact zq.1) : p := k ⟨h⟩
theorem Hx (h : q) (k : Bx q → p := by
 intro zq
 refine gc ?_
 refine Ni ?_
 refine QK rfl (LR rfl (Jq rfl hs' rfl) (JQ 3 rfl ?_))
 exact zq.1) : p := k ⟨h⟩
theorem Hj (h : p := by exact q9 ho (hnd i o ho) hw (hr w hs) fun u w' ⟨x, e', hs'⟩ => h _ _ w' (h2 x).1 hs' (e' ▸ (h2 x).2)) : p := h
theorem Hk (h : q) (k : Bx q → p := by
 intro zq
 refine LR rfl (Jm (xs := a.map uV) (n := 4) rfl (kn 1 rfl) rfl rfl nZ) ?_
 refine LR rfl (Jm (xs := b.map uV) (n := 4) rfl (kn 0 rfl) rfl rfl M0) ?_
 exact zq.1) : p := k ⟨h⟩
theorem Hl (h : q) (k : Bx q → p := by
 intro zq
 refine LR rfl (Js (r := [_, _, _]) rfl rfl) ?_
 exact zq.1) : p := k ⟨h⟩
theorem Hm (h : q) (k : Bx q → p := by
 intro zq
 refine J7 (vs := [_]) (zs := [_]) (r := [_]) rfl rfl rfl rfl rfl rfl rfl rfl rfl mj rfl fun r1 => ?_
 revert r1
 exact zq.1) : p := k ⟨h⟩
theorem Hn (h : q) (k : Bx q → p := by
 intro zq
 refine J7 (vs := [_]) (zs := [_]) (r := [_]) rfl rfl rfl rfl rfl rfl rfl rfl rfl mj rfl fun r3 => ?_
 revert r3
 exact zq.1) : p := k ⟨h⟩
theorem Ho (h : q) (k : Bx q → p := by
 intro zq
 refine Jd rfl rfl (.cons (Jl (vs := [_, _, _, _, _, _, _]) rfl (kn 1 rfl) rfl rfl) .nil) (fun w1 hs1 => ?_)
 revert w1 hs1
 exact zq.1) : p := k ⟨h⟩
theorem Gx (h : q) (k : Bx q → p := by
 intro zq
 refine Jt 4 rfl ?_
 exact zq.1) : p := k ⟨h⟩
theorem Hp (h : q) (k : Bx q → p := by
 intro zq
 refine LR rfl (JN (j := 0) rfl rfl rfl rfl rfl mG mc) ?_
 exact zq.1) : p := k ⟨h⟩
theorem Hq (h : q) (k : Bx q → p := by
 intro zq
 refine LR rfl (Jg (j := i) rfl hs rfl rfl rfl rfl m0) ?_
 exact zq.1) : p := k ⟨h⟩
theorem Hr (h : p := by
 rw [Ke hx, VF, JV, JV, Wx, if_neg hn, ← h.at_]
 omega) : p := h
theorem Hs (h : q) (k : Bx q → p := by
 intro zq
 refine Ji (k := 0) rfl rfl rfl rfl rfl (fun _ hS => (J5 rfl rfl rfl)) ?_
 refine KG (k := 1) rfl rfl rfl rfl rfl (Je rfl (kn 1 rfl) rfl rfl) ?_
 exact zq.1) : p := k ⟨h⟩
theorem Ht (h : p := by exact q9 ho (hnd i o ho) hw (hq w hs) fun u w' ⟨e, hk'⟩ => h E _ w' hE (hs.more hk') (e ▸ hk)) : p := h
theorem Hu (h : q) (k : Bx q → p := by
 intro zq
 refine LR rfl (Kc (j := i) (m := 1) (off' := i) rfl rfl rfl rfl m0 m0 m0) ?_
 refine LR rfl (Je rfl (kn 0 rfl) rfl (Jbd s (i := i) m0 sp)) ?_
 exact zq.1) : p := k ⟨h⟩
theorem HE (h : q) (k : Bx q → p := by
 intro zq
 first | refine Jc rfl rfl rfl (J5 rfl rfl rfl) ?_ | refine JZ rfl rfl rfl ?_
 exact zq.1) : p := k ⟨h⟩
theorem HF (h : q) (k : Bx q → p := by
 intro zq
 refine LR rfl (Jm (xs := (ys).cells) (n := 1) rfl (kn 3 rfl) rfl rfl rfl) ?_
 exact zq.1) : p := k ⟨h⟩
theorem HG (h : q) (k : Bx q → p := by
 intro zq
 refine LR rfl (Jo (vs := [_, _, _, _, _]) rfl (kn 0 rfl) rfl rfl rfl rfl) ?_
 exact zq.1) : p := k ⟨h⟩
theorem HI (h : q) (k : Bx q → p := by
 intro zq
 refine kK ?_
 refine Nb ?_
 refine LT 3 rfl rfl ?_
 refine Jz 9 rfl ?_
 refine Jd rfl rfl (.cons (Jl (vs := [_, _, _, _, _, _, _, _]) rfl (kn 3 rfl) rfl rfl) .nil) (fun w1 hs1 => ?_)
 revert w1 hs1
 exact zq.1) : p := k ⟨h⟩
theorem HJ (h : q) (k : Bx q → p := by
 intro zq
 refine kU ?_
 refine Jfh m0 m0 m0 ?_
 refine kg ?_
 refine Jc rfl rfl rfl (KJ rfl (kn 0 rfl) rfl (KW (by rw [jN]; omega))) ?_
 refine NK ?_
 exact zq.1) : p := k ⟨h⟩
theorem Hw (h : q) (k : Bx q → p := by
 intro zq
 refine JS ?_
 refine JE 12 rfl ?_
 exact zq.1) : p := k ⟨h⟩
theorem Hy (h : q) (k : Bx q → p := by
 intro zq
 refine ND ?_
 refine LR rfl (Jm (xs := (Ty.mk k n p ins).cells) (n := 3) rfl (kn 1 rfl) rfl rfl (Ty.mk k n p ins).len) ?_
 refine LS 2 [0] rfl rfl ?_
 exact zq.1) : p := k ⟨h⟩
theorem Hz (h : p := by
 rw [Ke hx, VF, JV, JV, Wx, if_pos hf, ← h.at_]
 omega) : p := h
theorem HH (h : q) (k : Bx q → p := by
 intro zq
 refine MY ?_
 refine Jc rfl rfl rfl (Qp rfl rfl) ?_
 refine Jc rfl rfl rfl (Qp rfl rfl) ?_
 refine Jc rfl rfl rfl (JP rfl) ?_
 refine NW ?_
 exact zq.1) : p := k ⟨h⟩
theorem HK (h : q) (k : Bx q → p := by
 intro zq
 refine Nx ?_
 refine V7 rfl ?_
 exact zq.1) : p := k ⟨h⟩
theorem HM (h : p := by
 rw [List.getD_eq_getElem?_getD, List.getElem?_eq_getElem h]
 exact ⟨rfl, List.getElem_mem h⟩) : p := h
theorem HN (h : p := by exact .inl ⟨g1.same (back1 undef).symm (back2 undef).symm, fun x => go _ _ hSE.grow (g2 x)⟩) : p := h
theorem HO (h : p := by
 unfold wpOpIn
 simp only [ho]
 rw [if_neg (by rw [hw]; simp)]
 exact ⟨Qa, h E _ w hE hs hk⟩) : p := h
theorem HP (h : p := by
 obtain ⟨e, he, hb, hno⟩ := op6 i o ho' hiP hik
 exact absurd (hi.2.1 _ (hall e he hb)) hno) : p := h
theorem HR (h : q) (k : Bx q → p := by
 intro zq
 refine Jc rfl rfl rfl (KJ rfl (kn 1 rfl) rfl (KW (by rw [hsl]; omega))) ?_
 exact zq.1) : p := k ⟨h⟩
theorem HT (h : q) (k : Bx q → p := by
 intro zq
 refine LN rfl fun r3 => ?_
 refine Nm ?_
 revert r3
 exact zq.1) : p := k ⟨h⟩
theorem HU (h : q) (k : Bx q → p := by
 intro zq
 refine Ji (k := 11) rfl rfl rfl rfl rfl (fun _ hS => (J5 rfl rfl rfl)) ?_
 exact zq.1) : p := k ⟨h⟩
theorem HV (h : p := by exact ⟨fun a w => Classical.choose (h1 a w), fun a w => Classical.choose_spec (h1 a w)⟩) : p := h
theorem HW (h : q) (k : Bx q → p := by
 intro zq
 refine JQ 9 rfl ?_
 exact zq.1) : p := k ⟨h⟩
theorem HX (h : q) (k : Bx q → p := by
 intro zq
 refine Jz 3 rfl ?_
 exact zq.1) : p := k ⟨h⟩
theorem HY (h : q) (k : Bx q → p := by
 intro zq
 refine LS 1 [] rfl rfl ?_
 refine Kt (k := 3) (cs' := #[J3 (i + 1) (some (ra, cap, sp))]) rfl rfl rfl rfl rfl rfl rfl rfl rfl rfl ?_
 exact zq.1) : p := k ⟨h⟩
theorem HZ (h : p := by
 obtain ⟨h1, rfl⟩ := List.getElem?_eq_some_iff.1 h
 exact List.drop_eq_getElem_cons h1) : p := h
theorem D0 (h : q) (k : Bx q → p := by
 intro zq
 refine QQ (k := 0) rfl rfl ?_
 exact zq.1) : p := k ⟨h⟩
theorem D3 (h : q) (k : Bx q → p := by
 intro zq
 refine Nw ?_
 refine LN rfl fun r1 => ?_
 refine Nh ?_
 refine gZ ?_
 revert r1
 exact zq.1) : p := k ⟨h⟩
theorem D4 (h : p := by
 refine gm ?_
 refine Kk ?_
 refine Ga ?_
 refine Nl fun w1 hs1 => ?_
 rw [hb1 hz]
 rfl) : p := h
theorem D5 (h : q) (k : Bx q → p := by
 intro zq
 change HC _ _ [(0, _), (1, _), (2, _), (8, _), (9, .int .i64 (i : Int)), (10, .int .i64 (j : Int))] _ _ _ _
 refine JE 8 rfl ?_
 exact zq.1) : p := k ⟨h⟩
theorem D6 (h : p := by
 have h1 := XD ha
 have h2 := XD hb
 rw [h, h2] at h1
 exact (Option.some.inj h1).symm) : p := h
theorem D7 (h : q) (k : Bx q → p := by
 intro zq
 refine Ju (k := 0) (n := 4) (ys := (ze a b).1.map uV) rfl rfl rfl rfl rfl (by rw [List.length_map]; exact xP) rfl (Zl _) rfl ?_
 exact zq.1) : p := k ⟨h⟩
theorem D8 (h : q) (k : Bx q → p := by
 intro zq
 refine QZ 3 [3, 2] rfl rfl ?_
 refine Vx rfl rfl rfl (enters_of Tryz.func162 m5 rfl) (Jds (.mk k n p ins) (.mk a b c d bits pb items pi pick)) fun pp => ?_
 revert pp
 exact zq.1) : p := k ⟨h⟩
theorem D9 (h : q) (k : Bx q → p := by
 intro zq
 refine GD ?_
 refine MW fun w1 hs1 => ?_
 revert w1 hs1
 exact zq.1) : p := k ⟨h⟩
theorem Da (h : q) (k : Bx q → p := by
 intro zq
 refine LR rfl (Jq rfl hseg rfl) ?_
 exact zq.1) : p := k ⟨h⟩
theorem Db (h : q) (k : Bx q → p := by
 intro zq
 refine LT 1 rfl rfl ?_
 exact zq.1) : p := k ⟨h⟩
theorem Dh (h : p := by exact ⟨m, hm, fun k hp => Nat.le_of_not_lt fun hlt => hx ⟨k, hlt, hp⟩⟩) : p := h
theorem Di (h : q) (k : Bx q → p := by
 intro zq
 refine JJ [] [(0, .pure), (1, .pure), (2, .pure), (3, .pure), (4, .pure)] 6 [0, 1, 2, 3, 4, 5] m5 m5 m6 ?_
 refine Nn ?_
 exact zq.1) : p := k ⟨h⟩
theorem Dk (h : p := by
 rw [getD_set_ne true hjk] at hun
 exact hun) : p := h
theorem Dl (h : q) (k : Bx q → p := by
 intro zq
 refine Gk ?_
 refine Ji (k := 8) rfl rfl rfl rfl rfl (fun _ hS => (Je rfl (.inl (hS _ (Kn (n := 1) rfl))) rfl rfl)) ?_
 exact zq.1) : p := k ⟨h⟩
theorem Dm (h : q) (k : Bx q → p := by
 intro zq
 refine Ja Tryz.func118 rfl rfl fun w => ?_
 refine GS ?_
 refine LR rfl (Je (v := .int .i64 (bits.length : Int)) rfl (JB (k := 0) rfl) rfl rfl) ?_
 revert w
 exact zq.1) : p := k ⟨h⟩
theorem Do (h : q) (k : Bx q → p := by
 intro zq
 first | (refine Jb rfl rfl rfl Jop hpl oR ?_) | refine LK rfl ?_
 exact zq.1) : p := k ⟨h⟩
theorem Dp (h : q) (k : Bx q → p := by
 intro zq
 first | refine Jc rfl rfl rfl (Jo (vs := [_, _, _, _]) rfl (kn 0 rfl) rfl rfl rfl rfl) ?_ | refine JZ rfl rfl rfl ?_
 exact zq.1) : p := k ⟨h⟩
theorem Dq (h : q) (k : Bx q → p := by
 intro zq
 refine Ji (k := 1) rfl rfl rfl rfl rfl (fun _ hS => (Jf rfl)) ?_
 exact zq.1) : p := k ⟨h⟩
theorem Dr (h : q) (k : Bx q → p := by
 intro zq
 refine Ji (k := 4) rfl rfl rfl rfl rfl (fun _ hS => (Jf rfl)) ?_
 exact zq.1) : p := k ⟨h⟩
theorem Dc (h : p := by
 have h1 := hT _ _ _ H j (ready_mono hj hji)
 have h2 := hlt _ inv (mem_ready.1 hr).1 j hj
 omega) : p := h
theorem Dd (h : q) (k : Bx q → p := by
 intro zq
 refine JS ?_
 refine Nw ?_
 refine QX (cs := (l.map uV).toArray) rfl rfl rfl rfl fun r1 => ?_
 revert r1
 exact zq.1) : p := k ⟨h⟩
theorem De (h : q) (k : Bx q → p := by
 intro zq
 refine Nx ?_
 refine NC ?_
 exact zq.1) : p := k ⟨h⟩
theorem Df (h : p := by
 refine LR rfl (Kj oR rfl hst hy rfl rfl) ?_
 refine Nm ?_
 refine gJ ?_
 exact gL) : p := h
theorem Dg (h : p := by
 refine kd fun w1 hs1 => ?_
 rw [hcg m0, ← hinv, List.drop_of_length_le MI]
 rfl) : p := h
theorem Dt (h : q) (k : Bx q → p := by
 intro zq
 refine Ji (k := 5) rfl rfl rfl rfl rfl (fun _ hS => (Jf rfl)) ?_
 exact zq.1) : p := k ⟨h⟩
theorem Du (h : q) (k : Bx q → p := by
 intro zq
 refine kP ?_
 first | (refine Jc rfl rfl rfl (Jg (j := i) rfl hseg rfl rfl rfl mg m0) ?_) | refine JZ rfl rfl rfl ?_
 exact zq.1) : p := k ⟨h⟩
theorem DJ (h : q) (k : Bx q → p := by
 intro zq
 refine QK rfl ?_
 refine LR rfl (Jg (j := i) rfl hsb rfl rfl rfl mg m0) ?_
 refine LR rfl (Yu oR rfl hsb hy rfl) ?_
 exact zq.1) : p := k ⟨h⟩
theorem Dv (h : p := by
 have h1 := h _ w (qz (n := c.n) Mb) hs
 rw [hro, hc, hn] at h1
 exact h1) : p := h
theorem Dw (h : q) (k : Bx q → p := by
 intro zq
 refine J6 rfl rfl rfl Jip Ja1 ?_
 refine NR ?_
 exact zq.1) : p := k ⟨h⟩
theorem Dx (h : q) (k : Bx q → p := by
 intro zq
 refine LR rfl (Vc rfl rfl) ?_
 exact zq.1) : p := k ⟨h⟩
theorem Dy (h : q) (k : Bx q → p := by
 intro zq
 refine Jz 2 rfl ?_
 refine Jv ?_
 exact zq.1) : p := k ⟨h⟩
theorem DA (h : q) (k : Bx q → p := by
 intro zq
 refine LW 1 [0] rfl rfl ?_
 exact zq.1) : p := k ⟨h⟩
theorem DB (h : q) (k : Bx q → p := by
 intro zq
 refine JX 7 m5 m5 ?_
 refine Gb ?_
 refine Jc rfl rfl rfl (Je rfl (JB (k := 1) rfl) rfl rfl) ?_
 refine MY ?_
 exact zq.1) : p := k ⟨h⟩
theorem DC (h : p := by
 refine QB rfl rfl .nil (fun w1 hs1 => ?_)
 exact ⟨(), rfl, hs1⟩) : p := h
theorem DE (h : p := by
 refine Ws (k := 7) rfl rfl rfl rfl rfl Joi (Jpd m0 m0) ?_
 exact gH) : p := h
theorem DF (h : p := by
 rw [wV, wL, Kq]
 have : 1 * s.length ≤ (7 - d) * s.length := Nat.mul_le_mul_right _ m0
 omega) : p := h
theorem DG (h : q) (k : Bx q → p := by
 intro zq
 refine gJ ?_
 refine MW fun w1 hs1 => ?_
 revert w1 hs1
 exact zq.1) : p := k ⟨h⟩
theorem DH (h : q) (k : Bx q → p := by
 intro zq
 refine Nw ?_
 refine LR rfl (KU (j := 0) rfl rfl rfl rfl m0 rfl) ?_
 exact zq.1) : p := k ⟨h⟩
theorem DI (h : q) (k : Bx q → p := by
 intro zq
 refine JS ?_
 refine Jt 7 rfl ?_
 exact zq.1) : p := k ⟨h⟩
theorem DK (h : q) (k : Bx q → p := by
 intro zq
 refine Nx ?_
 refine NR ?_
 exact zq.1) : p := k ⟨h⟩
theorem DL (h : p := by
 refine KK 9 rfl ?_
 refine Nl fun w1 hs1 => ?_
 rw [if_pos m0]
 rfl) : p := h
theorem DM (h : p := by
 have : (ins.length : Int) * B ≤ 16 * B := Int.mul_le_mul_of_nonneg_right m0 m0
 omega) : p := h
theorem DN (h : p := by
 rw [hcg m0, ← hinv, if_pos mz]
 rfl) : p := h
theorem DO (h : p := by
 simp at ho ⊢
 omega) : p := h
theorem DP (h : p := by
 rw [List.perm_iff_count]
 intro x
 simp only [List.count_append]
 omega) : p := h
theorem DQ (h : p := by
 have := Nat.eq_of_beq_eq_true h0
 omega) : p := h
end Go.SL
