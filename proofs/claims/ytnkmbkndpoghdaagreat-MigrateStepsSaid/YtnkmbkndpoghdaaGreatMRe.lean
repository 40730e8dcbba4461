import Derived.Test.YtnkmbkndpoghdaaGreatMRd
namespace Go.Proofs.YtnkmbkndpoghdaaGreat
set_option linter.all false
open Go.SL Go.RowKit Go.Shelf
/-! ### the reference of layouts: Addr, Forked, code, Code, Fits, Key, keys, has, packed, holds, low -/
set_option maxRecDepth 10000 in
theorem P_rAddr0 : Pure Tryz.prog 21 [.int .i64 0].toArray (strV A0) := by
  refine pure_of_HC Tryz.func21 rfl rfl fun w => ?_; refine HC_seq fun K1 hK1 => ?_; refine HC_region ?_; refine HL_r rfl rfl rfl rfl (R_assign rfl) ?_; refine HL_nil ?_; refine HQ_then ?_; refine hK1 _ _ _ _ ?_; clear hK1 K1; refine HC_seq fun K2 hK2 => ?_; refine HC_seq fun K3 hK3 => ?_; refine HC_region ?_; refine HL_r rfl rfl rfl rfl (R_move rfl) ?_; refine HL_r rfl rfl rfl rfl (R_pure rfl rfl rfl) ?_; refine HL_r rfl rfl rfl rfl (R_move rfl) ?_; refine HL_r rfl rfl rfl rfl (R_move rfl) ?_; refine HL_r rfl rfl rfl rfl (R_pure rfl rfl rfl) ?_; refine HL_r rfl rfl rfl rfl (R_pickF rfl rfl) ?_; refine HL_nil ?_; refine HQ_then ?_; refine hK3 _ _ _ _ ?_; clear hK3 K3; refine HC_cond rfl (fun h6 => ?_) (fun h6 => ?_)
  · try exact Bool.noConfusion h6
  · try exact Bool.noConfusion h6
    try simp only [Z1, Z2, Z3, Z4, Z5, Z6, Z7, Z8, Z9, Z10, Z11, Z12, Z13] at h6
    refine HC_skip ?_; refine HQ_then ?_; refine hK2 _ _ _ _ ?_; clear hK2 K2; refine HC_seq fun K8 hK8 => ?_; refine HC_region ?_; refine HL_make (n := 20) (b := 1) rfl rfl rfl rfl rfl rfl rfl rfl rfl (by decide) (by decide) fun r1 => ?_; refine HL_r rfl rfl rfl rfl (R_assign rfl) ?_; refine HL_nil ?_; refine HQ_then ?_; refine hK8 _ _ _ _ ?_; clear hK8 K8; refine HC_seq fun K9 hK9 => ?_; refine HC_region ?_; refine HL_r rfl rfl rfl rfl (R_move rfl) ?_; refine HL_r rfl rfl rfl rfl (R_indexS (j := 0) (m := 1) rfl rfl rfl rfl rfl (by decide) rfl) ?_; refine HL_store (k := 0) rfl rfl rfl rfl rfl rfl rfl rfl rfl rfl ?_; refine HL_nil ?_; refine HQ_then ?_; refine hK9 _ _ _ _ ?_; clear hK9 K9; refine HC_seq fun K10 hK10 => ?_; refine HC_region ?_; refine HL_r rfl rfl rfl rfl (R_move rfl) ?_; refine HL_r rfl rfl rfl rfl (R_move rfl) ?_; refine HL_r rfl rfl rfl rfl (R_pure rfl rfl rfl) ?_; refine HL_wrap_i64 (by omega) (by omega) ?_; refine HL_r rfl rfl rfl rfl (R_pure rfl rfl rfl) ?_; refine HL_wrap_u8 (by omega) (by omega) ?_; refine HL_r rfl rfl rfl rfl (R_indexS (j := 19) (m := 1) rfl rfl rfl rfl rfl (by decide) rfl) ?_; refine HL_store (k := 0) rfl rfl rfl rfl rfl rfl rfl rfl rfl rfl ?_; refine HL_nil ?_; refine HQ_then ?_; refine hK10 _ _ _ _ ?_; clear hK10 K10; refine HC_seq fun K11 hK11 => ?_; refine HC_region ?_; refine HL_r rfl rfl rfl rfl (R_move rfl) ?_; refine HL_r rfl rfl rfl rfl (R_bytesStr (b := A0) (row := some (r1, 20, [])) (e := 5) rfl ⟨rfl, rfl⟩ (fun p hp => .inl (by rw [List.mem_singleton.1 hp]; exact List.mem_cons_self)) rfl rfl rfl) ?_; refine HL_r rfl rfl rfl rfl (R_assign rfl) ?_; refine HL_nil ?_; refine HQ_then ?_; refine hK11 _ _ _ _ ?_; clear hK11 K11; refine HC_ret ?_; refine HQ_post rfl rfl (.cons (res_tmp rfl) .nil) (fun w1 hs1 => ?_); exact ⟨rfl, hs1.keep⟩
set_option maxRecDepth 10000 in
theorem P_rAddr1 : Pure Tryz.prog 21 [.int .i64 1].toArray (strV A1) := by
  refine pure_of_HC Tryz.func21 rfl rfl fun w => ?_; refine HC_seq fun K1 hK1 => ?_; refine HC_region ?_; refine HL_r rfl rfl rfl rfl (R_assign rfl) ?_; refine HL_nil ?_; refine HQ_then ?_; refine hK1 _ _ _ _ ?_; clear hK1 K1; refine HC_seq fun K2 hK2 => ?_; refine HC_seq fun K3 hK3 => ?_; refine HC_region ?_; refine HL_r rfl rfl rfl rfl (R_move rfl) ?_; refine HL_r rfl rfl rfl rfl (R_pure rfl rfl rfl) ?_; refine HL_r rfl rfl rfl rfl (R_move rfl) ?_; refine HL_r rfl rfl rfl rfl (R_move rfl) ?_; refine HL_r rfl rfl rfl rfl (R_pure rfl rfl rfl) ?_; refine HL_r rfl rfl rfl rfl (R_pickF rfl rfl) ?_; refine HL_nil ?_; refine HQ_then ?_; refine hK3 _ _ _ _ ?_; clear hK3 K3; refine HC_cond rfl (fun h6 => ?_) (fun h6 => ?_)
  · try exact Bool.noConfusion h6
  · try exact Bool.noConfusion h6
    try simp only [Z1, Z2, Z3, Z4, Z5, Z6, Z7, Z8, Z9, Z10, Z11, Z12, Z13] at h6
    refine HC_skip ?_; refine HQ_then ?_; refine hK2 _ _ _ _ ?_; clear hK2 K2; refine HC_seq fun K8 hK8 => ?_; refine HC_region ?_; refine HL_make (n := 20) (b := 1) rfl rfl rfl rfl rfl rfl rfl rfl rfl (by decide) (by decide) fun r1 => ?_; refine HL_r rfl rfl rfl rfl (R_assign rfl) ?_; refine HL_nil ?_; refine HQ_then ?_; refine hK8 _ _ _ _ ?_; clear hK8 K8; refine HC_seq fun K9 hK9 => ?_; refine HC_region ?_; refine HL_r rfl rfl rfl rfl (R_move rfl) ?_; refine HL_r rfl rfl rfl rfl (R_indexS (j := 0) (m := 1) rfl rfl rfl rfl rfl (by decide) rfl) ?_; refine HL_store (k := 0) rfl rfl rfl rfl rfl rfl rfl rfl rfl rfl ?_; refine HL_nil ?_; refine HQ_then ?_; refine hK9 _ _ _ _ ?_; clear hK9 K9; refine HC_seq fun K10 hK10 => ?_; refine HC_region ?_; refine HL_r rfl rfl rfl rfl (R_move rfl) ?_; refine HL_r rfl rfl rfl rfl (R_move rfl) ?_; refine HL_r rfl rfl rfl rfl (R_pure rfl rfl rfl) ?_; refine HL_wrap_i64 (by omega) (by omega) ?_; refine HL_r rfl rfl rfl rfl (R_pure rfl rfl rfl) ?_; refine HL_wrap_u8 (by omega) (by omega) ?_; refine HL_r rfl rfl rfl rfl (R_indexS (j := 19) (m := 1) rfl rfl rfl rfl rfl (by decide) rfl) ?_; refine HL_store (k := 0) rfl rfl rfl rfl rfl rfl rfl rfl rfl rfl ?_; refine HL_nil ?_; refine HQ_then ?_; refine hK10 _ _ _ _ ?_; clear hK10 K10; refine HC_seq fun K11 hK11 => ?_; refine HC_region ?_; refine HL_r rfl rfl rfl rfl (R_move rfl) ?_; refine HL_r rfl rfl rfl rfl (R_bytesStr (b := A1) (row := some (r1, 20, [])) (e := 5) rfl ⟨rfl, rfl⟩ (fun p hp => .inl (by rw [List.mem_singleton.1 hp]; exact List.mem_cons_self)) rfl rfl rfl) ?_; refine HL_r rfl rfl rfl rfl (R_assign rfl) ?_; refine HL_nil ?_; refine HQ_then ?_; refine hK11 _ _ _ _ ?_; clear hK11 K11; refine HC_ret ?_; refine HQ_post rfl rfl (.cons (res_tmp rfl) .nil) (fun w1 hs1 => ?_); exact ⟨rfl, hs1.keep⟩
set_option maxRecDepth 10000 in
theorem P_rAddrN {f : Int} (h : f < 0 ∨ f > 1) : Pure Tryz.prog 21 [.int .i64 f].toArray (strV []) := by
  refine pure_of_HC Tryz.func21 rfl rfl fun w => ?_; refine HC_seq fun K1 hK1 => ?_; refine HC_region ?_; refine HL_r rfl rfl rfl rfl (R_assign rfl) ?_; refine HL_nil ?_; refine HQ_then ?_; refine hK1 _ _ _ _ ?_; clear hK1 K1; refine HC_seq fun K2 hK2 => ?_; refine HC_seq fun K3 hK3 => ?_; refine HC_region ?_; refine HL_r rfl rfl rfl rfl (R_move rfl) ?_; refine HL_r rfl rfl rfl rfl (R_pure rfl rfl rfl) ?_; refine HL_r rfl rfl rfl rfl (R_move rfl) ?_
  refine HL_case 6 rfl (fun hb4 => ?_) (fun hb4 => ?_) <;> (try simp only [Z1, Z2, Z3, Z4, Z5, Z6, Z7, Z8, Z9, Z10, Z11, Z12, Z13] at hb4) <;> first | (refine HL_r rfl rfl rfl rfl (R_move rfl) ?_) | (refine HL_skip rfl rfl rfl ?_)
  all_goals first
    | (refine HL_r rfl rfl rfl rfl (R_pure rfl rfl rfl) ?_)
    | (refine HL_skip rfl rfl rfl ?_)
  all_goals first
    | (refine HL_r rfl rfl rfl rfl (R_pickT rfl rfl) ?_)
    | (refine HL_r rfl rfl rfl rfl (R_pickF rfl rfl) ?_)
  all_goals refine HL_nil ?_
  all_goals (
   refine HQ_then ?_; refine hK3 _ _ _ _ ?_; clear hK3 K3; refine HC_cond rfl (fun h6 => ?_) (fun h6 => ?_)
   · try exact Bool.noConfusion h6
     try simp only [Z1, Z2, Z3, Z4, Z5, Z6, Z7, Z8, Z9, Z10, Z11, Z12, Z13] at h6
     refine HC_seq fun K7 hK7 => ?_; refine HC_region ?_; refine HL_r rfl rfl rfl rfl (R_assign rfl) ?_; refine HL_nil ?_; refine HQ_then ?_; refine hK7 _ _ _ _ ?_; clear hK7 K7; refine HC_ret ?_; refine HQ_thenR ?_; clear hK2 K2; refine HQ_post rfl rfl (.cons (res_tmp rfl) .nil) (fun w1 hs1 => ?_)
     first | exact ⟨rfl, hs1.keep⟩ | (exfalso; omega)
   · try exact Bool.noConfusion h6
     all_goals try simp only [Z1, Z2, Z3, Z4, Z5, Z6, Z7, Z8, Z9, Z10, Z11, Z12, Z13] at h6
     all_goals (
      refine HC_skip ?_; refine HQ_then ?_; refine hK2 _ _ _ _ ?_; clear hK2 K2; refine HC_seq fun K8 hK8 => ?_; refine HC_region ?_
      exfalso; omega
      skip)
   skip)
theorem P_rAddr (f : Int) : Pure Tryz.prog 21 [.int .i64 f].toArray (strV (addrE f)) := by
  by_cases h0 : f = 0
  · subst h0; exact P_rAddr0
  · by_cases h1 : f = 1
    · subst h1; exact P_rAddr1
    · have h : f < 0 ∨ f > 1 := by omega
      have e : addrE f = [] := by unfold addrE; rw [if_pos h]
      rw [e]; exact P_rAddrN h
set_option maxRecDepth 10000 in
theorem P_rForked (f : Int) : Pure Tryz.prog 57 [.int .i64 f].toArray (.bool (decide (Forked f))) := by
  rw [forked_dec]; refine pure_of_HC Tryz.func57 rfl rfl fun w => ?_; refine HC_seq fun K1 hK1 => ?_; refine HC_region ?_; refine HL_r rfl rfl rfl rfl (R_assign rfl) ?_; refine HL_nil ?_; refine HQ_then ?_; refine hK1 _ _ _ _ ?_; clear hK1 K1; refine HC_seq fun K2 hK2 => ?_; refine HC_region ?_; refine HL_r rfl rfl rfl rfl (R_move rfl) ?_; refine HL_r rfl rfl rfl rfl (R_pure rfl rfl rfl) ?_; refine HL_r rfl rfl rfl rfl (R_move rfl) ?_
  refine HL_case 5 rfl (fun hb3 => ?_) (fun hb3 => ?_) <;> (try simp only [Z1, Z2, Z3, Z4, Z5, Z6, Z7, Z8, Z9, Z10, Z11, Z12, Z13] at hb3) <;> first | (refine HL_r rfl rfl rfl rfl (R_move rfl) ?_) | (refine HL_skip rfl rfl rfl ?_)
  all_goals first
    | (refine HL_r rfl rfl rfl rfl (R_pure rfl rfl rfl) ?_)
    | (refine HL_skip rfl rfl rfl ?_)
  all_goals first
    | (refine HL_r rfl rfl rfl rfl (R_pickT rfl rfl) ?_)
    | (refine HL_r rfl rfl rfl rfl (R_pickF rfl rfl) ?_)
  all_goals refine HL_r rfl rfl rfl rfl (R_assign rfl) ?_
  all_goals refine HL_nil ?_
  all_goals (
   refine HQ_then ?_; refine hK2 _ _ _ _ ?_; clear hK2 K2; refine HC_ret ?_; refine HQ_post rfl rfl (.cons (res_tmp rfl) .nil) (fun w1 hs1 => ?_); refine ⟨?_, hs1.keep⟩
   simp_all [resVal]
   all_goals first | done | omega | trace_state
   skip)
set_option maxRecDepth 10000 in
theorem P_rcode (f g : Int) : Pure Tryz.prog 53 [.int .i64 f, .int .i64 g].toArray (.tuple #[strV (codeE f g).1, .bool (codeE f g).2]) := by
  refine pure_of_HC Tryz.func53 rfl rfl fun w => ?_; refine HC_seq fun K1 hK1 => ?_; refine HC_region ?_; refine HL_r rfl rfl rfl rfl (R_assign rfl) ?_; refine HL_r rfl rfl rfl rfl (R_assign rfl) ?_; refine HL_nil ?_; refine HQ_then ?_; refine hK1 _ _ _ _ ?_; clear hK1 K1; refine HC_seq fun K2 hK2 => ?_; refine HC_seq fun K3 hK3 => ?_; refine HC_region ?_; refine HL_r rfl rfl rfl rfl (R_move rfl) ?_; refine HL_r rfl rfl rfl rfl (R_pure rfl rfl rfl) ?_; refine HL_nil ?_; refine HQ_then ?_; refine hK3 _ _ _ _ ?_; clear hK3 K3; refine HC_cond rfl (fun h4 => ?_) (fun h4 => ?_)
  · try exact Bool.noConfusion h4
    try simp only [Z1, Z2, Z3, Z4, Z5, Z6, Z7, Z8, Z9, Z10, Z11, Z12, Z13] at h4
    refine HC_seq fun K5 hK5 => ?_; refine HC_seq fun K6 hK6 => ?_; refine HC_region ?_; refine HL_r rfl rfl rfl rfl (R_move rfl) ?_; refine HL_r rfl rfl rfl rfl (R_pure rfl rfl rfl) ?_; refine HL_nil ?_; refine HQ_then ?_; refine hK6 _ _ _ _ ?_; clear hK6 K6; refine HC_cond rfl (fun h7 => ?_) (fun h7 => ?_)
    · try exact Bool.noConfusion h7
      try simp only [Z1, Z2, Z3, Z4, Z5, Z6, Z7, Z8, Z9, Z10, Z11, Z12, Z13] at h7
      refine HC_seq fun K8 hK8 => ?_; refine HC_region ?_; refine HL_r rfl rfl rfl rfl (R_assign rfl) ?_; refine HL_r rfl rfl rfl rfl (R_assign rfl) ?_; refine HL_nil ?_; refine HQ_then ?_; refine hK8 _ _ _ _ ?_; clear hK8 K8; refine HC_ret ?_; refine HQ_thenR ?_; clear hK5 K5; refine HQ_thenR ?_; clear hK2 K2; refine HQ_post rfl rfl (.cons (res_tmp rfl) (.cons (res_tmp rfl) .nil)) (fun w1 hs1 => ?_); refine ⟨?_, hs1.keep⟩
      unfold codeE
      rw [if_pos (by omega), if_pos (by omega)]; rfl
    · try exact Bool.noConfusion h7
      try simp only [Z1, Z2, Z3, Z4, Z5, Z6, Z7, Z8, Z9, Z10, Z11, Z12, Z13] at h7
      refine HC_skip ?_; refine HQ_then ?_; refine hK5 _ _ _ _ ?_; clear hK5 K5; refine HC_seq fun K9 hK9 => ?_; refine HC_region ?_; refine HL_r rfl rfl rfl rfl (R_assign rfl) ?_; refine HL_r rfl rfl rfl rfl (R_assign rfl) ?_; refine HL_nil ?_; refine HQ_then ?_; refine hK9 _ _ _ _ ?_; clear hK9 K9; refine HC_ret ?_; refine HQ_thenR ?_; clear hK2 K2; refine HQ_post rfl rfl (.cons (res_tmp rfl) (.cons (res_tmp rfl) .nil)) (fun w1 hs1 => ?_); refine ⟨?_, hs1.keep⟩
      unfold codeE
      rw [if_pos (by omega), if_neg (by omega)]; rfl
  · try exact Bool.noConfusion h4
    try simp only [Z1, Z2, Z3, Z4, Z5, Z6, Z7, Z8, Z9, Z10, Z11, Z12, Z13] at h4
    refine HC_skip ?_; refine HQ_then ?_; refine hK2 _ _ _ _ ?_; clear hK2 K2; refine HC_seq fun K10 hK10 => ?_; refine HC_seq fun K11 hK11 => ?_; refine HC_region ?_; refine HL_r rfl rfl rfl rfl (R_move rfl) ?_; refine HL_r rfl rfl rfl rfl (R_pure rfl rfl rfl) ?_; refine HL_nil ?_; refine HQ_then ?_; refine hK11 _ _ _ _ ?_; clear hK11 K11; refine HC_cond rfl (fun h12 => ?_) (fun h12 => ?_)
    · try exact Bool.noConfusion h12
      try simp only [Z1, Z2, Z3, Z4, Z5, Z6, Z7, Z8, Z9, Z10, Z11, Z12, Z13] at h12
      refine HC_seq fun K13 hK13 => ?_; refine HC_region ?_; refine HL_r rfl rfl rfl rfl (R_assign rfl) ?_; refine HL_r rfl rfl rfl rfl (R_assign rfl) ?_; refine HL_nil ?_; refine HQ_then ?_; refine hK13 _ _ _ _ ?_; clear hK13 K13; refine HC_ret ?_; refine HQ_thenR ?_; clear hK10 K10; refine HQ_post rfl rfl (.cons (res_tmp rfl) (.cons (res_tmp rfl) .nil)) (fun w1 hs1 => ?_); refine ⟨?_, hs1.keep⟩
      unfold codeE
      rw [if_neg (by omega), if_pos (by omega)]; rfl
    · try exact Bool.noConfusion h12
      try simp only [Z1, Z2, Z3, Z4, Z5, Z6, Z7, Z8, Z9, Z10, Z11, Z12, Z13] at h12
      refine HC_skip ?_; refine HQ_then ?_; refine hK10 _ _ _ _ ?_; clear hK10 K10; refine HC_seq fun K14 hK14 => ?_; refine HC_seq fun K15 hK15 => ?_; refine HC_region ?_; refine HL_r rfl rfl rfl rfl (R_move rfl) ?_; refine HL_r rfl rfl rfl rfl (R_pure rfl rfl rfl) ?_; refine HL_nil ?_; refine HQ_then ?_; refine hK15 _ _ _ _ ?_; clear hK15 K15; refine HC_cond rfl (fun h16 => ?_) (fun h16 => ?_)
      · try exact Bool.noConfusion h16
        try simp only [Z1, Z2, Z3, Z4, Z5, Z6, Z7, Z8, Z9, Z10, Z11, Z12, Z13] at h16
        refine HC_seq fun K17 hK17 => ?_; refine HC_region ?_; refine HL_r rfl rfl rfl rfl (R_assign rfl) ?_; refine HL_r rfl rfl rfl rfl (R_assign rfl) ?_; refine HL_nil ?_; refine HQ_then ?_; refine hK17 _ _ _ _ ?_; clear hK17 K17; refine HC_ret ?_; refine HQ_thenR ?_; clear hK14 K14; refine HQ_post rfl rfl (.cons (res_tmp rfl) (.cons (res_tmp rfl) .nil)) (fun w1 hs1 => ?_); refine ⟨?_, hs1.keep⟩
        unfold codeE
        rw [if_neg (by omega), if_neg (by omega), if_pos (by omega)]; rfl
      · try exact Bool.noConfusion h16
        try simp only [Z1, Z2, Z3, Z4, Z5, Z6, Z7, Z8, Z9, Z10, Z11, Z12, Z13] at h16
        refine HC_skip ?_; refine HQ_then ?_; refine hK14 _ _ _ _ ?_; clear hK14 K14; refine HC_seq fun K18 hK18 => ?_; refine HC_seq fun K19 hK19 => ?_; refine HC_region ?_; refine HL_r rfl rfl rfl rfl (R_move rfl) ?_; refine HL_r rfl rfl rfl rfl (R_pure rfl rfl rfl) ?_; refine HL_nil ?_; refine HQ_then ?_; refine hK19 _ _ _ _ ?_; clear hK19 K19; refine HC_cond rfl (fun h20 => ?_) (fun h20 => ?_)
        · try exact Bool.noConfusion h20
          try simp only [Z1, Z2, Z3, Z4, Z5, Z6, Z7, Z8, Z9, Z10, Z11, Z12, Z13] at h20
          refine HC_seq fun K21 hK21 => ?_; refine HC_region ?_; refine HL_r rfl rfl rfl rfl (R_assign rfl) ?_; refine HL_r rfl rfl rfl rfl (R_assign rfl) ?_; refine HL_nil ?_; refine HQ_then ?_; refine hK21 _ _ _ _ ?_; clear hK21 K21; refine HC_ret ?_; refine HQ_thenR ?_; clear hK18 K18; refine HQ_post rfl rfl (.cons (res_tmp rfl) (.cons (res_tmp rfl) .nil)) (fun w1 hs1 => ?_); refine ⟨?_, hs1.keep⟩
          unfold codeE
          rw [if_neg (by omega), if_neg (by omega), if_neg (by omega), if_pos (by omega)]; rfl
        · try exact Bool.noConfusion h20
          try simp only [Z1, Z2, Z3, Z4, Z5, Z6, Z7, Z8, Z9, Z10, Z11, Z12, Z13] at h20
          refine HC_skip ?_; refine HQ_then ?_; refine hK18 _ _ _ _ ?_; clear hK18 K18; refine HC_seq fun K22 hK22 => ?_; refine HC_region ?_; refine HL_r rfl rfl rfl rfl (R_assign rfl) ?_; refine HL_r rfl rfl rfl rfl (R_assign rfl) ?_; refine HL_nil ?_; refine HQ_then ?_; refine hK22 _ _ _ _ ?_; clear hK22 K22; refine HC_ret ?_; refine HQ_post rfl rfl (.cons (res_tmp rfl) (.cons (res_tmp rfl) .nil)) (fun w1 hs1 => ?_); refine ⟨?_, hs1.keep⟩
          unfold codeE
          rw [if_neg (by omega), if_neg (by omega), if_neg (by omega), if_neg (by omega)]; rfl
set_option maxHeartbeats 1000000 in
set_option maxRecDepth 10000 in
theorem P_rFits (f : Int) (r : Rec) : Pure Tryz.prog 18 [.int .i64 f, r.val].toArray (.int .i64 (fitsE f r)) := by
  refine pure_of_HC Tryz.func18 rfl rfl fun w => ?_; refine HC_seq fun K1 hK1 => ?_; refine HC_region ?_; refine HL_box (cs := r.cells.toArray) rfl rfl rfl rfl fun rb => ?_; refine HL_r rfl rfl rfl rfl (R_assign rfl) ?_; refine HL_nil ?_; refine HQ_then ?_; refine hK1 _ _ _ _ ?_; clear hK1 K1; refine HC_seq fun K2 hK2 => ?_; refine HC_seq fun K3 hK3 => ?_; refine HC_region ?_; refine HL_r rfl rfl rfl rfl (R_move rfl) ?_; refine HL_callP rfl rfl rfl (enters_of Tryz.func57 (by kernel_rfl) rfl) (P_rForked f) ?_; refine HL_r rfl rfl rfl rfl (R_pure rfl rfl rfl) ?_; refine HL_nil ?_; refine HQ_then ?_; refine hK3 _ _ _ _ ?_; clear hK3 K3; refine HC_cond rfl (fun h4 => ?_) (fun h4 => ?_)
  · try exact Bool.noConfusion h4
    try simp only [Z1, Z2, Z3, Z4, Z5, Z6, Z7, Z8, Z9, Z10, Z11, Z12, Z13] at h4
    refine HC_seq fun K5 hK5 => ?_; refine HC_region ?_; refine HL_r rfl rfl rfl rfl (R_assign rfl) ?_; refine HL_nil ?_; refine HQ_then ?_; refine hK5 _ _ _ _ ?_; clear hK5 K5; refine HC_ret ?_; refine HQ_thenR ?_; clear hK2 K2; refine HQ_post rfl rfl (.cons (res_tmp rfl) .nil) (fun w1 hs1 => ?_); refine ⟨?_, hs1.keep⟩
    unfold fitsE fitsB
    rw [if_pos (by first | assumption | (simp_all; done))]; rfl
  · try exact Bool.noConfusion h4
    try simp only [Z1, Z2, Z3, Z4, Z5, Z6, Z7, Z8, Z9, Z10, Z11, Z12, Z13] at h4
    refine HC_skip ?_; refine HQ_then ?_; refine hK2 _ _ _ _ ?_; clear hK2 K2; refine HC_seq fun K6 hK6 => ?_; refine HC_region ?_; refine HL_r rfl rfl rfl rfl (R_build (r := [_, _, _, _]) rfl rfl) ?_; refine HL_alloc (cs := #[_, _, _, _]) rfl rfl rfl rfl fun r1 => ?_
    refine HL_storeA (k := 0) (n := 4) (cs' := #[_, _, _, _]) (vs := #[_, _, _, _]) rfl rfl rfl rfl rfl rfl rfl (by exact Nat.le_of_ble_eq_true rfl) rfl (by first | (simp only [List.set_cons_zero, List.set_cons_succ]; exact rfl) | exact rfl) ?_; refine HL_nil ?_; refine HQ_then ?_; refine hK6 _ _ _ _ ?_; clear hK6 K6; refine HC_seq fun K7 hK7 => ?_; refine HC_seq fun K8 hK8 => ?_; refine HC_region ?_; refine HL_r rfl rfl rfl rfl (R_move rfl) ?_; refine HL_r rfl rfl rfl rfl (R_pure rfl rfl rfl) ?_; refine HL_r rfl rfl rfl rfl (R_move rfl) ?_
    refine HL_case 12 rfl (fun hb9 => ?_) (fun hb9 => ?_) <;> (try simp only [Z1, Z2, Z3, Z4, Z5, Z6, Z7, Z8, Z9, Z10, Z11, Z12, Z13] at hb9) <;> first | (refine HL_r rfl rfl rfl rfl (R_fieldAddr rfl rfl (by first | (simp only [Nat.zero_add, Nat.reduceAdd, Nat.reduceMul, Nat.zero_mul, Nat.mul_one, Nat.add_zero]; exact rfl) | exact rfl)) ?_) | (refine HL_skip rfl rfl rfl ?_)
    all_goals first
      | (refine HL_r rfl rfl rfl rfl (R_loadA (vs := [_, _, _, _]) rfl (known_L (k := 1) rfl) rfl rfl rfl rfl) ?_)
      | (refine HL_skip rfl rfl rfl ?_)
    all_goals first
      | (refine HL_r rfl rfl rfl rfl (R_loadA (vs := [_, _, _, _]) rfl (known_L (k := 0) rfl) rfl rfl rfl rfl) ?_)
      | (refine HL_skip rfl rfl rfl ?_)
    all_goals first
      | (refine HL_r rfl rfl rfl rfl (R_neArr rfl rfl rfl rfl rfl (by kernel_rfl) rfl rfl rfl rfl) ?_)
      | (refine HL_skip rfl rfl rfl ?_)
    all_goals first | (refine HL_as (congrArg (fun b => Value.bool (!b)) (eqW r.overhead w40)) ?_) | skip
    all_goals first
      | (refine HL_r rfl rfl rfl rfl (R_pickT rfl rfl) ?_)
      | (refine HL_r rfl rfl rfl rfl (R_pickF rfl rfl) ?_)
    all_goals refine HL_r rfl rfl rfl rfl (R_move rfl) ?_
    all_goals first
      | (refine HL_r rfl rfl rfl rfl (R_move rfl) ?_)
      | (refine HL_case 18 rfl (fun hb13 => ?_) (fun hb13 => ?_) <;> (try simp only [Z1, Z2, Z3, Z4, Z5, Z6, Z7, Z8, Z9, Z10, Z11, Z12, Z13] at hb13) <;> first | (refine HL_r rfl rfl rfl rfl (R_move rfl) ?_) | (refine HL_skip rfl rfl rfl ?_))
    all_goals first
      | (refine HL_r rfl rfl rfl rfl (R_pure rfl rfl rfl) ?_)
      | (refine HL_skip rfl rfl rfl ?_)
    all_goals first
      | (refine HL_r rfl rfl rfl rfl (R_move rfl) ?_)
      | (refine HL_skip rfl rfl rfl ?_)
    all_goals first
      | (refine HL_skip rfl rfl rfl ?_)
      | (refine HL_case 21 rfl (fun hb16 => ?_) (fun hb16 => ?_) <;> (try simp only [Z1, Z2, Z3, Z4, Z5, Z6, Z7, Z8, Z9, Z10, Z11, Z12, Z13] at hb16) <;> first | (refine HL_r rfl rfl rfl rfl (R_fieldAddr rfl rfl (by first | (simp only [Nat.zero_add, Nat.reduceAdd, Nat.reduceMul, Nat.zero_mul, Nat.mul_one, Nat.add_zero]; exact rfl) | exact rfl)) ?_) | (refine HL_skip rfl rfl rfl ?_))
    all_goals first
      | (refine HL_r rfl rfl rfl rfl (R_load rfl (known_L (k := 1) rfl) rfl rfl) ?_)
      | (refine HL_skip rfl rfl rfl ?_)
    all_goals first
      | (refine HL_r rfl rfl rfl rfl (R_pure rfl rfl rfl) ?_)
      | (refine HL_skip rfl rfl rfl ?_)
    all_goals first | (refine HL_as (congrArg (fun b => Value.bool (!b)) (eqU r.extra 0)) ?_) | skip
    all_goals first
      | (refine HL_r rfl rfl rfl rfl (R_move rfl) ?_)
      | (refine HL_skip rfl rfl rfl ?_)
    all_goals first
      | (refine HL_skip rfl rfl rfl ?_)
      | (refine HL_case 25 rfl (fun hb20 => ?_) (fun hb20 => ?_) <;> (try simp only [Z1, Z2, Z3, Z4, Z5, Z6, Z7, Z8, Z9, Z10, Z11, Z12, Z13] at hb20) <;> first | (refine HL_r rfl rfl rfl rfl (R_fieldAddr rfl rfl (by first | (simp only [Nat.zero_add, Nat.reduceAdd, Nat.reduceMul, Nat.zero_mul, Nat.mul_one, Nat.add_zero]; exact rfl) | exact rfl)) ?_) | (refine HL_skip rfl rfl rfl ?_))
    all_goals first
      | (refine HL_r rfl rfl rfl rfl (R_loadA (vs := [_, _, _, _]) rfl (known_L (k := 1) rfl) rfl rfl rfl rfl) ?_)
      | (refine HL_skip rfl rfl rfl ?_)
    all_goals first
      | (refine HL_r rfl rfl rfl rfl (R_loadA (vs := [_, _, _, _]) rfl (known_L (k := 0) rfl) rfl rfl rfl rfl) ?_)
      | (refine HL_skip rfl rfl rfl ?_)
    all_goals first
      | (refine HL_r rfl rfl rfl rfl (R_neArr rfl rfl rfl rfl rfl (by kernel_rfl) rfl rfl rfl rfl) ?_)
      | (refine HL_skip rfl rfl rfl ?_)
    all_goals first | (refine HL_as (congrArg (fun b => Value.bool (!b)) (eqW r.blob w40)) ?_) | skip
    all_goals first
      | (refine HL_r rfl rfl rfl rfl (R_pickT rfl rfl) ?_)
      | (refine HL_r rfl rfl rfl rfl (R_pickF rfl rfl) ?_)
      | (refine HL_skip rfl rfl rfl ?_)
    all_goals first
      | (refine HL_r rfl rfl rfl rfl (R_pickT rfl rfl) ?_)
      | (refine HL_r rfl rfl rfl rfl (R_pickF rfl rfl) ?_)
      | (refine HL_skip rfl rfl rfl ?_)
    all_goals first
      | (refine HL_r rfl rfl rfl rfl (R_pickT rfl rfl) ?_)
      | (refine HL_r rfl rfl rfl rfl (R_pickF rfl rfl) ?_)
    all_goals refine HL_r rfl rfl rfl rfl (R_move rfl) ?_
    all_goals first
      | (refine HL_r rfl rfl rfl rfl (R_move rfl) ?_)
      | (refine HL_skip rfl rfl rfl ?_)
      | (refine HL_case 33 rfl (fun hb26 => ?_) (fun hb26 => ?_) <;> (try simp only [Z1, Z2, Z3, Z4, Z5, Z6, Z7, Z8, Z9, Z10, Z11, Z12, Z13] at hb26) <;> first | (refine HL_r rfl rfl rfl rfl (R_move rfl) ?_) | (refine HL_skip rfl rfl rfl ?_))
    all_goals first
      | (refine HL_r rfl rfl rfl rfl (R_pure rfl rfl rfl) ?_)
      | (refine HL_skip rfl rfl rfl ?_)
    all_goals first
      | (refine HL_r rfl rfl rfl rfl (R_move rfl) ?_)
      | (refine HL_skip rfl rfl rfl ?_)
    all_goals first
      | (refine HL_skip rfl rfl rfl ?_)
      | (refine HL_case 36 rfl (fun hb29 => ?_) (fun hb29 => ?_) <;> (try simp only [Z1, Z2, Z3, Z4, Z5, Z6, Z7, Z8, Z9, Z10, Z11, Z12, Z13] at hb29) <;> first | (refine HL_r rfl rfl rfl rfl (R_fieldAddr rfl rfl (by first | (simp only [Nat.zero_add, Nat.reduceAdd, Nat.reduceMul, Nat.zero_mul, Nat.mul_one, Nat.add_zero]; exact rfl) | exact rfl)) ?_) | (refine HL_skip rfl rfl rfl ?_))
    all_goals first
      | (refine HL_r rfl rfl rfl rfl (R_load rfl (known_L (k := 1) rfl) rfl rfl) ?_)
      | (refine HL_skip rfl rfl rfl ?_)
    all_goals first
      | (refine HL_r rfl rfl rfl rfl (R_pure rfl rfl rfl) ?_)
      | (refine HL_skip rfl rfl rfl ?_)
    all_goals first | (refine HL_as (congrArg (fun b => Value.bool (!b)) (eqU r.operator 0)) ?_) | skip
    all_goals first
      | (refine HL_r rfl rfl rfl rfl (R_pickT rfl rfl) ?_)
      | (refine HL_r rfl rfl rfl rfl (R_pickF rfl rfl) ?_)
      | (refine HL_skip rfl rfl rfl ?_)
    all_goals first
      | (refine HL_r rfl rfl rfl rfl (R_pickT rfl rfl) ?_)
      | (refine HL_r rfl rfl rfl rfl (R_pickF rfl rfl) ?_)
    all_goals refine HL_nil ?_
    all_goals (
     refine HQ_then ?_; refine hK8 _ _ _ _ ?_; clear hK8 K8; refine HC_cond rfl (fun h33 => ?_) (fun h33 => ?_)
     · try exact Bool.noConfusion h33
       all_goals try simp only [Z1, Z2, Z3, Z4, Z5, Z6, Z7, Z8, Z9, Z10, Z11, Z12, Z13] at h33
       all_goals (
        refine HC_seq fun K34 hK34 => ?_; refine HC_region ?_; refine HL_r rfl rfl rfl rfl (R_assign rfl) ?_; refine HL_nil ?_; refine HQ_then ?_; refine hK34 _ _ _ _ ?_; clear hK34 K34; refine HC_ret ?_; refine HQ_thenR ?_; clear hK7 K7; refine HQ_post rfl rfl (.cons (res_tmp rfl) .nil) (fun w1 hs1 => ?_); refine ⟨?_, hs1.keep⟩
        unfold fitsE fitsB
        first
          | (exfalso; omega)
          | (rw [if_neg (by first | assumption | (simp_all; done)), if_neg (by simp_all; done)]; rfl)
        skip)
     · try exact Bool.noConfusion h33
       all_goals try simp only [Z1, Z2, Z3, Z4, Z5, Z6, Z7, Z8, Z9, Z10, Z11, Z12, Z13] at h33
       all_goals (
        refine HC_skip ?_; refine HQ_then ?_; refine hK7 _ _ _ _ ?_; clear hK7 K7; refine HC_seq fun K35 hK35 => ?_; refine HC_region ?_; refine HL_r rfl rfl rfl rfl (R_assign rfl) ?_; refine HL_nil ?_; refine HQ_then ?_; refine hK35 _ _ _ _ ?_; clear hK35 K35; refine HC_ret ?_; refine HQ_post rfl rfl (.cons (res_tmp rfl) .nil) (fun w1 hs1 => ?_); refine ⟨?_, hs1.keep⟩
        unfold fitsE fitsB
        first
          | (exfalso; omega)
          | (rw [if_neg (by first | assumption | (simp_all; done)), if_pos (by simp_all; done)]; rfl)
        skip)
     skip)
set_option maxRecDepth 10000 in
theorem P_rKey {n : Nat} (h : U64 n) : Pure Tryz.prog 66 [uV n].toArray (strV (keyE n)) := by
  refine pure_of_HC Tryz.func66 rfl rfl fun w => ?_; refine HC_seq fun K1 hK1 => ?_; refine HC_region ?_; refine HL_r rfl rfl rfl rfl (R_assign rfl) ?_; refine HL_nil ?_; refine HQ_then ?_; refine hK1 _ _ _ _ ?_; clear hK1 K1; refine HC_seq fun K2 hK2 => ?_; refine HC_region ?_; refine HL_r rfl rfl rfl rfl (R_move rfl) ?_; refine HL_r rfl rfl rfl rfl (R_build (r := [_, _, _, _]) rfl rfl) ?_; refine HL_callP rfl rfl rfl (enters_of Tryz.func96 (by kernel_rfl) rfl) (P_ref_Fixed (wN1_ok h).wok) ?_; refine HL_r rfl rfl rfl rfl (R_assign rfl) ?_; refine HL_nil ?_; refine HQ_then ?_; refine hK2 _ _ _ _ ?_; clear hK2 K2; refine HC_ret ?_; refine HQ_post rfl rfl (.cons (res_tmp rfl) .nil) (fun w1 hs1 => ?_); exact ⟨rfl, hs1.keep⟩
def keysC : List Value := tab.map fun i => uV (keyN i)
set_option maxRecDepth 10000 in
theorem E_rkeys : PureE (α := Nat) Tryz.prog 60 [].toArray (fun p => .slice (some ⟨p, 0, none⟩) 7 7) (fun p => [(p, .cells keysC.toArray 25 (0, 0))]) := by
  refine pureE_of_HC Tryz.func60 rfl rfl fun w => ?_; refine HC_seq fun K1 hK1 => ?_; refine HC_region ?_; refine HL_r rfl rfl rfl rfl (R_assign rfl) ?_; refine HL_nil ?_; refine HQ_then ?_; refine hK1 _ _ _ _ ?_; clear hK1 K1; refine HC_seq fun K2 hK2 => ?_; refine HC_region ?_; refine HL_buildSlice (vs := [_, _, _, _, _, _, _]) (zs := [_, _, _, _, _, _, _]) (r := [_, _, _, _, _, _, _]) rfl rfl rfl rfl rfl rfl rfl rfl rfl (by show (madeCells #[_] _).toList = _; rw [made_one]; exact rfl) rfl fun r1 => ?_; refine HL_r rfl rfl rfl rfl (R_assign rfl) ?_; refine HL_nil ?_; refine HQ_then ?_; refine hK2 _ _ _ _ ?_; clear hK2 K2; refine HC_ret ?_; refine HQ_post rfl rfl (.cons (res_tmp rfl) .nil) (fun w1 hs1 => ?_); exact ⟨r1, rfl, hs1.weakL (List.Sublist.refl _)⟩
set_option maxRecDepth 10000 in
theorem P_rhas (f : Int) {i : Nat} (hi : i < 7) : Pure Tryz.prog 62 [.int .i64 f, .int .i64 (i : Int)].toArray (.bool (hasE f i)) := by
  refine pure_of_HC Tryz.func62 rfl rfl fun w => ?_; refine HC_seq fun K1 hK1 => ?_; refine HC_region ?_; refine HL_r rfl rfl rfl rfl (R_assign rfl) ?_; refine HL_nil ?_; refine HQ_then ?_; refine hK1 _ _ _ _ ?_; clear hK1 K1; refine HC_seq fun K2 hK2 => ?_; refine HC_seq fun K3 hK3 => ?_; refine HC_region ?_; refine HL_r rfl rfl rfl rfl (R_move rfl) ?_; refine HL_r rfl rfl rfl rfl (R_pure rfl rfl rfl) ?_; refine HL_nil ?_; refine HQ_then ?_; refine hK3 _ _ _ _ ?_; clear hK3 K3; refine HC_cond rfl (fun h4 => ?_) (fun h4 => ?_)
  · try exact Bool.noConfusion h4
    try simp only [Z1, Z2, Z3, Z4, Z5, Z6, Z7, Z8, Z9, Z10, Z11, Z12, Z13] at h4
    refine HC_seq fun K5 hK5 => ?_; refine HC_region ?_; refine HL_r rfl rfl rfl rfl (R_assign rfl) ?_; refine HL_nil ?_; refine HQ_then ?_; refine hK5 _ _ _ _ ?_; clear hK5 K5; refine HC_ret ?_; refine HQ_thenR ?_; clear hK2 K2; refine HQ_post rfl rfl (.cons (res_tmp rfl) .nil) (fun w1 hs1 => ?_); refine ⟨?_, hs1.keep⟩
    (have h : i = 0 ∨ i = 1 := by omega
     rcases h with rfl | rfl <;> rfl)
  · try exact Bool.noConfusion h4
    try simp only [Z1, Z2, Z3, Z4, Z5, Z6, Z7, Z8, Z9, Z10, Z11, Z12, Z13] at h4
    refine HC_skip ?_; refine HQ_then ?_; refine hK2 _ _ _ _ ?_; clear hK2 K2; refine HC_seq fun K6 hK6 => ?_; refine HC_seq fun K7 hK7 => ?_; refine HC_region ?_; refine HL_r rfl rfl rfl rfl (R_move rfl) ?_; refine HL_r rfl rfl rfl rfl (R_pure rfl rfl rfl) ?_; refine HL_nil ?_; refine HQ_then ?_; refine hK7 _ _ _ _ ?_; clear hK7 K7; refine HC_cond rfl (fun h8 => ?_) (fun h8 => ?_)
    · try exact Bool.noConfusion h8
      try simp only [Z1, Z2, Z3, Z4, Z5, Z6, Z7, Z8, Z9, Z10, Z11, Z12, Z13] at h8
      refine HC_seq fun K9 hK9 => ?_; refine HC_region ?_; refine HL_r rfl rfl rfl rfl (R_move rfl) ?_; refine HL_r rfl rfl rfl rfl (R_pure rfl rfl rfl) ?_; refine HL_r rfl rfl rfl rfl (R_assign rfl) ?_; refine HL_nil ?_; refine HQ_then ?_; refine hK9 _ _ _ _ ?_; clear hK9 K9; refine HC_ret ?_; refine HQ_thenR ?_; clear hK6 K6; refine HQ_post rfl rfl (.cons (res_tmp rfl) .nil) (fun w1 hs1 => ?_); refine ⟨?_, hs1.keep⟩
      (have h : i = 2 ∨ i = 3 := by omega
       rcases h with rfl | rfl <;> rfl)
    · try exact Bool.noConfusion h8
      try simp only [Z1, Z2, Z3, Z4, Z5, Z6, Z7, Z8, Z9, Z10, Z11, Z12, Z13] at h8
      refine HC_skip ?_; refine HQ_then ?_; refine hK6 _ _ _ _ ?_; clear hK6 K6; refine HC_seq fun K10 hK10 => ?_; refine HC_seq fun K11 hK11 => ?_; refine HC_region ?_; refine HL_r rfl rfl rfl rfl (R_move rfl) ?_; refine HL_r rfl rfl rfl rfl (R_pure rfl rfl rfl) ?_; refine HL_nil ?_; refine HQ_then ?_; refine hK11 _ _ _ _ ?_; clear hK11 K11; refine HC_cond rfl (fun h12 => ?_) (fun h12 => ?_)
      · try exact Bool.noConfusion h12
        try simp only [Z1, Z2, Z3, Z4, Z5, Z6, Z7, Z8, Z9, Z10, Z11, Z12, Z13] at h12
        refine HC_seq fun K13 hK13 => ?_; refine HC_region ?_; refine HL_r rfl rfl rfl rfl (R_move rfl) ?_; refine HL_r rfl rfl rfl rfl (R_pure rfl rfl rfl) ?_; refine HL_r rfl rfl rfl rfl (R_assign rfl) ?_; refine HL_nil ?_; refine HQ_then ?_; refine hK13 _ _ _ _ ?_; clear hK13 K13; refine HC_ret ?_; refine HQ_thenR ?_; clear hK10 K10; refine HQ_post rfl rfl (.cons (res_tmp rfl) .nil) (fun w1 hs1 => ?_); refine ⟨?_, hs1.keep⟩
        (have h : i = 4 ∨ i = 5 := by omega
         rcases h with rfl | rfl <;> rfl)
      · try exact Bool.noConfusion h12
        try simp only [Z1, Z2, Z3, Z4, Z5, Z6, Z7, Z8, Z9, Z10, Z11, Z12, Z13] at h12
        refine HC_skip ?_; refine HQ_then ?_; refine hK10 _ _ _ _ ?_; clear hK10 K10; refine HC_seq fun K14 hK14 => ?_; refine HC_region ?_; refine HL_r rfl rfl rfl rfl (R_move rfl) ?_; refine HL_r rfl rfl rfl rfl (R_pure rfl rfl rfl) ?_; refine HL_r rfl rfl rfl rfl (R_assign rfl) ?_; refine HL_nil ?_; refine HQ_then ?_; refine hK14 _ _ _ _ ?_; clear hK14 K14; refine HC_ret ?_; refine HQ_post rfl rfl (.cons (res_tmp rfl) .nil) (fun w1 hs1 => ?_); refine ⟨?_, hs1.keep⟩
        (obtain rfl : i = 6 := by omega
         rfl)
set_option maxRecDepth 10000 in
theorem P_rpacked {x y : Nat} (hx : U64 x) (hy : U64 y) : Pure Tryz.prog 95 [uV x, uV y].toArray (strV (bW ⟨y, x, 0, 0⟩)) := by
  refine pure_of_HC Tryz.func95 rfl rfl fun w => ?_; refine HC_seq fun K1 hK1 => ?_; refine HC_region ?_; refine HL_r rfl rfl rfl rfl (R_assign rfl) ?_; refine HL_nil ?_; refine HQ_then ?_; refine hK1 _ _ _ _ ?_; clear hK1 K1; refine HC_seq fun K2 hK2 => ?_; refine HC_region ?_; refine HL_r rfl rfl rfl rfl (R_move rfl) ?_; refine HL_r rfl rfl rfl rfl (R_move rfl) ?_; refine HL_r rfl rfl rfl rfl (R_build (r := [_, _, _, _]) rfl rfl) ?_; refine HL_callP rfl rfl rfl (enters_of Tryz.func96 (by kernel_rfl) rfl) (P_ref_Fixed (l := [y, x, 0, 0]) (W4.ok.wok (w := ⟨y, x, 0, 0⟩) ⟨hy, hx, u64_0, u64_0⟩)) ?_; refine HL_r rfl rfl rfl rfl (R_assign rfl) ?_; refine HL_nil ?_; refine HQ_then ?_; refine hK2 _ _ _ _ ?_; clear hK2 K2; refine HC_ret ?_; refine HQ_post rfl rfl (.cons (res_tmp rfl) .nil) (fun w1 hs1 => ?_); exact ⟨rfl, hs1.keep⟩
set_option maxHeartbeats 1000000 in
set_option maxRecDepth 10000 in
theorem P_rholds {r : Rec} (hr : r.ok) {i : Nat} (hi : i < 7) : Pure Tryz.prog 63 [.int .i64 (i : Int), r.val].toArray (strV (bW (holdsE r i))) := by
  refine pure_of_HC Tryz.func63 rfl rfl fun w => ?_; refine HC_seq fun K1 hK1 => ?_; refine HC_region ?_; refine HL_box (cs := r.cells.toArray) rfl rfl rfl rfl fun rb => ?_; refine HL_r rfl rfl rfl rfl (R_assign rfl) ?_; refine HL_nil ?_; refine HQ_then ?_; refine hK1 _ _ _ _ ?_; clear hK1 K1; refine HC_seq fun K2 hK2 => ?_; refine HC_seq fun K3 hK3 => ?_; refine HC_region ?_; refine HL_r rfl rfl rfl rfl (R_move rfl) ?_; refine HL_nil ?_; refine HQ_then ?_; refine hK3 _ _ _ _ ?_; clear hK3 K3; refine HC_block ?_; refine HC_seq fun K4 hK4 => ?_; refine HC_region ?_; refine HL_r rfl rfl rfl rfl (R_pure rfl rfl rfl) ?_; refine HL_r rfl rfl rfl rfl (R_assign rfl) ?_; refine HL_nil ?_; refine HQ_then ?_; refine hK4 _ _ _ _ ?_; clear hK4 K4; refine HC_cond rfl (fun h5 => ?_) (fun h5 => ?_)
  · try exact Bool.noConfusion h5
    try simp only [Z1, Z2, Z3, Z4, Z5, Z6, Z7, Z8, Z9, Z10, Z11, Z12, Z13] at h5
    refine HC_seq fun K6 hK6 => ?_; refine HC_region ?_
    refine HL_r rfl rfl rfl rfl (R_fieldAddr rfl rfl (by first | (simp only [Nat.zero_add, Nat.reduceAdd, Nat.reduceMul, Nat.zero_mul, Nat.mul_one, Nat.add_zero]; exact rfl) | exact rfl)) ?_; refine HL_r rfl rfl rfl rfl (R_load rfl (known_L (k := 0) rfl) rfl rfl) ?_
    refine HL_r rfl rfl rfl rfl (R_fieldAddr rfl rfl (by first | (simp only [Nat.zero_add, Nat.reduceAdd, Nat.reduceMul, Nat.zero_mul, Nat.mul_one, Nat.add_zero]; exact rfl) | exact rfl)) ?_; refine HL_r rfl rfl rfl rfl (R_load rfl (known_L (k := 0) rfl) rfl rfl) ?_; refine HL_callP rfl rfl rfl (enters_of Tryz.func95 (by kernel_rfl) rfl) (P_rpacked hr.time hr.number) ?_; refine HL_r rfl rfl rfl rfl (R_assign rfl) ?_; refine HL_nil ?_; refine HQ_then ?_; refine hK6 _ _ _ _ ?_; clear hK6 K6; refine HC_ret ?_; refine HQ_blockR ?_; refine HQ_thenR ?_; clear hK2 K2; refine HQ_post rfl rfl (.cons (res_tmp rfl) .nil) (fun w1 hs1 => ?_); refine ⟨?_, hs1.keep⟩
    (obtain rfl : i = 0 := by omega
     rfl)
  · try exact Bool.noConfusion h5
    try simp only [Z1, Z2, Z3, Z4, Z5, Z6, Z7, Z8, Z9, Z10, Z11, Z12, Z13] at h5
    refine HC_seq fun K7 hK7 => ?_; refine HC_region ?_; refine HL_r rfl rfl rfl rfl (R_pure rfl rfl rfl) ?_; refine HL_r rfl rfl rfl rfl (R_assign rfl) ?_; refine HL_nil ?_; refine HQ_then ?_; refine hK7 _ _ _ _ ?_; clear hK7 K7; refine HC_cond rfl (fun h8 => ?_) (fun h8 => ?_)
    · try exact Bool.noConfusion h8
      try simp only [Z1, Z2, Z3, Z4, Z5, Z6, Z7, Z8, Z9, Z10, Z11, Z12, Z13] at h8
      refine HC_seq fun K9 hK9 => ?_; refine HC_region ?_
      refine HL_r rfl rfl rfl rfl (R_fieldAddr rfl rfl (by first | (simp only [Nat.zero_add, Nat.reduceAdd, Nat.reduceMul, Nat.zero_mul, Nat.mul_one, Nat.add_zero]; exact rfl) | exact rfl)) ?_; refine HL_r rfl rfl rfl rfl (R_loadA (vs := [_, _, _, _]) rfl (known_L (k := 0) rfl) rfl rfl rfl rfl) ?_; refine HL_callP rfl rfl rfl (enters_of Tryz.func96 (by kernel_rfl) rfl) (P_ref_Fixed hr.base.wok) ?_; refine HL_r rfl rfl rfl rfl (R_assign rfl) ?_; refine HL_nil ?_; refine HQ_then ?_; refine hK9 _ _ _ _ ?_; clear hK9 K9; refine HC_ret ?_; refine HQ_blockR ?_; refine HQ_thenR ?_; clear hK2 K2; refine HQ_post rfl rfl (.cons (res_tmp rfl) .nil) (fun w1 hs1 => ?_); refine ⟨?_, hs1.keep⟩
      (obtain rfl : i = 1 := by omega
       rfl)
    · try exact Bool.noConfusion h8
      try simp only [Z1, Z2, Z3, Z4, Z5, Z6, Z7, Z8, Z9, Z10, Z11, Z12, Z13] at h8
      refine HC_seq fun K10 hK10 => ?_; refine HC_region ?_; refine HL_r rfl rfl rfl rfl (R_pure rfl rfl rfl) ?_; refine HL_r rfl rfl rfl rfl (R_assign rfl) ?_; refine HL_nil ?_; refine HQ_then ?_; refine hK10 _ _ _ _ ?_; clear hK10 K10; refine HC_cond rfl (fun h11 => ?_) (fun h11 => ?_)
      · try exact Bool.noConfusion h11
        try simp only [Z1, Z2, Z3, Z4, Z5, Z6, Z7, Z8, Z9, Z10, Z11, Z12, Z13] at h11
        refine HC_seq fun K12 hK12 => ?_; refine HC_region ?_
        refine HL_r rfl rfl rfl rfl (R_fieldAddr rfl rfl (by first | (simp only [Nat.zero_add, Nat.reduceAdd, Nat.reduceMul, Nat.zero_mul, Nat.mul_one, Nat.add_zero]; exact rfl) | exact rfl)) ?_; refine HL_r rfl rfl rfl rfl (R_loadA (vs := [_, _, _, _]) rfl (known_L (k := 0) rfl) rfl rfl rfl rfl) ?_; refine HL_callP rfl rfl rfl (enters_of Tryz.func96 (by kernel_rfl) rfl) (P_ref_Fixed hr.overhead.wok) ?_; refine HL_r rfl rfl rfl rfl (R_assign rfl) ?_; refine HL_nil ?_; refine HQ_then ?_; refine hK12 _ _ _ _ ?_; clear hK12 K12; refine HC_ret ?_; refine HQ_blockR ?_; refine HQ_thenR ?_; clear hK2 K2; refine HQ_post rfl rfl (.cons (res_tmp rfl) .nil) (fun w1 hs1 => ?_); refine ⟨?_, hs1.keep⟩
        (obtain rfl : i = 2 := by omega
         rfl)
      · try exact Bool.noConfusion h11
        try simp only [Z1, Z2, Z3, Z4, Z5, Z6, Z7, Z8, Z9, Z10, Z11, Z12, Z13] at h11
        refine HC_seq fun K13 hK13 => ?_; refine HC_region ?_; refine HL_r rfl rfl rfl rfl (R_pure rfl rfl rfl) ?_; refine HL_r rfl rfl rfl rfl (R_assign rfl) ?_; refine HL_nil ?_; refine HQ_then ?_; refine hK13 _ _ _ _ ?_; clear hK13 K13; refine HC_cond rfl (fun h14 => ?_) (fun h14 => ?_)
        · try exact Bool.noConfusion h14
          try simp only [Z1, Z2, Z3, Z4, Z5, Z6, Z7, Z8, Z9, Z10, Z11, Z12, Z13] at h14
          refine HC_seq fun K15 hK15 => ?_; refine HC_region ?_
          refine HL_r rfl rfl rfl rfl (R_fieldAddr rfl rfl (by first | (simp only [Nat.zero_add, Nat.reduceAdd, Nat.reduceMul, Nat.zero_mul, Nat.mul_one, Nat.add_zero]; exact rfl) | exact rfl)) ?_; refine HL_r rfl rfl rfl rfl (R_load rfl (known_L (k := 0) rfl) rfl rfl) ?_; refine HL_callP rfl rfl rfl (enters_of Tryz.func95 (by kernel_rfl) rfl) (P_rpacked u64_0 hr.scalar) ?_; refine HL_r rfl rfl rfl rfl (R_assign rfl) ?_; refine HL_nil ?_; refine HQ_then ?_; refine hK15 _ _ _ _ ?_; clear hK15 K15; refine HC_ret ?_; refine HQ_blockR ?_; refine HQ_thenR ?_; clear hK2 K2; refine HQ_post rfl rfl (.cons (res_tmp rfl) .nil) (fun w1 hs1 => ?_); refine ⟨?_, hs1.keep⟩
          (obtain rfl : i = 3 := by omega
           rfl)
        · try exact Bool.noConfusion h14
          try simp only [Z1, Z2, Z3, Z4, Z5, Z6, Z7, Z8, Z9, Z10, Z11, Z12, Z13] at h14
          refine HC_seq fun K16 hK16 => ?_; refine HC_region ?_; refine HL_r rfl rfl rfl rfl (R_pure rfl rfl rfl) ?_; refine HL_r rfl rfl rfl rfl (R_assign rfl) ?_; refine HL_nil ?_; refine HQ_then ?_; refine hK16 _ _ _ _ ?_; clear hK16 K16; refine HC_cond rfl (fun h17 => ?_) (fun h17 => ?_)
          · try exact Bool.noConfusion h17
            try simp only [Z1, Z2, Z3, Z4, Z5, Z6, Z7, Z8, Z9, Z10, Z11, Z12, Z13] at h17
            refine HC_seq fun K18 hK18 => ?_; refine HC_region ?_
            refine HL_r rfl rfl rfl rfl (R_fieldAddr rfl rfl (by first | (simp only [Nat.zero_add, Nat.reduceAdd, Nat.reduceMul, Nat.zero_mul, Nat.mul_one, Nat.add_zero]; exact rfl) | exact rfl)) ?_; refine HL_r rfl rfl rfl rfl (R_load rfl (known_L (k := 0) rfl) rfl rfl) ?_
            refine HL_r rfl rfl rfl rfl (R_fieldAddr rfl rfl (by first | (simp only [Nat.zero_add, Nat.reduceAdd, Nat.reduceMul, Nat.zero_mul, Nat.mul_one, Nat.add_zero]; exact rfl) | exact rfl)) ?_; refine HL_r rfl rfl rfl rfl (R_load rfl (known_L (k := 0) rfl) rfl rfl) ?_; refine HL_callP rfl rfl rfl (enters_of Tryz.func95 (by kernel_rfl) rfl) (P_rpacked hr.extra hr.scalar) ?_; refine HL_r rfl rfl rfl rfl (R_assign rfl) ?_; refine HL_nil ?_; refine HQ_then ?_; refine hK18 _ _ _ _ ?_; clear hK18 K18; refine HC_ret ?_; refine HQ_blockR ?_; refine HQ_thenR ?_; clear hK2 K2; refine HQ_post rfl rfl (.cons (res_tmp rfl) .nil) (fun w1 hs1 => ?_); refine ⟨?_, hs1.keep⟩
            (obtain rfl : i = 4 := by omega
             rfl)
          · try exact Bool.noConfusion h17
            try simp only [Z1, Z2, Z3, Z4, Z5, Z6, Z7, Z8, Z9, Z10, Z11, Z12, Z13] at h17
            refine HC_seq fun K19 hK19 => ?_; refine HC_region ?_; refine HL_r rfl rfl rfl rfl (R_pure rfl rfl rfl) ?_; refine HL_r rfl rfl rfl rfl (R_assign rfl) ?_; refine HL_nil ?_; refine HQ_then ?_; refine hK19 _ _ _ _ ?_; clear hK19 K19; refine HC_cond rfl (fun h20 => ?_) (fun h20 => ?_)
            · try exact Bool.noConfusion h20
              try simp only [Z1, Z2, Z3, Z4, Z5, Z6, Z7, Z8, Z9, Z10, Z11, Z12, Z13] at h20
              refine HC_seq fun K21 hK21 => ?_; refine HC_region ?_
              refine HL_r rfl rfl rfl rfl (R_fieldAddr rfl rfl (by first | (simp only [Nat.zero_add, Nat.reduceAdd, Nat.reduceMul, Nat.zero_mul, Nat.mul_one, Nat.add_zero]; exact rfl) | exact rfl)) ?_; refine HL_r rfl rfl rfl rfl (R_loadA (vs := [_, _, _, _]) rfl (known_L (k := 0) rfl) rfl rfl rfl rfl) ?_; refine HL_callP rfl rfl rfl (enters_of Tryz.func96 (by kernel_rfl) rfl) (P_ref_Fixed hr.blob.wok) ?_; refine HL_r rfl rfl rfl rfl (R_assign rfl) ?_; refine HL_nil ?_; refine HQ_then ?_; refine hK21 _ _ _ _ ?_; clear hK21 K21; refine HC_ret ?_; refine HQ_blockR ?_; refine HQ_thenR ?_; clear hK2 K2; refine HQ_post rfl rfl (.cons (res_tmp rfl) .nil) (fun w1 hs1 => ?_); refine ⟨?_, hs1.keep⟩
              (obtain rfl : i = 5 := by omega
               rfl)
            · try exact Bool.noConfusion h20
              try simp only [Z1, Z2, Z3, Z4, Z5, Z6, Z7, Z8, Z9, Z10, Z11, Z12, Z13] at h20
              refine HC_skip ?_; refine HQ_blockN ?_; refine HQ_then ?_; refine hK2 _ _ _ _ ?_; clear hK2 K2; refine HC_seq fun K22 hK22 => ?_; refine HC_region ?_
              refine HL_r rfl rfl rfl rfl (R_fieldAddr rfl rfl (by first | (simp only [Nat.zero_add, Nat.reduceAdd, Nat.reduceMul, Nat.zero_mul, Nat.mul_one, Nat.add_zero]; exact rfl) | exact rfl)) ?_; refine HL_r rfl rfl rfl rfl (R_load rfl (known_L (k := 0) rfl) rfl rfl) ?_; refine HL_callP rfl rfl rfl (enters_of Tryz.func95 (by kernel_rfl) rfl) (P_rpacked u64_0 hr.operator) ?_; refine HL_r rfl rfl rfl rfl (R_assign rfl) ?_; refine HL_nil ?_; refine HQ_then ?_; refine hK22 _ _ _ _ ?_; clear hK22 K22; refine HC_ret ?_; refine HQ_post rfl rfl (.cons (res_tmp rfl) .nil) (fun w1 hs1 => ?_); refine ⟨?_, hs1.keep⟩
              (obtain rfl : i = 6 := by omega
               rfl)
theorem low_step (x : Nat) {i : Nat} (hi : i < 8) : x / 256 ^ (8 - (i + 1)) = x / 256 ^ (8 - i) * 256 + x / 256 ^ (7 - i) % 256 := by
  rw [show 8 - (i + 1) = 7 - i by omega, show 8 - i = 7 - i + 1 by omega, Nat.pow_succ, ← Nat.div_div_eq_div_mul]; omega
/-- Eight bytes that are a number. -/
structure Num8 (s : BS) (x : Nat) : Prop where
  len : s.length = 8
  u : U64 x
  at_ : ∀ i, i < 8 → (s.getD i 0).toNat = x / 256 ^ (7 - i) % 256
theorem num8_of {w : W4} {n m : Nat} (hx : U64 (w.l.getD n 0)) (hn : n < 4) (hm : m = 24 - 8 * n) : Num8 (((bW w).take (m + 8)).drop m) (w.l.getD n 0) := by
  subst hm; refine ⟨by rw [List.length_drop, List.length_take, bW_len]; omega, hx, fun i hi => ?_⟩; rw [List.getD_eq_getElem?_getD, List.getElem?_drop, List.getElem?_take_of_lt (by omega)]
  unfold bW
  rw [beD_get _ (by omega)]
  show (UInt8.ofNat (dg w.l _)).toNat = _
  have h1 := dg_lt w.l (32 - 1 - (24 - 8 * n + i))
  rw [UInt8.toNat_ofNat', Nat.mod_eq_of_lt h1]
  unfold dg
  rw [show (32 - 1 - (24 - 8 * n + i)) / 8 = n by omega, show (32 - 1 - (24 - 8 * n + i)) % 8 * 8 = 8 * (7 - i) by omega, Nat.pow_mul]
theorem num8_a {s : BS} (h : s.length = 32) : Num8 ((s.take 32).drop 24) (uW s).a := by
  have h2 := num8_of (w := uW s) (n := 0) (m := 24) (uW_ok s).a (by decide) rfl
  rw [bW_u h] at h2; exact h2
theorem num8_b {s : BS} (h : s.length = 32) : Num8 ((s.take 24).drop 16) (uW s).b := by
  have h2 := num8_of (w := uW s) (n := 1) (m := 16) (uW_ok s).b (by decide) rfl
  rw [bW_u h] at h2; exact h2
set_option maxRecDepth 10000 in
theorem P_rlow {s : BS} {x : Nat} (h : Num8 s x) : Pure Tryz.prog 97 [strV s].toArray (uV x) := by
  have hs := h.len
  have hu : x < 18446744073709551616 := h.u
  refine pure_of_HC Tryz.func97 rfl rfl fun w => ?_; refine HC_seq fun K1 hK1 => ?_; refine HC_region ?_; refine HL_r rfl rfl rfl rfl (R_assign rfl) ?_; refine HL_nil ?_; refine HQ_then ?_; refine hK1 _ _ _ _ ?_; clear hK1 K1; refine HC_seq fun K2 hK2 => ?_; refine HC_region ?_; refine HL_r rfl rfl rfl rfl (R_assign rfl) ?_; refine HL_nil ?_; refine HQ_then ?_; refine hK2 _ _ _ _ ?_; clear hK2 K2; refine HC_seq fun K3 hK3 => ?_; refine HC_seq fun K4 hK4 => ?_; refine HC_region ?_; refine HL_r rfl rfl rfl rfl (R_assign rfl) ?_; refine HL_nil ?_; refine HQ_then ?_; refine hK4 _ _ _ _ ?_; clear hK4 K4; refine HC_block ?_
  have h0 : x / 256 ^ (8 - 0) = 0 := by omega
  refine HC_loop (σ := Nat) (fun i => i ≤ 8) (fun i => [(0, strV s), (3, uV (x / 256 ^ (8 - i))), (4, .int .i64 (i : Int))]) (fun _ => []) (fun _ _ _ => True) (fun i => 8 - i) 0 (Nat.zero_le _) (.cons rfl (.cons (by rw [h0]; rfl) (.cons rfl .nil))) (List.Sublist.refl _) (fun _ _ h => h) ?_; intro i hi1; refine HC_seq fun K5 hK5 => ?_; refine HC_seq fun K6 hK6 => ?_; refine HC_region ?_; refine HL_r rfl rfl rfl rfl (R_move rfl) ?_; refine HL_r rfl rfl rfl rfl (R_move rfl) ?_; refine HL_r rfl rfl rfl rfl (R_lenBs rfl rfl) ?_; refine HL_r rfl rfl rfl rfl (R_pure rfl rfl rfl) ?_; refine HL_nil ?_; refine HQ_then ?_; refine hK6 _ _ _ _ ?_; clear hK6 K6; refine HC_cond rfl (fun h7 => ?_) (fun h7 => ?_)
  · try exact Bool.noConfusion h7
    try simp only [Z1, Z2, Z3, Z4, Z5, Z6, Z7, Z8, Z9, Z10, Z11, Z12, Z13] at h7
    refine HC_skip ?_; refine HQ_then ?_; refine hK5 _ _ _ _ ?_; clear hK5 K5; refine HC_seq fun K8 hK8 => ?_; refine HC_block ?_
    have hst := low_step x (show i < 8 by omega)
    have hle := Nat.div_le_self x (256 ^ (8 - (i + 1)))
    obtain ⟨d, hd, hd2⟩ : ∃ d, (s.getD i 0).toNat = d ∧ d < 256 := ⟨_, rfl, u8_lt _⟩
    rw [← h.at_ i (by omega), hd] at hst
    obtain ⟨q, hq⟩ : ∃ q, q = x / 256 ^ (8 - i) := ⟨_, rfl⟩
    rw [← hq] at hst ⊢
    obtain ⟨q2, hq2⟩ : ∃ q, q = x / 256 ^ (8 - (i + 1)) := ⟨_, rfl⟩
    rw [← hq2] at hst hle; refine HC_region ?_; refine HL_r rfl rfl rfl rfl (R_move rfl) ?_; refine HL_r rfl rfl rfl rfl (R_pure rfl rfl rfl) ?_; refine HL_as (show _ = uV (q * 256) from congrArg (Value.int .u64) (wrap_u64 (z := ((q * 256 : Nat) : Int)) (by omega) (by omega))) ?_; refine HL_r rfl rfl rfl rfl (R_move rfl) ?_; refine HL_r rfl rfl rfl rfl (R_move rfl) ?_; refine HL_r rfl rfl rfl rfl (R_indexBs (j := i) (n := (d : Int)) rfl rfl rfl rfl (by omega) (by rw [hd])) ?_; refine HL_r rfl rfl rfl rfl (R_pure rfl rfl rfl) ?_; refine HL_as (show _ = uV d from congrArg (Value.int .u64) (wrap_u64 (z := (d : Int)) (by omega) (by omega))) ?_; refine HL_r rfl rfl rfl rfl (R_pure rfl rfl rfl) ?_; refine HL_as (show _ = uV (q * 256 + d) from congrArg (Value.int .u64) (wrap_u64 (z := ((q * 256 + d : Nat) : Int)) (by omega) (by omega))) ?_; refine HL_r rfl rfl rfl rfl (R_assign rfl) ?_; refine HL_nil ?_; refine HQ_blockN ?_; refine HQ_then ?_; refine hK8 _ _ _ _ ?_; clear hK8 K8; refine HC_region ?_; refine HL_r rfl rfl rfl rfl (R_move rfl) ?_; refine HL_r rfl rfl rfl rfl (R_pure rfl rfl rfl) ?_; refine HL_wrap_i64 (by omega) (by omega) ?_; refine HL_r rfl rfl rfl rfl (R_assign rfl) ?_; refine HL_nil ?_; refine HQ_then ?_; exact HQ_again (i + 1) (by omega) (by omega) (.cons rfl (.cons (by rw [← hq2, hst]; rfl) (.cons rfl .nil))) (List.Sublist.refl _) (fun _ _ h => h)
  · try exact Bool.noConfusion h7
    try simp only [Z1, Z2, Z3, Z4, Z5, Z6, Z7, Z8, Z9, Z10, Z11, Z12, Z13] at h7
    refine HC_exit ?_; refine HQ_thenE ?_; clear hK5 K5; refine HQ_thenE ?_; refine HQ_blockE ?_; refine HQ_then ?_; refine hK3 _ _ _ _ ?_; clear hK3 K3; refine HC_seq fun K9 hK9 => ?_; refine HC_region ?_; refine HL_r rfl rfl rfl rfl (R_move rfl) ?_; refine HL_r rfl rfl rfl rfl (R_assign rfl) ?_; refine HL_nil ?_; refine HQ_then ?_; refine hK9 _ _ _ _ ?_; clear hK9 K9; refine HC_ret ?_; refine HQ_post rfl rfl (.cons (res_tmp rfl) .nil) (fun w1 hs1 => ?_); refine ⟨?_, hs1.keep⟩
    obtain rfl : i = 8 := by omega
    rw [show x / 256 ^ (8 - 8) = x by omega]
    rfl
end Go.Proofs.YtnkmbkndpoghdaaGreat
namespace Go.Proofs.YtnkmbkndpoghdaaGreat
set_option linter.all false
open Go.SL Go.RowKit Go.Shelf
/-! ### the reference of layouts: read, Check, Read, coded -/
theorem u64_dec {n : Nat} (h : Nat.blt n 18446744073709551616 = true) : U64 n := by unfold U64; rwa [Nat.blt_eq] at h
theorem HB_storeA {c : Cx} {l : List (Nat × Value)} {E : List (Nat × Obj)} {X : XP} {d : List Deferred} {ops : Array Oper} {rest : List Nat} {k : Nat} {tb : Kbs} {S : List (Nat × Obj)} {T : List (Nat × Obj) → Act → Prop} {t ty : TypeId} {ps : String} {af : Array Edge} {gd : Option (Nat × Bool)} {x y : Operand} {q r off n : Nat} {cs cs' : Array Value} {vs : Array Value} {e : TypeId} {E' : List (Nat × Obj)} (hko : nth ops.toList k = some ⟨none, .store t x y, ty, ps, af, gd⟩) (hg : goes l ops ⟨none, .store t x y, ty, ps, af, gd⟩ = some true) (hA : tb k = .turn)
    (hx : evl l x = some (.pointer (some ⟨r, off, none⟩))) (hk : E[q]? = some (r, .cells cs e (0, 0))) (hy : evl l y = some (.agg vs)) (ht : szOf c.P t = some n) (hn : vs.size = n) (ho : vs.toList.all oneB = true) (hc : off + n ≤ cs.size)
    (hcs : (cs.toList.take off ++ vs.toList ++ cs.toList.drop (off + n)).toArray = cs') (hL : E.set q (r, .cells cs' e (0, 0)) = E') (hS : SubS S E')
    (h : HB c d l E' X S ops tb rest T) : HB c d l E X S ops tb (k :: rest) T :=
  HB_turn0 hko hg rfl hA (fun a w hf hs => ⟨w.setRow r cs', by
    simp only [execOp]; rw [hf.eval hx, hf.eval hy]
    have h1 := run_storeCells_at (P := c.P) r off e vs.toList 0 cs w (hs.get hk) (by simp [hn]; omega) (fun u hu => by rw [oneB_eq]; exact List.all_eq_true.1 ho u hu)
    simp only [Nat.add_zero, Array.length_toList, hn] at h1; rw [hcs] at h1
    simp [Instr.storeAt, Instr.sureAddr, Sem.run_bind, Result.andThen, storeVar, run_sz ht, Value.cells, hn, h1], by
    subst hL
    exact hs.set hk (Keep.setRow r cs') (setRow_heap _ _ _ _ _ _ (hs.get hk))⟩) hS h
theorem P_runf (s : BS) : Pure Tryz.prog 98 [strV s].toArray (.tuple #[wV (uW s).l, .int .i64 (unfR s).2]) := by
  rw [uW_l]; exact P_ref_Unfixed s
theorem read_lo {f : Int} (h : f = 0 ∨ f = 1 ∨ f = 2) (a : AcE) : readE f a = ⟨(uW (slotE a (keyE 0))).a, (uW (slotE a (keyE 0))).b, uW (slotE a (keyE 1)), w40, uW (slotE a (keyE 5)), (uW (slotE a (keyE 6))).a, 0, 0⟩ := by
  rcases h with rfl | rfl | rfl <;> rfl
theorem read_mid {f : Int} (h : f = 3 ∨ f = 4) (a : AcE) : readE f a = ⟨(uW (slotE a (keyE 0))).a, (uW (slotE a (keyE 0))).b, uW (slotE a (keyE 1)), uW (slotE a (keyE 7)), w40, (uW (slotE a (keyE 3))).a, (uW (slotE a (keyE 3))).b, 0⟩ := by
  rcases h with rfl | rfl <;> rfl
theorem read_hi {f : Int} (h : f = 5) (a : AcE) : readE f a = ⟨(uW (slotE a (keyE 0))).a, (uW (slotE a (keyE 0))).b, uW (slotE a (keyE 1)), uW (slotE a (keyE 7)), w40, (uW (slotE a (keyE 3))).a, (uW (slotE a (keyE 3))).b, (uW (slotE a (keyE 8))).a⟩ := by
  subst h; rfl
set_option maxHeartbeats 1000000 in
set_option maxRecDepth 10000 in
theorem S_rread {R : List (Nat × Obj)} {f : Int} (hf : Forked f) {a : AcL} (ha : a.In R) (hsl : ∀ k, (slotE a.er k).length = 32) : PureR Tryz.prog 64 [.int .i64 f, a.val].toArray (readE f a.er).val R := by
  unfold Forked at hf
  refine pureR_of_HC Tryz.func64 rfl rfl fun w => ?_; refine HC_seq fun K1 hK1 => ?_; refine HC_region ?_; refine HL_box (cs := a.cells.toArray) rfl rfl rfl rfl fun ra => ?_; refine HL_alloc (cs := #[_, _, _, _, _, _, _, _, _, _, _, _, _, _, _, _, _]) rfl rfl rfl rfl fun r1 => ?_; refine HL_nil ?_; refine HQ_then ?_; refine hK1 _ _ _ _ ?_; clear hK1 K1; refine HC_seq fun K2 hK2 => ?_; refine HC_draw 4 (by kernel_rfl) (by kernel_rfl) ?_; refine HD_r rfl rfl rfl (R_loadArr (xs := a.cells) (n := 8) rfl (known_L (k := 1) rfl) rfl rfl rfl) ?_; refine HD_callP rfl rfl rfl (enters_of Tryz.func66 (by kernel_rfl) rfl) (P_rKey (n := 0) u64_0) ?_; refine HD_callR rfl rfl rfl (enters_of Tryz.func65 (by kernel_rfl) rfl) (S_rSlot ha (keyE 0)) (fun q hq => Or.inr hq) ?_; refine HD_r rfl rfl rfl (R_assign rfl) ?_; refine HD_end ?_; refine HL_nil ?_; refine HQ_then ?_; refine hK2 _ _ _ _ ?_; clear hK2 K2; refine HC_seq fun K3 hK3 => ?_
  refine HC_drawB [] [(0, .pure), (1, .pure), (2, .pure), (3, .pure), (4, .pure), (5, .pure), (6, .pure), (7, .grow (geNew ptrV (.cells #[.int .u64 0, .int .u64 0, .int .u64 0, .int .u64 0, .int .u64 0, .int .u64 0, .int .u64 0, .int .u64 0, .int .u64 0, .int .u64 0, .int .u64 0, .int .u64 0, .int .u64 0, .int .u64 0, .int .u64 0, .int .u64 0, .int .u64 0] 29 (0, 0)))), (8, .turn)] 9 [0, 1, 2, 3, 4, 5, 6, 7, 8] (by kernel_rfl) (by kernel_rfl) (by first | exact (fun _ h => nomatch h) | simp [SubS] | (intro p hp; simp [hp])) ?_; refine HB_p (k := 0) rfl rfl rfl rfl rfl (fun _ hS => (R_move rfl)) ?_; refine HB_p (k := 1) rfl rfl rfl rfl rfl (fun _ _ => (R_sliceBs (kl := some (.i64, 24)) (kh := some (.i64, 32)) (m := 24) (n := 32) rfl rfl rfl rfl rfl rfl (by decide) (by rw [hsl]; decide) rfl)) ?_; refine HB_callP (k := 2) rfl rfl rfl rfl rfl (enters_of Tryz.func97 (by kernel_rfl) rfl) (P_rlow (num8_a (hsl (keyE 0)))) ?_; refine HB_p (k := 3) rfl rfl rfl rfl rfl (fun _ hS => (R_move rfl)) ?_; refine HB_p (k := 4) rfl rfl rfl rfl rfl (fun _ _ => (R_sliceBs (kl := some (.i64, 16)) (kh := some (.i64, 24)) (m := 16) (n := 24) rfl rfl rfl rfl rfl rfl (by decide) (by rw [hsl]; decide) rfl)) ?_; refine HB_callP (k := 5) rfl rfl rfl rfl rfl (enters_of Tryz.func97 (by kernel_rfl) rfl) (P_rlow (num8_b (hsl (keyE 0)))) ?_; refine HB_p (k := 6) rfl rfl rfl rfl rfl (fun _ hS => (R_build (r := [_, _, _, _, _, _, _, _, _, _, _, _, _, _, _, _, _]) rfl rfl)) ?_; refine HB_alloc (k := 7) (cs := #[_, _, _, _, _, _, _, _, _, _, _, _, _, _, _, _, _]) rfl rfl rfl rfl rfl rfl fun r2 => ?_; refine HB_storeArr (k := 8) (q := 0) (n := 17) (ys := (Rec.cells ⟨(uW (slotE a.er (keyE 0))).a, (uW (slotE a.er (keyE 0))).b, w40, w40, w40, 0, 0, 0⟩)) rfl rfl rfl rfl rfl rfl rfl rfl rfl rfl rfl (fun _ h => nomatch h) ?_; refine HB_end ?_; refine HL_nil ?_; refine HQ_then ?_; refine hK3 _ _ _ _ ?_; clear hK3 K3; refine HC_seq fun K4 hK4 => ?_
  refine HC_drawB [] [(1, .pure), (3, .pure), (4, .pure), (5, .pure), (6, .pure), (7, .pure), (8, .turn)] 9 [0, 1, 2, 3, 4, 5, 6, 7, 8] (by kernel_rfl) (by kernel_rfl) (by first | exact (fun _ h => nomatch h) | simp [SubS] | (intro p hp; simp [hp])) ?_; refine HB_r (k := 0) rfl rfl rfl rfl rfl (R_loadArr (xs := a.cells) (n := 8) rfl (known_L (k := 2) rfl) rfl rfl rfl) ?_; refine HB_callP (k := 1) rfl rfl rfl rfl rfl (enters_of Tryz.func66 (by kernel_rfl) rfl) (P_rKey (n := 1) (u64_dec rfl)) ?_; refine HB_callR (k := 2) rfl rfl rfl rfl rfl (enters_of Tryz.func65 (by kernel_rfl) rfl) (S_rSlot ha (keyE 1)) (fun q hq => Or.inr hq) ?_; refine HB_callP (k := 3) rfl rfl rfl rfl rfl (enters_of Tryz.func98 (by kernel_rfl) rfl) (P_runf (slotE a.er (keyE 1))) ?_; refine HB_p (k := 4) rfl rfl rfl rfl rfl (fun _ hS => (R_move rfl)) ?_; refine HB_p (k := 5) rfl rfl rfl rfl rfl (fun _ hS => (R_extract rfl rfl)) ?_; refine HB_p (k := 6) rfl rfl rfl rfl rfl (fun _ hS => (R_extract rfl rfl)) ?_
  refine HB_p (k := 7) rfl rfl rfl rfl rfl (fun _ hS => (R_fieldAddr rfl rfl (by first | (simp only [Nat.zero_add, Nat.reduceAdd, Nat.reduceMul, Nat.zero_mul, Nat.mul_one, Nat.add_zero]; exact rfl) | exact rfl))) ?_; refine HB_storeA (k := 8) (q := 0) (n := 4) (vs := #[_, _, _, _]) (cs' := (Rec.cells ⟨(uW (slotE a.er (keyE 0))).a, (uW (slotE a.er (keyE 0))).b, (uW (slotE a.er (keyE 1))), w40, w40, 0, 0, 0⟩).toArray) rfl rfl rfl rfl rfl rfl rfl rfl rfl (by exact Nat.le_of_ble_eq_true rfl) rfl rfl (fun _ h => nomatch h) ?_; refine HB_end ?_; refine HL_nil ?_; refine HQ_then ?_; refine hK4 _ _ _ _ ?_; clear hK4 K4; refine HC_seq fun K5 hK5 => ?_; refine HC_seq fun K6 hK6 => ?_; refine HC_region ?_; refine HL_r rfl rfl rfl rfl (R_move rfl) ?_; refine HL_r rfl rfl rfl rfl (R_pure rfl rfl rfl) ?_; refine HL_nil ?_; refine HQ_then ?_; refine hK6 _ _ _ _ ?_; clear hK6 K6; refine HC_cond rfl (fun h7 => ?_) (fun h7 => ?_)
  · try exact Bool.noConfusion h7
    try simp only [Z1, Z2, Z3, Z4, Z5, Z6, Z7, Z8, Z9, Z10, Z11, Z12, Z13] at h7
    refine HC_seq fun K8 hK8 => ?_
    refine HC_drawB [] [(1, .pure), (3, .pure), (4, .pure), (5, .pure), (6, .pure), (7, .pure), (8, .turn)] 9 [0, 1, 2, 3, 4, 5, 6, 7, 8] (by kernel_rfl) (by kernel_rfl) (by first | exact (fun _ h => nomatch h) | simp [SubS] | (intro p hp; simp [hp])) ?_; refine HB_r (k := 0) rfl rfl rfl rfl rfl (R_loadArr (xs := a.cells) (n := 8) rfl (known_L (k := 2) rfl) rfl rfl rfl) ?_; refine HB_callP (k := 1) rfl rfl rfl rfl rfl (enters_of Tryz.func66 (by kernel_rfl) rfl) (P_rKey (n := 5) (u64_dec rfl)) ?_; refine HB_callR (k := 2) rfl rfl rfl rfl rfl (enters_of Tryz.func65 (by kernel_rfl) rfl) (S_rSlot ha (keyE 5)) (fun q hq => Or.inr hq) ?_; refine HB_callP (k := 3) rfl rfl rfl rfl rfl (enters_of Tryz.func98 (by kernel_rfl) rfl) (P_runf (slotE a.er (keyE 5))) ?_; refine HB_p (k := 4) rfl rfl rfl rfl rfl (fun _ hS => (R_move rfl)) ?_; refine HB_p (k := 5) rfl rfl rfl rfl rfl (fun _ hS => (R_extract rfl rfl)) ?_; refine HB_p (k := 6) rfl rfl rfl rfl rfl (fun _ hS => (R_extract rfl rfl)) ?_
    refine HB_p (k := 7) rfl rfl rfl rfl rfl (fun _ hS => (R_fieldAddr rfl rfl (by first | (simp only [Nat.zero_add, Nat.reduceAdd, Nat.reduceMul, Nat.zero_mul, Nat.mul_one, Nat.add_zero]; exact rfl) | exact rfl))) ?_; refine HB_storeA (k := 8) (q := 0) (n := 4) (vs := #[_, _, _, _]) (cs' := (Rec.cells ⟨(uW (slotE a.er (keyE 0))).a, (uW (slotE a.er (keyE 0))).b, (uW (slotE a.er (keyE 1))), w40, (uW (slotE a.er (keyE 5))), 0, 0, 0⟩).toArray) rfl rfl rfl rfl rfl rfl rfl rfl rfl (by exact Nat.le_of_ble_eq_true rfl) rfl rfl (fun _ h => nomatch h) ?_; refine HB_end ?_; refine HL_nil ?_; refine HQ_then ?_; refine hK8 _ _ _ _ ?_; clear hK8 K8; refine HC_seq fun K9 hK9 => ?_
    refine HC_drawB [] [(1, .pure), (3, .pure), (4, .pure), (5, .pure), (6, .turn)] 7 [0, 1, 2, 3, 4, 5, 6] (by kernel_rfl) (by kernel_rfl) (by first | exact (fun _ h => nomatch h) | simp [SubS] | (intro p hp; simp [hp])) ?_; refine HB_r (k := 0) rfl rfl rfl rfl rfl (R_loadArr (xs := a.cells) (n := 8) rfl (known_L (k := 2) rfl) rfl rfl rfl) ?_; refine HB_callP (k := 1) rfl rfl rfl rfl rfl (enters_of Tryz.func66 (by kernel_rfl) rfl) (P_rKey (n := 6) (u64_dec rfl)) ?_; refine HB_callR (k := 2) rfl rfl rfl rfl rfl (enters_of Tryz.func65 (by kernel_rfl) rfl) (S_rSlot ha (keyE 6)) (fun q hq => Or.inr hq) ?_; refine HB_p (k := 3) rfl rfl rfl rfl rfl (fun _ _ => (R_sliceBs (kl := some (.i64, 24)) (kh := some (.i64, 32)) (m := 24) (n := 32) rfl rfl rfl rfl rfl rfl (by decide) (by rw [hsl]; decide) rfl)) ?_; refine HB_callP (k := 4) rfl rfl rfl rfl rfl (enters_of Tryz.func97 (by kernel_rfl) rfl) (P_rlow (num8_a (hsl (keyE 6)))) ?_
    refine HB_p (k := 5) rfl rfl rfl rfl rfl (fun _ hS => (R_fieldAddr rfl rfl (by first | (simp only [Nat.zero_add, Nat.reduceAdd, Nat.reduceMul, Nat.zero_mul, Nat.mul_one, Nat.add_zero]; exact rfl) | exact rfl))) ?_; refine HB_store (k := 6) (q := 0) (cs' := (Rec.cells ⟨(uW (slotE a.er (keyE 0))).a, (uW (slotE a.er (keyE 0))).b, (uW (slotE a.er (keyE 1))), w40, (uW (slotE a.er (keyE 5))), (uW (slotE a.er (keyE 6))).a, 0, 0⟩).toArray) rfl rfl rfl rfl rfl rfl rfl rfl rfl rfl rfl (fun _ h => nomatch h) ?_; refine HB_end ?_; refine HL_nil ?_; refine HQ_then ?_; refine hK9 _ _ _ _ ?_; clear hK9 K9; refine HC_seq fun K10 hK10 => ?_; refine HC_region ?_; refine HL_r rfl rfl rfl rfl (R_loadArr (xs := (show Rec from ⟨(uW (slotE a.er (keyE 0))).a, (uW (slotE a.er (keyE 0))).b, (uW (slotE a.er (keyE 1))), w40, (uW (slotE a.er (keyE 5))), (uW (slotE a.er (keyE 6))).a, 0, 0⟩).cells) (n := 17) rfl (known_L (k := 0) rfl) rfl rfl rfl) ?_; refine HL_storeArr (k := 1) (n := 17) (ys := ((show Rec from ⟨(uW (slotE a.er (keyE 0))).a, (uW (slotE a.er (keyE 0))).b, (uW (slotE a.er (keyE 1))), w40, (uW (slotE a.er (keyE 5))), (uW (slotE a.er (keyE 6))).a, 0, 0⟩)).cells) rfl rfl rfl rfl rfl rfl rfl rfl rfl ?_; refine HL_nil ?_; refine HQ_then ?_; refine hK10 _ _ _ _ ?_; clear hK10 K10; refine HC_ret ?_; refine HQ_thenR ?_; clear hK5 K5; refine HQ_post rfl rfl (.cons (res_cellA (vs := [_, _, _, _, _, _, _, _, _, _, _, _, _, _, _, _, _]) rfl (known_L (k := 1) rfl) rfl rfl) .nil) (fun w1 hs1 => ?_); refine ⟨?_, hs1.keep⟩; rw [read_lo (by omega)]; rfl
  · try exact Bool.noConfusion h7
    try simp only [Z1, Z2, Z3, Z4, Z5, Z6, Z7, Z8, Z9, Z10, Z11, Z12, Z13] at h7
    refine HC_skip ?_; refine HQ_then ?_; refine hK5 _ _ _ _ ?_; clear hK5 K5; refine HC_seq fun K11 hK11 => ?_; refine HC_draw 4 (by kernel_rfl) (by kernel_rfl) ?_; refine HD_r rfl rfl rfl (R_loadArr (xs := a.cells) (n := 8) rfl (known_L (k := 2) rfl) rfl rfl rfl) ?_; refine HD_callP rfl rfl rfl (enters_of Tryz.func66 (by kernel_rfl) rfl) (P_rKey (n := 3) (u64_dec rfl)) ?_; refine HD_callR rfl rfl rfl (enters_of Tryz.func65 (by kernel_rfl) rfl) (S_rSlot ha (keyE 3)) (fun q hq => Or.inr hq) ?_; refine HD_r rfl rfl rfl (R_assign rfl) ?_; refine HD_end ?_; refine HL_nil ?_; refine HQ_then ?_; refine hK11 _ _ _ _ ?_; clear hK11 K11; refine HC_seq fun K12 hK12 => ?_; refine HC_region ?_; refine HL_r rfl rfl rfl rfl (R_move rfl) ?_; refine HL_r rfl rfl rfl rfl (R_sliceBs (kl := some (.i64, 24)) (kh := some (.i64, 32)) (m := 24) (n := 32) rfl rfl rfl rfl rfl rfl (by decide) (by rw [hsl]; decide) rfl) ?_; refine HL_callP rfl rfl rfl (enters_of Tryz.func97 (by kernel_rfl) rfl) (P_rlow (num8_a (hsl (keyE 3)))) ?_
    refine HL_r rfl rfl rfl rfl (R_fieldAddr rfl rfl (by first | (simp only [Nat.zero_add, Nat.reduceAdd, Nat.reduceMul, Nat.zero_mul, Nat.mul_one, Nat.add_zero]; exact rfl) | exact rfl)) ?_; refine HL_store (k := 0) (cs' := (Rec.cells ⟨(uW (slotE a.er (keyE 0))).a, (uW (slotE a.er (keyE 0))).b, (uW (slotE a.er (keyE 1))), w40, w40, (uW (slotE a.er (keyE 3))).a, 0, 0⟩).toArray) rfl rfl rfl rfl rfl rfl rfl rfl rfl rfl ?_; refine HL_nil ?_; refine HQ_then ?_; refine hK12 _ _ _ _ ?_; clear hK12 K12; refine HC_seq fun K13 hK13 => ?_; refine HC_region ?_; refine HL_r rfl rfl rfl rfl (R_move rfl) ?_; refine HL_r rfl rfl rfl rfl (R_sliceBs (kl := some (.i64, 16)) (kh := some (.i64, 24)) (m := 16) (n := 24) rfl rfl rfl rfl rfl rfl (by decide) (by rw [hsl]; decide) rfl) ?_; refine HL_callP rfl rfl rfl (enters_of Tryz.func97 (by kernel_rfl) rfl) (P_rlow (num8_b (hsl (keyE 3)))) ?_
    refine HL_r rfl rfl rfl rfl (R_fieldAddr rfl rfl (by first | (simp only [Nat.zero_add, Nat.reduceAdd, Nat.reduceMul, Nat.zero_mul, Nat.mul_one, Nat.add_zero]; exact rfl) | exact rfl)) ?_; refine HL_store (k := 0) (cs' := (Rec.cells ⟨(uW (slotE a.er (keyE 0))).a, (uW (slotE a.er (keyE 0))).b, (uW (slotE a.er (keyE 1))), w40, w40, (uW (slotE a.er (keyE 3))).a, (uW (slotE a.er (keyE 3))).b, 0⟩).toArray) rfl rfl rfl rfl rfl rfl rfl rfl rfl rfl ?_; refine HL_nil ?_; refine HQ_then ?_; refine hK13 _ _ _ _ ?_; clear hK13 K13; refine HC_seq fun K14 hK14 => ?_
    refine HC_drawB [] [(1, .pure), (3, .pure), (4, .pure), (5, .pure), (6, .pure), (7, .pure), (8, .turn)] 9 [0, 1, 2, 3, 4, 5, 6, 7, 8] (by kernel_rfl) (by kernel_rfl) (by first | exact (fun _ h => nomatch h) | simp [SubS] | (intro p hp; simp [hp])) ?_; refine HB_r (k := 0) rfl rfl rfl rfl rfl (R_loadArr (xs := a.cells) (n := 8) rfl (known_L (k := 2) rfl) rfl rfl rfl) ?_; refine HB_callP (k := 1) rfl rfl rfl rfl rfl (enters_of Tryz.func66 (by kernel_rfl) rfl) (P_rKey (n := 7) (u64_dec rfl)) ?_; refine HB_callR (k := 2) rfl rfl rfl rfl rfl (enters_of Tryz.func65 (by kernel_rfl) rfl) (S_rSlot ha (keyE 7)) (fun q hq => Or.inr hq) ?_; refine HB_callP (k := 3) rfl rfl rfl rfl rfl (enters_of Tryz.func98 (by kernel_rfl) rfl) (P_runf (slotE a.er (keyE 7))) ?_; refine HB_p (k := 4) rfl rfl rfl rfl rfl (fun _ hS => (R_move rfl)) ?_; refine HB_p (k := 5) rfl rfl rfl rfl rfl (fun _ hS => (R_extract rfl rfl)) ?_; refine HB_p (k := 6) rfl rfl rfl rfl rfl (fun _ hS => (R_extract rfl rfl)) ?_
    refine HB_p (k := 7) rfl rfl rfl rfl rfl (fun _ hS => (R_fieldAddr rfl rfl (by first | (simp only [Nat.zero_add, Nat.reduceAdd, Nat.reduceMul, Nat.zero_mul, Nat.mul_one, Nat.add_zero]; exact rfl) | exact rfl))) ?_; refine HB_storeA (k := 8) (q := 0) (n := 4) (vs := #[_, _, _, _]) (cs' := (Rec.cells ⟨(uW (slotE a.er (keyE 0))).a, (uW (slotE a.er (keyE 0))).b, (uW (slotE a.er (keyE 1))), (uW (slotE a.er (keyE 7))), w40, (uW (slotE a.er (keyE 3))).a, (uW (slotE a.er (keyE 3))).b, 0⟩).toArray) rfl rfl rfl rfl rfl rfl rfl rfl rfl (by exact Nat.le_of_ble_eq_true rfl) rfl rfl (fun _ h => nomatch h) ?_; refine HB_end ?_; refine HL_nil ?_; refine HQ_then ?_; refine hK14 _ _ _ _ ?_; clear hK14 K14; refine HC_seq fun K15 hK15 => ?_; refine HC_seq fun K16 hK16 => ?_; refine HC_region ?_; refine HL_r rfl rfl rfl rfl (R_move rfl) ?_; refine HL_r rfl rfl rfl rfl (R_pure rfl rfl rfl) ?_; refine HL_nil ?_; refine HQ_then ?_; refine hK16 _ _ _ _ ?_; clear hK16 K16; refine HC_cond rfl (fun h17 => ?_) (fun h17 => ?_)
    · try exact Bool.noConfusion h17
      try simp only [Z1, Z2, Z3, Z4, Z5, Z6, Z7, Z8, Z9, Z10, Z11, Z12, Z13] at h17
      refine HC_drawB [] [(1, .pure), (3, .pure), (4, .pure), (5, .pure), (6, .turn)] 7 [0, 1, 2, 3, 4, 5, 6] (by kernel_rfl) (by kernel_rfl) (by first | exact (fun _ h => nomatch h) | simp [SubS] | (intro p hp; simp [hp])) ?_; refine HB_r (k := 0) rfl rfl rfl rfl rfl (R_loadArr (xs := a.cells) (n := 8) rfl (known_L (k := 2) rfl) rfl rfl rfl) ?_; refine HB_callP (k := 1) rfl rfl rfl rfl rfl (enters_of Tryz.func66 (by kernel_rfl) rfl) (P_rKey (n := 8) (u64_dec rfl)) ?_; refine HB_callR (k := 2) rfl rfl rfl rfl rfl (enters_of Tryz.func65 (by kernel_rfl) rfl) (S_rSlot ha (keyE 8)) (fun q hq => Or.inr hq) ?_; refine HB_p (k := 3) rfl rfl rfl rfl rfl (fun _ _ => (R_sliceBs (kl := some (.i64, 24)) (kh := some (.i64, 32)) (m := 24) (n := 32) rfl rfl rfl rfl rfl rfl (by decide) (by rw [hsl]; decide) rfl)) ?_; refine HB_callP (k := 4) rfl rfl rfl rfl rfl (enters_of Tryz.func97 (by kernel_rfl) rfl) (P_rlow (num8_a (hsl (keyE 8)))) ?_
      refine HB_p (k := 5) rfl rfl rfl rfl rfl (fun _ hS => (R_fieldAddr rfl rfl (by first | (simp only [Nat.zero_add, Nat.reduceAdd, Nat.reduceMul, Nat.zero_mul, Nat.mul_one, Nat.add_zero]; exact rfl) | exact rfl))) ?_; refine HB_store (k := 6) (q := 0) (cs' := (Rec.cells ⟨(uW (slotE a.er (keyE 0))).a, (uW (slotE a.er (keyE 0))).b, (uW (slotE a.er (keyE 1))), (uW (slotE a.er (keyE 7))), w40, (uW (slotE a.er (keyE 3))).a, (uW (slotE a.er (keyE 3))).b, (uW (slotE a.er (keyE 8))).a⟩).toArray) rfl rfl rfl rfl rfl rfl rfl rfl rfl rfl rfl (fun _ h => nomatch h) ?_; refine HB_end ?_; refine HL_nil ?_; refine HQ_then ?_; refine hK15 _ _ _ _ ?_; clear hK15 K15; refine HC_seq fun K18 hK18 => ?_; refine HC_region ?_
      first | refine HL_r rfl rfl rfl rfl (R_loadArr (xs := (show Rec from ⟨(uW (slotE a.er (keyE 0))).a, (uW (slotE a.er (keyE 0))).b, (uW (slotE a.er (keyE 1))), (uW (slotE a.er (keyE 7))), w40, (uW (slotE a.er (keyE 3))).a, (uW (slotE a.er (keyE 3))).b, (uW (slotE a.er (keyE 8))).a⟩).cells) (n := 17) rfl (known_L (k := 0) rfl) rfl rfl rfl) ?_ | refine HL_r rfl rfl rfl rfl (R_loadArr (xs := (show Rec from ⟨(uW (slotE a.er (keyE 0))).a, (uW (slotE a.er (keyE 0))).b, (uW (slotE a.er (keyE 1))), (uW (slotE a.er (keyE 7))), w40, (uW (slotE a.er (keyE 3))).a, (uW (slotE a.er (keyE 3))).b, 0⟩).cells) (n := 17) rfl (known_L (k := 0) rfl) rfl rfl rfl) ?_
      first | refine HL_storeArr (k := 1) (n := 17) (ys := ((show Rec from ⟨(uW (slotE a.er (keyE 0))).a, (uW (slotE a.er (keyE 0))).b, (uW (slotE a.er (keyE 1))), (uW (slotE a.er (keyE 7))), w40, (uW (slotE a.er (keyE 3))).a, (uW (slotE a.er (keyE 3))).b, (uW (slotE a.er (keyE 8))).a⟩)).cells) rfl rfl rfl rfl rfl rfl rfl rfl rfl ?_ | refine HL_storeArr (k := 1) (n := 17) (ys := ((show Rec from ⟨(uW (slotE a.er (keyE 0))).a, (uW (slotE a.er (keyE 0))).b, (uW (slotE a.er (keyE 1))), (uW (slotE a.er (keyE 7))), w40, (uW (slotE a.er (keyE 3))).a, (uW (slotE a.er (keyE 3))).b, 0⟩)).cells) rfl rfl rfl rfl rfl rfl rfl rfl rfl ?_
      refine HL_nil ?_; refine HQ_then ?_; refine hK18 _ _ _ _ ?_; clear hK18 K18; refine HC_ret ?_; refine HQ_post rfl rfl (.cons (res_cellA (vs := [_, _, _, _, _, _, _, _, _, _, _, _, _, _, _, _, _]) rfl (known_L (k := 1) rfl) rfl rfl) .nil) (fun w1 hs1 => ?_); refine ⟨?_, hs1.keep⟩; rw [read_hi (by omega)]; rfl
    · try exact Bool.noConfusion h17
      try simp only [Z1, Z2, Z3, Z4, Z5, Z6, Z7, Z8, Z9, Z10, Z11, Z12, Z13] at h17
      refine HC_skip ?_; refine HQ_then ?_; refine hK15 _ _ _ _ ?_; clear hK15 K15; refine HC_seq fun K19 hK19 => ?_; refine HC_region ?_
      first | refine HL_r rfl rfl rfl rfl (R_loadArr (xs := (show Rec from ⟨(uW (slotE a.er (keyE 0))).a, (uW (slotE a.er (keyE 0))).b, (uW (slotE a.er (keyE 1))), (uW (slotE a.er (keyE 7))), w40, (uW (slotE a.er (keyE 3))).a, (uW (slotE a.er (keyE 3))).b, (uW (slotE a.er (keyE 8))).a⟩).cells) (n := 17) rfl (known_L (k := 0) rfl) rfl rfl rfl) ?_ | refine HL_r rfl rfl rfl rfl (R_loadArr (xs := (show Rec from ⟨(uW (slotE a.er (keyE 0))).a, (uW (slotE a.er (keyE 0))).b, (uW (slotE a.er (keyE 1))), (uW (slotE a.er (keyE 7))), w40, (uW (slotE a.er (keyE 3))).a, (uW (slotE a.er (keyE 3))).b, 0⟩).cells) (n := 17) rfl (known_L (k := 0) rfl) rfl rfl rfl) ?_
      first | refine HL_storeArr (k := 1) (n := 17) (ys := ((show Rec from ⟨(uW (slotE a.er (keyE 0))).a, (uW (slotE a.er (keyE 0))).b, (uW (slotE a.er (keyE 1))), (uW (slotE a.er (keyE 7))), w40, (uW (slotE a.er (keyE 3))).a, (uW (slotE a.er (keyE 3))).b, (uW (slotE a.er (keyE 8))).a⟩)).cells) rfl rfl rfl rfl rfl rfl rfl rfl rfl ?_ | refine HL_storeArr (k := 1) (n := 17) (ys := ((show Rec from ⟨(uW (slotE a.er (keyE 0))).a, (uW (slotE a.er (keyE 0))).b, (uW (slotE a.er (keyE 1))), (uW (slotE a.er (keyE 7))), w40, (uW (slotE a.er (keyE 3))).a, (uW (slotE a.er (keyE 3))).b, 0⟩)).cells) rfl rfl rfl rfl rfl rfl rfl rfl rfl ?_
      refine HL_nil ?_; refine HQ_then ?_; refine hK19 _ _ _ _ ?_; clear hK19 K19; refine HC_ret ?_; refine HQ_post rfl rfl (.cons (res_cellA (vs := [_, _, _, _, _, _, _, _, _, _, _, _, _, _, _, _, _]) rfl (known_L (k := 1) rfl) rfl rfl) .nil) (fun w1 hs1 => ?_); refine ⟨?_, hs1.keep⟩; rw [read_mid (by omega)]; rfl
def wrG (f : Int) (s : List AcE) : Nat → Bool
  | 0 => false
  | i + 1 => wrG f s i || wrongE f s i
theorem wrG_succ (f : Int) (s : StL) (i : Nat) : wrG f s.er (i + 1) = (wrG f s.er i || ((codeE f i).2 && !decide ((findL s (addrE i)).code = (codeE f i).1))) := by
  rw [← wrong_er]; rfl
theorem checkG_in {f : Int} (hf : Forked f) (s : StL) : checkE f s.er = if chkS s.er ≠ 0 then chkS s.er else if lackE f s.er (0 : Nat) = true ∨ lackE f s.er (1 : Nat) = true then 12 else if wrG f s.er 2 = true then 2 else if tableB f (findL s A0).er (readE f (findL s A0).er) tab = true then 0 else 8 := by
  unfold checkE
  rw [if_neg (by simpa using hf), find_er]
  have e : (wrG f s.er 2 = true) = ((wrongE f s.er 0 || wrongE f s.er 1) = true) := by
    have e2 : wrG f s.er 2 = (wrongE f s.er 0 || wrongE f s.er 1) := by
      show ((false || wrongE f s.er 0) || wrongE f s.er 1) = _
      rw [Bool.false_or]
    rw [e2]
  simp only [e, Bool.or_eq_true]
  rfl
theorem slot_len {a : AcE} (h : a.slots.any oddS = false) (k : BS) : (slotE a k).length = 32 := by
  show (match lookL Prod.fst k a.slots with | some x => x.2 | none => noneB).length = 32
  cases hx : lookL Prod.fst k a.slots with
  | none => rfl
  | some x =>
    have hm := List.mem_of_find?_eq_some hx
    have := List.any_eq_false.1 h x hm
    unfold oddS at this
    simp at this; exact this.2
theorem found_len {s : StL} (h : chkS s.er = 0) (k : BS) (q : BS) : (slotE (findL s k).er q).length = 32 := by
  refine slot_len ?_ q
  unfold findL
  cases hx : s.accts.find? fun a => decide (a.addr = k) with
  | none => rfl
  | some a =>
    have hm := List.mem_of_find?_eq_some hx
    have h2 := (look_ok ((chk_ok.1 h).2.1 a.er (List.mem_map.2 ⟨a, hm, rfl⟩))).2.1
    rw [List.any_eq_false]; intro x hx
    have := h2 x hx
    unfold oddS
    simp [this.1, this.2.1]
theorem keys_nth {j : Nat} (h : j < 7) : nth keysC.toArray.toList j = some (uV (keyN j)) := by
  have : j = 0 ∨ j = 1 ∨ j = 2 ∨ j = 3 ∨ j = 4 ∨ j = 5 ∨ j = 6 := by omega
  rcases this with rfl | rfl | rfl | rfl | rfl | rfl | rfl <;> rfl
set_option maxHeartbeats 1000000 in
set_option maxRecDepth 10000 in
theorem S_rlCheck {R : List (Nat × Obj)} (f : Int) {s : StL} (hs : s.In R) : PureR Tryz.prog 24 [.int .i64 f, s.val].toArray (.int .i64 (checkE f s.er)) R := by
  by_cases hf : Forked f
  · have hc := S_rCheck hs
    have hE := checkG_in hf s
    have hA := find_in hs A0
    rw [hE]; refine pureR_of_HC Tryz.func24 rfl rfl fun w => ?_; refine HC_seq fun K1 hK1 => ?_; refine HC_region ?_; refine HL_box (cs := s.cells.toArray) rfl rfl rfl rfl fun rb => ?_; refine HL_r rfl rfl rfl rfl (R_assign rfl) ?_; refine HL_nil ?_; refine HQ_then ?_; refine hK1 _ _ _ _ ?_; clear hK1 K1; refine HC_seq fun K2 hK2 => ?_; refine HC_seq fun K3 hK3 => ?_; refine HC_region ?_; refine HL_r rfl rfl rfl rfl (R_move rfl) ?_; refine HL_callP rfl rfl rfl (enters_of Tryz.func57 (by kernel_rfl) rfl) (P_rForked f) ?_; refine HL_r rfl rfl rfl rfl (R_pure rfl rfl rfl) ?_; refine HL_nil ?_; refine HQ_then ?_; refine hK3 _ _ _ _ ?_; clear hK3 K3; refine HC_cond rfl (fun h4 => ?_) (fun h4 => ?_)
    · try exact Bool.noConfusion h4
      try simp only [Z1, Z2, Z3, Z4, Z5, Z6, Z7, Z8, Z9, Z10, Z11, Z12, Z13] at h4
      refine HC_seq fun K5 hK5 => ?_; refine HC_region ?_; refine HL_r rfl rfl rfl rfl (R_assign rfl) ?_; refine HL_nil ?_; refine HQ_then ?_; refine hK5 _ _ _ _ ?_; clear hK5 K5; refine HC_ret ?_; refine HQ_thenR ?_; clear hK2 K2; refine HQ_post rfl rfl (.cons (res_tmp rfl) .nil) (fun w1 hs1 => ?_); refine ⟨?_, hs1.keep⟩
      exfalso; contradiction
    · try exact Bool.noConfusion h4
      try simp only [Z1, Z2, Z3, Z4, Z5, Z6, Z7, Z8, Z9, Z10, Z11, Z12, Z13] at h4
      refine HC_skip ?_; refine HQ_then ?_; refine hK2 _ _ _ _ ?_; clear hK2 K2; refine HC_seq fun K6 hK6 => ?_; refine HC_region ?_; refine HL_r rfl rfl rfl rfl (R_loadArr (xs := s.cells) (n := 1) rfl (known_L (k := 0) rfl) rfl rfl rfl) ?_; refine HL_callR rfl rfl rfl (enters_of Tryz.func52 (by kernel_rfl) rfl) hc (fun q hq => Or.inr hq) ?_; refine HL_r rfl rfl rfl rfl (R_assign rfl) ?_; refine HL_nil ?_; refine HQ_then ?_; refine hK6 _ _ _ _ ?_; clear hK6 K6; refine HC_seq fun K7 hK7 => ?_; refine HC_seq fun K8 hK8 => ?_; refine HC_region ?_; refine HL_r rfl rfl rfl rfl (R_move rfl) ?_; refine HL_r rfl rfl rfl rfl (R_pure rfl rfl rfl) ?_; refine HL_nil ?_; refine HQ_then ?_; refine hK8 _ _ _ _ ?_; clear hK8 K8; refine HC_cond rfl (fun h9 => ?_) (fun h9 => ?_)
      · try exact Bool.noConfusion h9
        try simp only [Z1, Z2, Z3, Z4, Z5, Z6, Z7, Z8, Z9, Z10, Z11, Z12, Z13] at h9
        refine HC_seq fun K10 hK10 => ?_; refine HC_region ?_; refine HL_r rfl rfl rfl rfl (R_move rfl) ?_; refine HL_r rfl rfl rfl rfl (R_assign rfl) ?_; refine HL_nil ?_; refine HQ_then ?_; refine hK10 _ _ _ _ ?_; clear hK10 K10; refine HC_ret ?_; refine HQ_thenR ?_; clear hK7 K7; refine HQ_post rfl rfl (.cons (res_tmp rfl) .nil) (fun w1 hs1 => ?_); refine ⟨?_, hs1.keep⟩; rw [if_pos (by omega)]; rfl
      · try exact Bool.noConfusion h9
        try simp only [Z1, Z2, Z3, Z4, Z5, Z6, Z7, Z8, Z9, Z10, Z11, Z12, Z13] at h9
        refine HC_skip ?_; refine HQ_then ?_; refine hK7 _ _ _ _ ?_; clear hK7 K7; refine HC_seq fun K11 hK11 => ?_; refine HC_region ?_; refine HL_r rfl rfl rfl rfl (R_assign rfl) ?_; refine HL_nil ?_; refine HQ_then ?_; refine hK11 _ _ _ _ ?_; clear hK11 K11; refine HC_seq fun K12 hK12 => ?_; refine HC_seq fun K13 hK13 => ?_; refine HC_region ?_; refine HL_r rfl rfl rfl rfl (R_assign rfl) ?_; refine HL_nil ?_; refine HQ_then ?_; refine hK13 _ _ _ _ ?_; clear hK13 K13; refine HC_block ?_
        have hc0 : chkS s.er = 0 := by omega
        refine HC_loop (σ := Nat) (fun i => i ≤ 2 ∧ ∀ j, j < i → lackE f s.er (j : Nat) = false) (fun i => [(0, .int .i64 f), (3, ptV rb 0), (6, .bool (wrG f s.er i)), (7, .int .i64 (i : Int))]) (fun _ => [(rb, .cells s.cells.toArray 24 (0, 0))]) (fun _ _ _ => True) (fun i => 2 - i) 0 ⟨by omega, fun j hj => absurd hj (by omega)⟩ (.cons rfl (.cons rfl (.cons rfl (.cons rfl .nil)))) (List.Sublist.refl _) (fun _ _ h => h) ?_; rintro i ⟨hi2, hinv⟩; refine HC_seq fun K14 hK14 => ?_; refine HC_seq fun K15 hK15 => ?_; refine HC_region ?_; refine HL_r rfl rfl rfl rfl (R_move rfl) ?_; refine HL_r rfl rfl rfl rfl (R_pure rfl rfl rfl) ?_; refine HL_nil ?_; refine HQ_then ?_; refine hK15 _ _ _ _ ?_; clear hK15 K15; refine HC_cond rfl (fun h16 => ?_) (fun h16 => ?_)
        · try exact Bool.noConfusion h16
          try simp only [Z1, Z2, Z3, Z4, Z5, Z6, Z7, Z8, Z9, Z10, Z11, Z12, Z13] at h16
          refine HC_skip ?_; refine HQ_then ?_; refine hK14 _ _ _ _ ?_; clear hK14 K14; refine HC_seq fun K17 hK17 => ?_; refine HC_block ?_; refine HC_seq fun K18 hK18 => ?_
          have hi : i < 2 := by omega
          refine HC_region ?_; refine HL_r rfl rfl rfl rfl (R_move rfl) ?_; refine HL_r rfl rfl rfl rfl (R_move rfl) ?_; refine HL_callP rfl rfl rfl (enters_of Tryz.func53 (by kernel_rfl) rfl) (P_rcode f i) ?_; refine HL_r rfl rfl rfl rfl (R_move rfl) ?_; refine HL_r rfl rfl rfl rfl (R_extract rfl rfl) ?_; refine HL_r rfl rfl rfl rfl (R_extract rfl rfl) ?_; refine HL_r rfl rfl rfl rfl (R_assign rfl) ?_; refine HL_r rfl rfl rfl rfl (R_assign rfl) ?_; refine HL_nil ?_; refine HQ_then ?_; refine hK18 _ _ _ _ ?_; clear hK18 K18; refine HC_seq fun K19 hK19 => ?_
          refine HC_drawB [] [(1, .pure), (2, .pure), (4, .pure), (5, .pure), (6, .pure), (7, .grow (geNew ptrV (.cells #[.string ⟨#[]⟩, .int .u64 0, .int .u64 0, .int .u64 0, .int .u64 0, .int .u64 0, .string ⟨#[]⟩, .slice none 0 0] 55 (0, 0)))), (8, .turn), (9, .pure)] 10 [0, 1, 2, 3, 4, 5, 6, 7, 8, 9] (by kernel_rfl) (by kernel_rfl) (by first | exact (fun _ h => nomatch h) | simp [SubS] | (intro p hp; simp [hp])) ?_; refine HB_r (k := 0) rfl rfl rfl rfl rfl (R_loadArr (xs := s.cells) (n := 1) rfl (known_L (k := 0) rfl) rfl rfl rfl) ?_; refine HB_p (k := 1) rfl rfl rfl rfl rfl (fun _ hS => (R_move rfl)) ?_; refine HB_callP (k := 2) rfl rfl rfl rfl rfl (enters_of Tryz.func21 (by kernel_rfl) rfl) (P_rAddr i) ?_; refine HB_callR (k := 3) rfl rfl rfl rfl rfl (enters_of Tryz.func54 (by kernel_rfl) rfl) (S_rFind hs (addrE i)) (fun q hq => Or.inr hq) ?_; refine HB_p (k := 4) rfl rfl rfl rfl rfl (fun _ hS => (R_move rfl)) ?_; refine HB_p (k := 5) rfl rfl rfl rfl rfl (fun _ hS => (R_extract rfl rfl)) ?_; refine HB_p (k := 6) rfl rfl rfl rfl rfl (fun _ hS => (R_extract rfl rfl)) ?_; refine HB_alloc (k := 7) (cs := #[_, _, _, _, _, _, _, _]) rfl rfl rfl rfl rfl rfl fun r1 => ?_; refine HB_storeArr (k := 8) (q := 0) (n := 8) (ys := (findL s (addrE i)).cells) rfl rfl rfl rfl rfl rfl rfl rfl rfl rfl rfl (fun _ h => nomatch h) ?_; refine HB_p (k := 9) rfl rfl rfl rfl rfl (fun _ hS => (R_assign rfl)) ?_; refine HB_end ?_; refine HL_nil ?_; refine HQ_then ?_; refine hK19 _ _ _ _ ?_; clear hK19 K19; refine HC_seq fun K20 hK20 => ?_; refine HC_seq fun K21 hK21 => ?_; refine HC_region ?_; refine HL_r rfl rfl rfl rfl (R_move rfl) ?_; refine HL_r rfl rfl rfl rfl (R_move rfl) ?_
          refine HL_case 44 rfl (fun hb22 => ?_) (fun hb22 => ?_) <;> (try simp only [Z1, Z2, Z3, Z4, Z5, Z6, Z7, Z8, Z9, Z10, Z11, Z12, Z13] at hb22) <;> first | (refine HL_r rfl rfl rfl rfl (R_move rfl) ?_) | (refine HL_skip rfl rfl rfl ?_)
          all_goals first
            | (refine HL_r rfl rfl rfl rfl (R_pure rfl rfl rfl) ?_)
            | (refine HL_skip rfl rfl rfl ?_)
          all_goals first
            | (refine HL_r rfl rfl rfl rfl (R_pickT rfl rfl) ?_)
            | (refine HL_r rfl rfl rfl rfl (R_pickF rfl rfl) ?_)
          all_goals refine HL_nil ?_
          all_goals (
           refine HQ_then ?_; refine hK21 _ _ _ _ ?_; clear hK21 K21; refine HC_cond rfl (fun h24 => ?_) (fun h24 => ?_)
           · try exact Bool.noConfusion h24
             all_goals try simp only [Z1, Z2, Z3, Z4, Z5, Z6, Z7, Z8, Z9, Z10, Z11, Z12, Z13] at h24
             all_goals (
              refine HC_seq fun K25 hK25 => ?_
              have hlk : lackE f s.er i = true := by rw [lack_er]; simp_all
              refine HC_region ?_; refine HL_r rfl rfl rfl rfl (R_assign rfl) ?_; refine HL_nil ?_; refine HQ_then ?_; refine hK25 _ _ _ _ ?_; clear hK25 K25; refine HC_ret ?_; refine HQ_thenR ?_; clear hK20 K20; refine HQ_blockR ?_; refine HQ_thenR ?_; clear hK17 K17; refine HQ_thenR ?_; refine HQ_blockR ?_; refine HQ_thenR ?_; clear hK12 K12; refine HQ_post rfl rfl (.cons (res_tmp rfl) .nil) (fun w1 hs1 => ?_); refine ⟨?_, hs1.keep⟩
              (rw [if_neg (by omega), if_pos (by have h01 : i = 0 ∨ i = 1 := by omega
                                                 rcases h01 with rfl | rfl
                                                 · exact Or.inl hlk
                                                 · exact Or.inr hlk)]; rfl)
              skip)
           · try exact Bool.noConfusion h24
             try simp only [Z1, Z2, Z3, Z4, Z5, Z6, Z7, Z8, Z9, Z10, Z11, Z12, Z13] at h24
             refine HC_skip ?_; refine HQ_then ?_; refine hK20 _ _ _ _ ?_; clear hK20 K20
             have hlk : lackE f s.er i = false := by rw [lack_er]; simp_all
             refine HC_region ?_; refine HL_r rfl rfl rfl rfl (R_move rfl) ?_; refine HL_r rfl rfl rfl rfl (R_move rfl) ?_
             refine HL_case 49 rfl (fun hb26 => ?_) (fun hb26 => ?_) <;> (try simp only [Z1, Z2, Z3, Z4, Z5, Z6, Z7, Z8, Z9, Z10, Z11, Z12, Z13] at hb26) <;> first | (refine HL_r rfl rfl rfl rfl (R_move rfl) ?_) | (refine HL_skip rfl rfl rfl ?_)
             all_goals first
               | (refine HL_r rfl rfl rfl rfl (R_move rfl) ?_)
               | (refine HL_skip rfl rfl rfl ?_)
             all_goals first
               | (refine HL_skip rfl rfl rfl ?_)
               | (refine HL_case 51 rfl (fun hb28 => ?_) (fun hb28 => ?_) <;> (try simp only [Z1, Z2, Z3, Z4, Z5, Z6, Z7, Z8, Z9, Z10, Z11, Z12, Z13] at hb28) <;> first | (refine HL_r rfl rfl rfl rfl (R_fieldAddr rfl rfl (by first | (simp only [Nat.zero_add, Nat.reduceAdd, Nat.reduceMul, Nat.zero_mul, Nat.mul_one, Nat.add_zero]; exact rfl) | exact rfl)) ?_) | (refine HL_skip rfl rfl rfl ?_))
             all_goals first
               | (refine HL_r rfl rfl rfl rfl (R_load rfl (known_L (k := 0) rfl) rfl rfl) ?_)
               | (refine HL_skip rfl rfl rfl ?_)
             all_goals first
               | (refine HL_r rfl rfl rfl rfl (R_move rfl) ?_)
               | (refine HL_skip rfl rfl rfl ?_)
             all_goals first
               | (refine HL_r rfl rfl rfl rfl (R_strNe rfl rfl) ?_)
               | (refine HL_skip rfl rfl rfl ?_)
             all_goals first
               | (refine HL_r rfl rfl rfl rfl (R_pickT rfl rfl) ?_)
               | (refine HL_r rfl rfl rfl rfl (R_pickF rfl rfl) ?_)
               | (refine HL_skip rfl rfl rfl ?_)
             all_goals first
               | (refine HL_r rfl rfl rfl rfl (R_pickT rfl rfl) ?_)
               | (refine HL_r rfl rfl rfl rfl (R_pickF rfl rfl) ?_)
             all_goals refine HL_r rfl rfl rfl rfl (R_assign rfl) ?_
             all_goals refine HL_as (as_bool (show _ = wrG f s.er (i + 1) from by rw [wrG_succ]; simp_all)) ?_
             all_goals refine HL_nil ?_
             all_goals (
              refine HQ_blockN ?_; refine HQ_then ?_; refine hK17 _ _ _ _ ?_; clear hK17 K17; refine HC_region ?_; refine HL_r rfl rfl rfl rfl (R_move rfl) ?_; refine HL_r rfl rfl rfl rfl (R_pure rfl rfl rfl) ?_; refine HL_wrap_i64 (by omega) (by omega) ?_; refine HL_r rfl rfl rfl rfl (R_assign rfl) ?_; refine HL_nil ?_; refine HQ_then ?_; refine HQ_again (i + 1) ⟨by omega, fun j hj => ?_⟩ (by omega) (.cons rfl (.cons rfl (.cons rfl (.cons rfl .nil)))) (List.sublist_cons_self _ _) (fun _ _ h => h)
              rcases Nat.lt_succ_iff_lt_or_eq.1 hj with hj | rfl
              · exact hinv j hj
              · exact hlk
              skip)
           skip)
        · try exact Bool.noConfusion h16
          try simp only [Z1, Z2, Z3, Z4, Z5, Z6, Z7, Z8, Z9, Z10, Z11, Z12, Z13] at h16
          refine HC_exit ?_; refine HQ_thenE ?_; clear hK14 K14; refine HQ_thenE ?_; refine HQ_blockE ?_; refine HQ_then ?_; refine hK12 _ _ _ _ ?_; clear hK12 K12; refine HC_seq fun K33 hK33 => ?_; refine HC_seq fun K34 hK34 => ?_
          obtain rfl : i = 2 := by omega
          have hnl : ¬ (lackE f s.er (0 : Nat) = true ∨ lackE f s.er (1 : Nat) = true) := fun h => h.elim (fun h => by rw [hinv 0 (by decide)] at h; cases h) (fun h => by rw [hinv 1 (by decide)] at h; cases h)
          refine HC_region ?_; refine HL_r rfl rfl rfl rfl (R_move rfl) ?_; refine HL_nil ?_; refine HQ_then ?_; refine hK34 _ _ _ _ ?_; clear hK34 K34; refine HC_cond rfl (fun h35 => ?_) (fun h35 => ?_)
          · try exact Bool.noConfusion h35
            try simp only [Z1, Z2, Z3, Z4, Z5, Z6, Z7, Z8, Z9, Z10, Z11, Z12, Z13] at h35
            refine HC_seq fun K36 hK36 => ?_; refine HC_region ?_; refine HL_r rfl rfl rfl rfl (R_assign rfl) ?_; refine HL_nil ?_; refine HQ_then ?_; refine hK36 _ _ _ _ ?_; clear hK36 K36; refine HC_ret ?_; refine HQ_thenR ?_; clear hK33 K33; refine HQ_post rfl rfl (.cons (res_tmp rfl) .nil) (fun w1 hs1 => ?_); refine ⟨?_, hs1.keep⟩; rw [if_neg (by omega), if_neg hnl, if_pos (by assumption)]; rfl
          · try exact Bool.noConfusion h35
            try simp only [Z1, Z2, Z3, Z4, Z5, Z6, Z7, Z8, Z9, Z10, Z11, Z12, Z13] at h35
            refine HC_skip ?_; refine HQ_then ?_; refine hK33 _ _ _ _ ?_; clear hK33 K33; refine HC_seq fun K37 hK37 => ?_
            refine HC_drawB [] [(1, .pure), (3, .pure), (4, .pure), (5, .pure), (6, .grow (geNew ptrV (.cells #[.string ⟨#[]⟩, .int .u64 0, .int .u64 0, .int .u64 0, .int .u64 0, .int .u64 0, .string ⟨#[]⟩, .slice none 0 0] 55 (0, 0)))), (7, .turn), (8, .pure)] 9 [0, 1, 2, 3, 4, 5, 6, 7, 8] (by kernel_rfl) (by kernel_rfl) (by first | exact (fun _ h => nomatch h) | simp [SubS] | (intro p hp; simp [hp])) ?_; refine HB_r (k := 0) rfl rfl rfl rfl rfl (R_loadArr (xs := s.cells) (n := 1) rfl (known_L (k := 0) rfl) rfl rfl rfl) ?_; refine HB_callP (k := 1) rfl rfl rfl rfl rfl (enters_of Tryz.func21 (by kernel_rfl) rfl) (P_rAddr 0) ?_; refine HB_callR (k := 2) rfl rfl rfl rfl rfl (enters_of Tryz.func54 (by kernel_rfl) rfl) (S_rFind hs A0) (fun q hq => Or.inr hq) ?_; refine HB_p (k := 3) rfl rfl rfl rfl rfl (fun _ hS => (R_move rfl)) ?_; refine HB_p (k := 4) rfl rfl rfl rfl rfl (fun _ hS => (R_extract rfl rfl)) ?_; refine HB_p (k := 5) rfl rfl rfl rfl rfl (fun _ hS => (R_extract rfl rfl)) ?_; refine HB_alloc (k := 6) (cs := #[_, _, _, _, _, _, _, _]) rfl rfl rfl rfl rfl rfl fun r2 => ?_; refine HB_storeArr (k := 7) (q := 0) (n := 8) (ys := (findL s A0).cells) rfl rfl rfl rfl rfl rfl rfl rfl rfl rfl rfl (fun _ h => nomatch h) ?_; refine HB_p (k := 8) rfl rfl rfl rfl rfl (fun _ hS => (R_assign rfl)) ?_; refine HB_end ?_; refine HL_nil ?_; refine HQ_then ?_; refine hK37 _ _ _ _ ?_; clear hK37 K37; refine HC_seq fun K38 hK38 => ?_; refine HC_region ?_; refine HL_callPE rfl rfl rfl (enters_of Tryz.func60 (by kernel_rfl) rfl) E_rkeys fun rk => ?_; refine HL_r rfl rfl rfl rfl (R_assign rfl) ?_; refine HL_nil ?_; refine HQ_then ?_; refine hK38 _ _ _ _ ?_; clear hK38 K38; refine HC_seq fun K39 hK39 => ?_; refine HC_seq fun K40 hK40 => ?_; refine HC_region ?_; refine HL_r rfl rfl rfl rfl (R_assign rfl) ?_; refine HL_nil ?_; refine HQ_then ?_; refine hK40 _ _ _ _ ?_; clear hK40 K40; refine HC_block ?_; refine HC_loop (σ := Nat) (fun i => i ≤ 7 ∧ ∀ j, j < i → slotE (findL s A0).er (keyE (keyN j)) = (rowW f (readE f (findL s A0).er) j).2) (fun i => [(0, .int .i64 f), (12, ptV r2 0), (14, .slice (some ⟨rk, 0, none⟩) 7 7), (15, .int .i64 (i : Int))]) (fun _ => [(rk, .cells keysC.toArray 25 (0, 0)), (r2, .cells (findL s A0).cells.toArray 55 (0, 0))]) (fun _ _ _ => True) (fun i => 7 - i) 0 ⟨Nat.zero_le _, fun j hj => absurd hj (by omega)⟩ (.cons rfl (.cons rfl (.cons rfl (.cons rfl .nil)))) (.cons_cons _ (.cons_cons _ (List.nil_sublist _))) (fun _ _ h => h) ?_; rintro i ⟨hi7, hrow⟩; refine HC_seq fun K41 hK41 => ?_; refine HC_seq fun K42 hK42 => ?_; refine HC_region ?_; refine HL_r rfl rfl rfl rfl (R_move rfl) ?_; refine HL_r rfl rfl rfl rfl (R_move rfl) ?_; refine HL_r rfl rfl rfl rfl (R_lenSl rfl rfl) ?_; refine HL_r rfl rfl rfl rfl (R_pure rfl rfl rfl) ?_; refine HL_nil ?_; refine HQ_then ?_; refine hK42 _ _ _ _ ?_; clear hK42 K42; refine HC_cond rfl (fun h43 => ?_) (fun h43 => ?_)
            · try exact Bool.noConfusion h43
              try simp only [Z1, Z2, Z3, Z4, Z5, Z6, Z7, Z8, Z9, Z10, Z11, Z12, Z13] at h43
              refine HC_skip ?_; refine HQ_then ?_; refine hK41 _ _ _ _ ?_; clear hK41 K41; refine HC_seq fun K44 hK44 => ?_; refine HC_block ?_; refine HC_seq fun K45 hK45 => ?_
              have hi : i < 7 := by omega
              refine HC_region ?_; refine HL_callP rfl rfl rfl (enters_of Tryz.func61 (by kernel_rfl) rfl) P_rNone ?_; refine HL_r rfl rfl rfl rfl (R_assign rfl) ?_; refine HL_nil ?_; refine HQ_then ?_; refine hK45 _ _ _ _ ?_; clear hK45 K45; refine HC_seq fun K46 hK46 => ?_; refine HC_region ?_; refine HL_r rfl rfl rfl rfl (R_move rfl) ?_; refine HL_r rfl rfl rfl rfl (R_move rfl) ?_; refine HL_callP rfl rfl rfl (enters_of Tryz.func62 (by kernel_rfl) rfl) (P_rhas f hi) ?_; refine HL_r rfl rfl rfl rfl (R_assign rfl) ?_; refine HL_nil ?_; refine HQ_then ?_; refine hK46 _ _ _ _ ?_; clear hK46 K46; refine HC_seq fun K47 hK47 => ?_; refine HC_seq fun K48 hK48 => ?_; refine HC_region ?_; refine HL_r rfl rfl rfl rfl (R_move rfl) ?_; refine HL_nil ?_; refine HQ_then ?_; refine hK48 _ _ _ _ ?_; clear hK48 K48; refine HC_cond rfl (fun h49 => ?_) (fun h49 => ?_)
              · try exact Bool.noConfusion h49
                try simp only [Z1, Z2, Z3, Z4, Z5, Z6, Z7, Z8, Z9, Z10, Z11, Z12, Z13] at h49
                refine HC_region ?_; refine HL_r rfl rfl rfl rfl (R_move rfl) ?_; refine HL_r rfl rfl rfl rfl (R_move rfl) ?_; refine HL_r rfl rfl rfl rfl (R_loadArr (xs := (findL s A0).cells) (n := 8) rfl (known_L (k := 1) rfl) rfl rfl rfl) ?_; refine HL_callR rfl rfl rfl (enters_of Tryz.func64 (by kernel_rfl) rfl) (S_rread hf hA (found_len hc0 A0)) (fun q hq => Or.inr hq) ?_; refine HL_callP rfl rfl rfl (enters_of Tryz.func63 (by kernel_rfl) rfl) (P_rholds (read_ok f _) hi) ?_; refine HL_as (congrArg strV (row_yes (f := f) (by assumption))) ?_; refine HL_r rfl rfl rfl rfl (R_assign rfl) ?_; refine HL_nil ?_; refine HQ_then ?_; refine hK47 _ _ _ _ ?_; clear hK47 K47; refine HC_seq fun K50 hK50 => ?_
                first | rw [row_no (f := f) (r := readE f (findL s A0).er) (i := i) (by assumption)] | skip
                refine HC_draw 9 (by kernel_rfl) (by kernel_rfl) ?_; refine HD_r rfl rfl rfl (R_loadArr (xs := (findL s A0).cells) (n := 8) rfl (known_L (k := 1) rfl) rfl rfl rfl) ?_; refine HD_r rfl rfl rfl (R_move rfl) ?_; refine HD_r rfl rfl rfl (R_move rfl) ?_; refine HD_r rfl rfl rfl (R_indexS (j := i) (m := 1) (off' := i) rfl rfl rfl rfl rfl (by omega) (by omega)) ?_; refine HD_r rfl rfl rfl (R_load rfl (known_L (k := 0) rfl) rfl (keys_nth hi)) ?_; refine HD_callP rfl rfl rfl (enters_of Tryz.func66 (by kernel_rfl) rfl) (P_rKey (keyN_u i)) ?_; refine HD_callR rfl rfl rfl (enters_of Tryz.func65 (by kernel_rfl) rfl) (S_rSlot hA (keyE (keyN i))) (fun q hq => Or.inr hq) ?_; refine HD_r rfl rfl rfl (R_move rfl) ?_; refine HD_r rfl rfl rfl (R_strNe rfl rfl) ?_; refine HD_end ?_; refine HL_nil ?_; refine HQ_then ?_; refine hK50 _ _ _ _ ?_; clear hK50 K50; refine HC_cond rfl (fun h51 => ?_) (fun h51 => ?_)
                · try exact Bool.noConfusion h51
                  try simp only [Z1, Z2, Z3, Z4, Z5, Z6, Z7, Z8, Z9, Z10, Z11, Z12, Z13] at h51
                  refine HC_seq fun K52 hK52 => ?_; refine HC_region ?_; refine HL_r rfl rfl rfl rfl (R_assign rfl) ?_; refine HL_nil ?_; refine HQ_then ?_; refine hK52 _ _ _ _ ?_; clear hK52 K52; refine HC_ret ?_; refine HQ_blockR ?_; refine HQ_thenR ?_; clear hK44 K44; refine HQ_thenR ?_; refine HQ_blockR ?_; refine HQ_thenR ?_; clear hK39 K39; refine HQ_post rfl rfl (.cons (res_tmp rfl) .nil) (fun w1 hs1 => ?_); refine ⟨?_, hs1.keep⟩; rw [if_neg (by omega), if_neg hnl, if_neg (by simp_all), if_neg (by rw [table_bad hi (by assumption)]; simp)]; rfl
                · try exact Bool.noConfusion h51
                  try simp only [Z1, Z2, Z3, Z4, Z5, Z6, Z7, Z8, Z9, Z10, Z11, Z12, Z13] at h51
                  refine HC_skip ?_; refine HQ_blockN ?_; refine HQ_then ?_; refine hK44 _ _ _ _ ?_; clear hK44 K44; refine HC_region ?_; refine HL_r rfl rfl rfl rfl (R_move rfl) ?_; refine HL_r rfl rfl rfl rfl (R_pure rfl rfl rfl) ?_; refine HL_wrap_i64 (by omega) (by omega) ?_; refine HL_r rfl rfl rfl rfl (R_assign rfl) ?_; refine HL_nil ?_; refine HQ_then ?_; refine HQ_again (i + 1) ⟨by omega, fun j hj => ?_⟩ (by omega) (.cons rfl (.cons rfl (.cons rfl (.cons rfl .nil)))) (List.Sublist.refl _) (fun _ _ h => h)
                  rcases Nat.lt_succ_iff_lt_or_eq.1 hj with hj | rfl
                  · exact hrow j hj
                  · assumption
              · try exact Bool.noConfusion h49
                try simp only [Z1, Z2, Z3, Z4, Z5, Z6, Z7, Z8, Z9, Z10, Z11, Z12, Z13] at h49
                refine HC_skip ?_; refine HQ_then ?_; refine hK47 _ _ _ _ ?_; clear hK47 K47; refine HC_seq fun K53 hK53 => ?_
                first | rw [row_no (f := f) (r := readE f (findL s A0).er) (i := i) (by assumption)] | skip
                refine HC_draw 9 (by kernel_rfl) (by kernel_rfl) ?_; refine HD_r rfl rfl rfl (R_loadArr (xs := (findL s A0).cells) (n := 8) rfl (known_L (k := 1) rfl) rfl rfl rfl) ?_; refine HD_r rfl rfl rfl (R_move rfl) ?_; refine HD_r rfl rfl rfl (R_move rfl) ?_; refine HD_r rfl rfl rfl (R_indexS (j := i) (m := 1) (off' := i) rfl rfl rfl rfl rfl (by omega) (by omega)) ?_; refine HD_r rfl rfl rfl (R_load rfl (known_L (k := 0) rfl) rfl (keys_nth hi)) ?_; refine HD_callP rfl rfl rfl (enters_of Tryz.func66 (by kernel_rfl) rfl) (P_rKey (keyN_u i)) ?_; refine HD_callR rfl rfl rfl (enters_of Tryz.func65 (by kernel_rfl) rfl) (S_rSlot hA (keyE (keyN i))) (fun q hq => Or.inr hq) ?_; refine HD_r rfl rfl rfl (R_move rfl) ?_; refine HD_r rfl rfl rfl (R_strNe rfl rfl) ?_; refine HD_end ?_; refine HL_nil ?_; refine HQ_then ?_; refine hK53 _ _ _ _ ?_; clear hK53 K53; refine HC_cond rfl (fun h54 => ?_) (fun h54 => ?_)
                · try exact Bool.noConfusion h54
                  try simp only [Z1, Z2, Z3, Z4, Z5, Z6, Z7, Z8, Z9, Z10, Z11, Z12, Z13] at h54
                  refine HC_seq fun K55 hK55 => ?_; refine HC_region ?_; refine HL_r rfl rfl rfl rfl (R_assign rfl) ?_; refine HL_nil ?_; refine HQ_then ?_; refine hK55 _ _ _ _ ?_; clear hK55 K55; refine HC_ret ?_; refine HQ_blockR ?_; refine HQ_thenR ?_; clear hK44 K44; refine HQ_thenR ?_; refine HQ_blockR ?_; refine HQ_thenR ?_; clear hK39 K39; refine HQ_post rfl rfl (.cons (res_tmp rfl) .nil) (fun w1 hs1 => ?_); refine ⟨?_, hs1.keep⟩; rw [if_neg (by omega), if_neg hnl, if_neg (by simp_all), if_neg (by rw [table_bad hi (by assumption)]; simp)]; rfl
                · try exact Bool.noConfusion h54
                  try simp only [Z1, Z2, Z3, Z4, Z5, Z6, Z7, Z8, Z9, Z10, Z11, Z12, Z13] at h54
                  refine HC_skip ?_; refine HQ_blockN ?_; refine HQ_then ?_; refine hK44 _ _ _ _ ?_; clear hK44 K44; refine HC_region ?_; refine HL_r rfl rfl rfl rfl (R_move rfl) ?_; refine HL_r rfl rfl rfl rfl (R_pure rfl rfl rfl) ?_; refine HL_wrap_i64 (by omega) (by omega) ?_; refine HL_r rfl rfl rfl rfl (R_assign rfl) ?_; refine HL_nil ?_; refine HQ_then ?_; refine HQ_again (i + 1) ⟨by omega, fun j hj => ?_⟩ (by omega) (.cons rfl (.cons rfl (.cons rfl (.cons rfl .nil)))) (List.Sublist.refl _) (fun _ _ h => h)
                  rcases Nat.lt_succ_iff_lt_or_eq.1 hj with hj | rfl
                  · exact hrow j hj
                  · assumption
            · try exact Bool.noConfusion h43
              try simp only [Z1, Z2, Z3, Z4, Z5, Z6, Z7, Z8, Z9, Z10, Z11, Z12, Z13] at h43
              refine HC_exit ?_; refine HQ_thenE ?_; clear hK41 K41; refine HQ_thenE ?_; refine HQ_blockE ?_; refine HQ_then ?_; refine hK39 _ _ _ _ ?_; clear hK39 K39; refine HC_seq fun K56 hK56 => ?_
              obtain rfl : i = 7 := by omega
              have htab : tableB f (findL s A0).er (readE f (findL s A0).er) tab = true := table_iff.2 fun j hj => hrow j (tab_lt hj)
              refine HC_region ?_; refine HL_r rfl rfl rfl rfl (R_assign rfl) ?_; refine HL_nil ?_; refine HQ_then ?_; refine hK56 _ _ _ _ ?_; clear hK56 K56; refine HC_ret ?_; refine HQ_post rfl rfl (.cons (res_tmp rfl) .nil) (fun w1 hs1 => ?_); refine ⟨?_, hs1.keep⟩; rw [if_neg (by omega), if_neg hnl, if_neg (by simp_all), if_pos htab]; rfl
  · have e : checkE f s.er = 10 := by unfold checkE; rw [if_pos hf]
    rw [e]; refine pureR_of_HC Tryz.func24 rfl rfl fun w => ?_; refine HC_seq fun K1 hK1 => ?_; refine HC_region ?_; refine HL_box (cs := s.cells.toArray) rfl rfl rfl rfl fun rb => ?_; refine HL_r rfl rfl rfl rfl (R_assign rfl) ?_; refine HL_nil ?_; refine HQ_then ?_; refine hK1 _ _ _ _ ?_; clear hK1 K1; refine HC_seq fun K2 hK2 => ?_; refine HC_seq fun K3 hK3 => ?_; refine HC_region ?_; refine HL_r rfl rfl rfl rfl (R_move rfl) ?_; refine HL_callP rfl rfl rfl (enters_of Tryz.func57 (by kernel_rfl) rfl) (P_rForked f) ?_; refine HL_r rfl rfl rfl rfl (R_pure rfl rfl rfl) ?_; refine HL_nil ?_; refine HQ_then ?_; refine hK3 _ _ _ _ ?_; clear hK3 K3; refine HC_cond rfl (fun h4 => ?_) (fun h4 => ?_)
    · try exact Bool.noConfusion h4
      try simp only [Z1, Z2, Z3, Z4, Z5, Z6, Z7, Z8, Z9, Z10, Z11, Z12, Z13] at h4
      refine HC_seq fun K5 hK5 => ?_; refine HC_region ?_; refine HL_r rfl rfl rfl rfl (R_assign rfl) ?_; refine HL_nil ?_; refine HQ_then ?_; refine hK5 _ _ _ _ ?_; clear hK5 K5; refine HC_ret ?_; refine HQ_thenR ?_; clear hK2 K2; refine HQ_post rfl rfl (.cons (res_tmp rfl) .nil) (fun w1 hs1 => ?_)
      first | exact ⟨rfl, hs1.keep⟩ | (exfalso; simp_all; done)
    · try exact Bool.noConfusion h4
      try simp only [Z1, Z2, Z3, Z4, Z5, Z6, Z7, Z8, Z9, Z10, Z11, Z12, Z13] at h4
      refine HC_skip ?_; refine HQ_then ?_; refine hK2 _ _ _ _ ?_; clear hK2 K2; refine HC_seq fun K6 hK6 => ?_; refine HC_region ?_; refine HL_r rfl rfl rfl rfl (R_loadA (vs := [_]) rfl (known_L (k := 0) rfl) rfl rfl rfl rfl) ?_
      exfalso; simp_all; done
end Go.Proofs.YtnkmbkndpoghdaaGreat
namespace Go.Proofs.YtnkmbkndpoghdaaGreat
set_option linter.all false
open Go.SL Go.RowKit Go.Shelf
/-! ### the reference of layouts: Read, coded, Write -/
set_option maxRecDepth 10000 in
theorem S_rlRead {R : List (Nat × Obj)} (f : Int) {s : StL} (hs : s.In R) : PureR Tryz.prog 26 [.int .i64 f, s.val].toArray (.tuple #[(readS f s.er).1.val, .int .i64 (readS f s.er).2]) R := by
  have hc := S_rlCheck f hs
  have hA := find_in hs A0
  have hrs : readS f s.er = if checkE f s.er ≠ 0 then (rec0, checkE f s.er) else (readE f (findL s A0).er, 0) := by rw [find_er]; rfl
  rw [hrs]; refine pureR_of_HC Tryz.func26 rfl rfl fun w => ?_; refine HC_seq fun K1 hK1 => ?_; refine HC_region ?_; refine HL_box (cs := s.cells.toArray) rfl rfl rfl rfl fun rs => ?_; refine HL_alloc (cs := #[_, _, _, _, _, _, _, _, _, _, _, _, _, _, _, _, _]) rfl rfl rfl rfl fun r1 => ?_; refine HL_r rfl rfl rfl rfl (R_assign rfl) ?_; refine HL_nil ?_; refine HQ_then ?_; refine hK1 _ _ _ _ ?_; clear hK1 K1; refine HC_seq fun K2 hK2 => ?_; refine HC_region ?_; refine HL_r rfl rfl rfl rfl (R_move rfl) ?_; refine HL_r rfl rfl rfl rfl (R_loadArr (xs := s.cells) (n := 1) rfl (known_L (k := 1) rfl) rfl rfl rfl) ?_; refine HL_callR rfl rfl rfl (enters_of Tryz.func24 (by kernel_rfl) rfl) hc (fun q hq => Or.inr hq) ?_; refine HL_r rfl rfl rfl rfl (R_assign rfl) ?_; refine HL_nil ?_; refine HQ_then ?_; refine hK2 _ _ _ _ ?_; clear hK2 K2; refine HC_seq fun K3 hK3 => ?_; refine HC_seq fun K4 hK4 => ?_; refine HC_region ?_; refine HL_r rfl rfl rfl rfl (R_move rfl) ?_; refine HL_r rfl rfl rfl rfl (R_pure rfl rfl rfl) ?_; refine HL_nil ?_; refine HQ_then ?_; refine hK4 _ _ _ _ ?_; clear hK4 K4; refine HC_cond rfl (fun h5 => ?_) (fun h5 => ?_)
  · try exact Bool.noConfusion h5
    try simp only [Z1, Z2, Z3, Z4, Z5, Z6, Z7, Z8, Z9, Z10, Z11, Z12, Z13] at h5
    refine HC_seq fun K6 hK6 => ?_; refine HC_region ?_; refine HL_r rfl rfl rfl rfl (R_build (r := [_, _, _, _, _, _, _, _, _, _, _, _, _, _, _, _, _]) rfl rfl) ?_; refine HL_r rfl rfl rfl rfl (R_move rfl) ?_
    refine HL_storeA (k := 0) (n := 17) (cs' := #[_, _, _, _, _, _, _, _, _, _, _, _, _, _, _, _, _]) (vs := #[_, _, _, _, _, _, _, _, _, _, _, _, _, _, _, _, _]) rfl rfl rfl rfl rfl rfl rfl (by exact Nat.le_of_ble_eq_true rfl) rfl (by first | (simp only [List.set_cons_zero, List.set_cons_succ]; exact rfl) | exact rfl) ?_; refine HL_r rfl rfl rfl rfl (R_assign rfl) ?_; refine HL_nil ?_; refine HQ_then ?_; refine hK6 _ _ _ _ ?_; clear hK6 K6; refine HC_ret ?_; refine HQ_thenR ?_; clear hK3 K3; refine HQ_post rfl rfl (.cons (res_cellA (vs := [_, _, _, _, _, _, _, _, _, _, _, _, _, _, _, _, _]) rfl (known_L (k := 0) rfl) rfl rfl) (.cons (res_tmp rfl) .nil)) (fun w1 hs1 => ?_); rw [if_pos (by omega)]; exact ⟨rfl, hs1.keep⟩
  · try exact Bool.noConfusion h5
    try simp only [Z1, Z2, Z3, Z4, Z5, Z6, Z7, Z8, Z9, Z10, Z11, Z12, Z13] at h5
    refine HC_skip ?_; refine HQ_then ?_; refine hK3 _ _ _ _ ?_; clear hK3 K3; refine HC_seq fun K7 hK7 => ?_
    have hrd := S_rread (f := f) (by
      obtain ⟨a, ha⟩ := check_ok.1 (show checkE f s.er = 0 by omega)
      exact ha.forked) hA (found_len (by
      obtain ⟨a, ha⟩ := check_ok.1 (show checkE f s.er = 0 by omega)
      exact ha.st) A0)
    refine HC_drawB [] [(1, .pure), (3, .pure), (4, .pure), (5, .pure), (6, .grow (geNew ptrV (.cells #[.string ⟨#[]⟩, .int .u64 0, .int .u64 0, .int .u64 0, .int .u64 0, .int .u64 0, .string ⟨#[]⟩, .slice none 0 0] 55 (0, 0)))), (7, .turn), (8, .pure)] 9 [0, 1, 2, 3, 4, 5, 6, 7, 8] (by kernel_rfl) (by kernel_rfl) (by first | exact (fun _ h => nomatch h) | simp [SubS] | (intro p hp; simp [hp])) ?_; refine HB_r (k := 0) rfl rfl rfl rfl rfl (R_loadArr (xs := s.cells) (n := 1) rfl (known_L (k := 1) rfl) rfl rfl rfl) ?_; refine HB_callP (k := 1) rfl rfl rfl rfl rfl (enters_of Tryz.func21 (by kernel_rfl) rfl) (P_rAddr 0) ?_; refine HB_callR (k := 2) rfl rfl rfl rfl rfl (enters_of Tryz.func54 (by kernel_rfl) rfl) (S_rFind hs A0) (fun q hq => Or.inr hq) ?_; refine HB_p (k := 3) rfl rfl rfl rfl rfl (fun _ hS => (R_move rfl)) ?_; refine HB_p (k := 4) rfl rfl rfl rfl rfl (fun _ hS => (R_extract rfl rfl)) ?_; refine HB_p (k := 5) rfl rfl rfl rfl rfl (fun _ hS => (R_extract rfl rfl)) ?_; refine HB_alloc (k := 6) (cs := #[_, _, _, _, _, _, _, _]) rfl rfl rfl rfl rfl rfl fun r2 => ?_; refine HB_storeArr (k := 7) (q := 0) (n := 8) (ys := (findL s A0).cells) rfl rfl rfl rfl rfl rfl rfl rfl rfl rfl rfl (fun _ h => nomatch h) ?_; refine HB_p (k := 8) rfl rfl rfl rfl rfl (fun _ hS => (R_assign rfl)) ?_; refine HB_end ?_; refine HL_nil ?_; refine HQ_then ?_; refine hK7 _ _ _ _ ?_; clear hK7 K7; refine HC_seq fun K8 hK8 => ?_; refine HC_region ?_; refine HL_r rfl rfl rfl rfl (R_move rfl) ?_; refine HL_r rfl rfl rfl rfl (R_loadArr (xs := (findL s A0).cells) (n := 8) rfl (known_L (k := 0) rfl) rfl rfl rfl) ?_; refine HL_callR rfl rfl rfl (enters_of Tryz.func64 (by kernel_rfl) rfl) hrd (fun q hq => Or.inr hq) ?_; refine HL_storeArr (k := 1) (n := 17) (ys := ((readE f (findL s A0).er)).cells) rfl rfl rfl rfl rfl rfl rfl rfl rfl ?_; refine HL_r rfl rfl rfl rfl (R_assign rfl) ?_; refine HL_nil ?_; refine HQ_then ?_; refine hK8 _ _ _ _ ?_; clear hK8 K8; refine HC_ret ?_; refine HQ_post rfl rfl (.cons (res_cellA (vs := [_, _, _, _, _, _, _, _, _, _, _, _, _, _, _, _, _]) rfl (known_L (k := 1) rfl) rfl rfl) (.cons (res_tmp rfl) .nil)) (fun w1 hs1 => ?_); rw [if_neg (by omega)]; exact ⟨rfl, hs1.keep⟩
set_option maxHeartbeats 1000000 in
set_option maxRecDepth 10000 in
theorem S_rcoded {R : List (Nat × Obj)} {f : Int} {i : Nat} (hi2 : i < 2) {a : AcL} (ha : a.In R) {r : Rec} (hr : r.ok) : PureT (α := AcRes R (codedE f i (AcL.er { a with addr := addrE i }) r)) Tryz.prog 55 [.int .i64 f, .int .i64 (i : Int), a.val, r.val].toArray (fun x => x.val) [] (fun x => x.L) R := by
  obtain ⟨b0, hb0⟩ : ∃ b : AcL, b = { a with addr := addrE i, code := (codeE f i).1 } := ⟨_, rfl⟩
  have hcl : (codeE f i).1.length ≤ 512 := by
    unfold codeE
    (repeat' split) <;> decide
  have hb : b0.In R := hb0 ▸ code_in (addr_in ha (addr_len i)) hcl
  obtain ⟨rows, hrows⟩ : ∃ rows, rows = rowsW f r := ⟨_, rfl⟩
  have hdr : ∀ j, j < 7 → rows.drop j = (keyE (keyN j), (rowW f r j).2) :: rows.drop (j + 1) := fun j hj => by rw [hrows, ← rows_w]; exact map_drop _ hj
  have hd7 : rows.drop 7 = [] := by rw [hrows]; rfl
  have hcd : codedE f i (AcL.er { a with addr := addrE i }) r = if (i : Int) = 1 then (b0.er, 0) else setRows b0.er rows := by
    subst hb0 hrows
    unfold codedE
    by_cases h1 : (i : Int) = 1
    · rw [if_pos h1, if_pos h1]
      rw [show i = 1 by omega]; rfl
    · rw [if_neg h1, if_neg h1]; rfl
  rw [hcd]; clear hrows hcd; refine pureT_of_HC Tryz.func55 rfl rfl fun w => ?_; refine HC_seq fun K1 hK1 => ?_; refine HC_region ?_; refine HL_box (cs := a.cells.toArray) rfl rfl rfl rfl fun ra => ?_; refine HL_box (cs := r.cells.toArray) rfl rfl rfl rfl fun rr => ?_; refine HL_alloc (cs := #[_, _, _, _, _, _, _, _]) rfl rfl rfl rfl fun r1 => ?_; refine HL_r rfl rfl rfl rfl (R_assign rfl) ?_; refine HL_nil ?_; refine HQ_then ?_; refine hK1 _ _ _ _ ?_; clear hK1 K1; refine HC_seq fun K2 hK2 => ?_; refine HC_region ?_; refine HL_r rfl rfl rfl rfl (R_move rfl) ?_; refine HL_r rfl rfl rfl rfl (R_move rfl) ?_; refine HL_callP rfl rfl rfl (enters_of Tryz.func53 (by kernel_rfl) rfl) (P_rcode f i) ?_; refine HL_r rfl rfl rfl rfl (R_move rfl) ?_; refine HL_r rfl rfl rfl rfl (R_extract rfl rfl) ?_; refine HL_r rfl rfl rfl rfl (R_extract rfl rfl) ?_; refine HL_r rfl rfl rfl rfl (R_assign rfl) ?_; refine HL_r rfl rfl rfl rfl (R_assign rfl) ?_; refine HL_nil ?_; refine HQ_then ?_; refine hK2 _ _ _ _ ?_; clear hK2 K2; refine HC_seq fun K3 hK3 => ?_; refine HC_region ?_; refine HL_r rfl rfl rfl rfl (R_move rfl) ?_; refine HL_callP rfl rfl rfl (enters_of Tryz.func21 (by kernel_rfl) rfl) (P_rAddr i) ?_
  refine HL_r rfl rfl rfl rfl (R_fieldAddr rfl rfl (by first | (simp only [Nat.zero_add, Nat.reduceAdd, Nat.reduceMul, Nat.zero_mul, Nat.mul_one, Nat.add_zero]; exact rfl) | exact rfl)) ?_; refine HL_store (k := 2) (cs' := (AcL.cells { a with addr := addrE i }).toArray) rfl rfl rfl rfl rfl rfl rfl rfl rfl rfl ?_; refine HL_nil ?_; refine HQ_then ?_; refine hK3 _ _ _ _ ?_; clear hK3 K3; refine HC_seq fun K4 hK4 => ?_; refine HC_region ?_; refine HL_r rfl rfl rfl rfl (R_move rfl) ?_
  refine HL_r rfl rfl rfl rfl (R_fieldAddr rfl rfl (by first | (simp only [Nat.zero_add, Nat.reduceAdd, Nat.reduceMul, Nat.zero_mul, Nat.mul_one, Nat.add_zero]; exact rfl) | exact rfl)) ?_; refine HL_store (k := 2) (cs' := b0.cells.toArray) rfl rfl rfl rfl rfl rfl rfl rfl (by rw [hb0]; rfl) rfl ?_; refine HL_nil ?_; refine HQ_then ?_; refine hK4 _ _ _ _ ?_; clear hK4 K4; refine HC_seq fun K5 hK5 => ?_; refine HC_seq fun K6 hK6 => ?_; refine HC_region ?_; refine HL_r rfl rfl rfl rfl (R_move rfl) ?_; refine HL_r rfl rfl rfl rfl (R_pure rfl rfl rfl) ?_; refine HL_nil ?_; refine HQ_then ?_; refine hK6 _ _ _ _ ?_; clear hK6 K6; refine HC_cond rfl (fun h7 => ?_) (fun h7 => ?_)
  · try exact Bool.noConfusion h7
    try simp only [Z1, Z2, Z3, Z4, Z5, Z6, Z7, Z8, Z9, Z10, Z11, Z12, Z13] at h7
    refine HC_seq fun K8 hK8 => ?_; refine HC_region ?_; refine HL_r rfl rfl rfl rfl (R_loadArr (xs := b0.cells) (n := 8) rfl (known_L (k := 2) rfl) rfl rfl rfl) ?_; refine HL_storeArr (k := 0) (n := 8) (ys := (b0).cells) rfl rfl rfl rfl rfl rfl rfl rfl rfl ?_; refine HL_r rfl rfl rfl rfl (R_assign rfl) ?_; refine HL_nil ?_; refine HQ_then ?_; refine hK8 _ _ _ _ ?_; clear hK8 K8; refine HC_ret ?_; refine HQ_thenR ?_; clear hK5 K5; refine HQ_post rfl rfl (.cons (res_cellA (vs := [_, _, _, _, _, _, _, _]) rfl (known_L (k := 0) rfl) rfl rfl) (.cons (res_tmp rfl) .nil)) (fun w1 hs1 => ?_)
    (rw [if_pos (by omega)]
     exact ⟨⟨b0, 0, [], hb, rfl⟩, rfl, hs1.weakL (List.nil_sublist _)⟩)
  · try exact Bool.noConfusion h7
    try simp only [Z1, Z2, Z3, Z4, Z5, Z6, Z7, Z8, Z9, Z10, Z11, Z12, Z13] at h7
    refine HC_skip ?_; refine HQ_then ?_; refine hK5 _ _ _ _ ?_; clear hK5 K5; refine HC_seq fun K9 hK9 => ?_; refine HC_region ?_; refine HL_callPE rfl rfl rfl (enters_of Tryz.func60 (by kernel_rfl) rfl) E_rkeys fun rk => ?_; refine HL_r rfl rfl rfl rfl (R_assign rfl) ?_; refine HL_nil ?_; refine HQ_then ?_; refine hK9 _ _ _ _ ?_; clear hK9 K9; refine HC_seq fun K10 hK10 => ?_; refine HC_seq fun K11 hK11 => ?_; refine HC_region ?_; refine HL_r rfl rfl rfl rfl (R_assign rfl) ?_; refine HL_nil ?_; refine HQ_then ?_; refine hK11 _ _ _ _ ?_; clear hK11 K11; refine HC_block ?_; refine HC_sel [3, 2, 1, 0] (L' := [_, _, _, _]) (by decide) rfl ?_; refine HC_loop (σ := Nat × AcSt R) (fun q => q.1 ≤ 7 ∧ setRows b0.er rows = setRows q.2.a.er (rows.drop q.1)) (fun q => [(0, .int .i64 f), (6, ptV ra 0), (7, ptV rr 0), (8, ptV r1 0), (9, .int .i64 0), (12, .slice (some ⟨rk, 0, none⟩) 7 7), (13, .int .i64 (q.1 : Int))]) (fun q => (ra, .cells q.2.a.cells.toArray 55 (0, 0)) :: (rr, .cells r.cells.toArray 29 (0, 0)) :: (r1, .cells ac0L.cells.toArray 55 (0, 0)) :: (rk, .cells keysC.toArray 25 (0, 0)) :: q.2.L) (fun _ _ _ => True) (fun q => 7 - q.1) (0, ⟨b0, [], hb⟩) ⟨Nat.zero_le _, rfl⟩ (.cons rfl (.cons rfl (.cons rfl (.cons rfl (.cons rfl (.cons rfl (.cons rfl .nil))))))) (List.Sublist.refl _) (fun _ _ h => h) ?_; rintro ⟨j, s⟩ ⟨hj7, hinv⟩; simp only at hj7 hinv; change HC _ _ [(0, _), (6, _), (7, _), (8, _), (9, _), (12, _), (13, .int .i64 (j : Int))] ((ra, .cells s.a.cells.toArray _ (0, 0)) :: (rr, _) :: (r1, _) :: (rk, _) :: s.L) _ _ _; refine HC_seq fun K12 hK12 => ?_; refine HC_seq fun K13 hK13 => ?_; refine HC_region ?_; refine HL_r rfl rfl rfl rfl (R_move rfl) ?_; refine HL_r rfl rfl rfl rfl (R_move rfl) ?_; refine HL_r rfl rfl rfl rfl (R_lenSl rfl rfl) ?_; refine HL_r rfl rfl rfl rfl (R_pure rfl rfl rfl) ?_; refine HL_nil ?_; refine HQ_then ?_; refine hK13 _ _ _ _ ?_; clear hK13 K13; refine HC_cond rfl (fun h14 => ?_) (fun h14 => ?_)
    · try exact Bool.noConfusion h14
      try simp only [Z1, Z2, Z3, Z4, Z5, Z6, Z7, Z8, Z9, Z10, Z11, Z12, Z13] at h14
      refine HC_skip ?_; refine HQ_then ?_; refine hK12 _ _ _ _ ?_; clear hK12 K12; refine HC_seq fun K15 hK15 => ?_; refine HC_block ?_; refine HC_seq fun K16 hK16 => ?_
      have hj : j < 7 := by omega
      rw [hdr j hj, setRows_cons] at hinv; refine HC_region ?_; refine HL_callP rfl rfl rfl (enters_of Tryz.func61 (by kernel_rfl) rfl) P_rNone ?_; refine HL_r rfl rfl rfl rfl (R_assign rfl) ?_; refine HL_nil ?_; refine HQ_then ?_; refine hK16 _ _ _ _ ?_; clear hK16 K16; refine HC_seq fun K17 hK17 => ?_; refine HC_region ?_; refine HL_r rfl rfl rfl rfl (R_move rfl) ?_; refine HL_r rfl rfl rfl rfl (R_move rfl) ?_; refine HL_callP rfl rfl rfl (enters_of Tryz.func62 (by kernel_rfl) rfl) (P_rhas f hj) ?_; refine HL_r rfl rfl rfl rfl (R_assign rfl) ?_; refine HL_nil ?_; refine HQ_then ?_; refine hK17 _ _ _ _ ?_; clear hK17 K17; refine HC_seq fun K18 hK18 => ?_; refine HC_seq fun K19 hK19 => ?_; refine HC_region ?_; refine HL_r rfl rfl rfl rfl (R_move rfl) ?_; refine HL_nil ?_; refine HQ_then ?_; refine hK19 _ _ _ _ ?_; clear hK19 K19; refine HC_cond rfl (fun h20 => ?_) (fun h20 => ?_)
      · try exact Bool.noConfusion h20
        try simp only [Z1, Z2, Z3, Z4, Z5, Z6, Z7, Z8, Z9, Z10, Z11, Z12, Z13] at h20
        refine HC_region ?_; refine HL_r rfl rfl rfl rfl (R_move rfl) ?_; refine HL_r rfl rfl rfl rfl (R_loadArr (xs := r.cells) (n := 17) rfl (known_L (k := 1) rfl) rfl rfl rfl) ?_; refine HL_callP rfl rfl rfl (enters_of Tryz.func63 (by kernel_rfl) rfl) (P_rholds hr hj) ?_; refine HL_as (congrArg strV (row_yes (f := f) (by assumption))) ?_; refine HL_r rfl rfl rfl rfl (R_assign rfl) ?_; refine HL_nil ?_; refine HQ_then ?_; refine hK18 _ _ _ _ ?_; clear hK18 K18; refine HC_seq fun K21 hK21 => ?_
        first | rw [row_no (f := f) (r := r) (i := j) (by assumption)] | skip
        refine HC_drawB s.L [(1, .pure), (2, .pure), (3, .pure), (5, .pure), (6, .pure), (7, .grow (geCall (Classical.choice (acRes_ne s.ok (keyE (keyN j)) (rowW f r j).2)) AcRes.val AcRes.L)), (8, .pure), (9, .pure), (10, .pure), (11, .grow (geNew ptrV (.cells #[.string ⟨#[]⟩, .int .u64 0, .int .u64 0, .int .u64 0, .int .u64 0, .int .u64 0, .string ⟨#[]⟩, .slice none 0 0] 55 (0, 0)))), (12, .turn), (13, .pure)] 14 [0, 1, 2, 3, 4, 5, 6, 7, 8, 9, 10, 11, 12, 13] (by kernel_rfl) (by kernel_rfl) (fun p hp => List.mem_cons_of_mem _ (List.mem_cons_of_mem _ (List.mem_cons_of_mem _ (List.mem_cons_of_mem _ hp)))) ?_; refine HB_r (k := 0) rfl rfl rfl rfl rfl (R_loadArr (xs := s.a.cells) (n := 8) rfl (known_L (k := 0) rfl) rfl rfl rfl) ?_; refine HB_p (k := 1) rfl rfl rfl rfl rfl (fun _ hS => (R_move rfl)) ?_; refine HB_p (k := 2) rfl rfl rfl rfl rfl (fun _ hS => (R_move rfl)) ?_; refine HB_p (k := 3) rfl rfl rfl rfl rfl (fun _ _ => R_indexS (j := j) (m := 1) (off' := j) rfl rfl rfl rfl rfl (by omega) (by omega)) ?_; refine HB_r (k := 4) rfl rfl rfl rfl rfl (R_load rfl (known_L (k := 3) rfl) rfl (keys_nth hj)) ?_; refine HB_callP (k := 5) rfl rfl rfl rfl rfl (enters_of Tryz.func66 (by kernel_rfl) rfl) (P_rKey (keyN_u j)) ?_; refine HB_p (k := 6) rfl rfl rfl rfl rfl (fun _ hS => (R_move rfl)) ?_; refine HB_callRE (k := 7) rfl rfl rfl rfl rfl (enters_of Tryz.func70 (by kernel_rfl) rfl) (S_rSet s.ok (keyE (keyN j)) (rowW f r j).2) (fun q hq => List.mem_append.1 hq) fun x => ?_; refine HB_p (k := 8) rfl rfl rfl rfl rfl (fun _ hS => (R_move rfl)) ?_; refine HB_p (k := 9) rfl rfl rfl rfl rfl (fun _ hS => (R_extract rfl rfl)) ?_; refine HB_p (k := 10) rfl rfl rfl rfl rfl (fun _ hS => (R_extract rfl rfl)) ?_; refine HB_alloc (k := 11) (cs := #[_, _, _, _, _, _, _, _]) rfl rfl rfl rfl rfl rfl fun r2 => ?_; refine HB_storeArr (k := 12) (q := 0) (n := 8) (ys := x.a.cells) rfl rfl rfl rfl rfl rfl rfl rfl rfl rfl rfl (fun p hp => List.mem_cons_of_mem _ (List.mem_append_right _ (List.mem_cons_of_mem _ (List.mem_cons_of_mem _ (List.mem_cons_of_mem _ (List.mem_cons_of_mem _ hp)))))) ?_; refine HB_p (k := 13) rfl rfl rfl rfl rfl (fun _ hS => (R_assign rfl)) ?_; refine HB_end ?_; refine HL_nil ?_; refine HQ_then ?_; refine hK21 _ _ _ _ ?_; clear hK21 K21; refine HC_seq fun K22 hK22 => ?_; refine HC_seq fun K23 hK23 => ?_; refine HC_perm (List.Perm.cons _ (perm_mid x.L [_, _, _, _] s.L)) ?_; change HC _ _ _ ((_, .cells x.a.cells.toArray _ _) :: (ra, .cells s.a.cells.toArray _ _) :: (rr, _) :: (r1, _) :: (rk, _) :: (x.L ++ s.L)) _ _ _
        have hx := x.eq
        have hxe : (setE s.a.er (keyE (keyN j)) (rowW f r j).2).2 = x.err := (congrArg Prod.snd hx).symm
        have hxa : (setE s.a.er (keyE (keyN j)) (rowW f r j).2).1 = x.a.er := (congrArg Prod.fst hx).symm
        refine HC_region ?_; refine HL_r rfl rfl rfl rfl (R_move rfl) ?_; refine HL_r rfl rfl rfl rfl (R_pure rfl rfl rfl) ?_; refine HL_nil ?_; refine HQ_then ?_; refine hK23 _ _ _ _ ?_; clear hK23 K23; refine HC_cond rfl (fun h24 => ?_) (fun h24 => ?_)
        · try exact Bool.noConfusion h24
          try simp only [Z1, Z2, Z3, Z4, Z5, Z6, Z7, Z8, Z9, Z10, Z11, Z12, Z13] at h24
          refine HC_seq fun K25 hK25 => ?_; refine HC_region ?_; refine HL_r rfl rfl rfl rfl (R_loadArr (xs := s.a.cells) (n := 8) rfl (known_L (k := 1) rfl) rfl rfl rfl) ?_; refine HL_r rfl rfl rfl rfl (R_move rfl) ?_; refine HL_storeArr (k := 3) (n := 8) (ys := (s.a).cells) rfl rfl rfl rfl rfl rfl rfl rfl rfl ?_; refine HL_r rfl rfl rfl rfl (R_assign rfl) ?_; refine HL_nil ?_; refine HQ_then ?_; refine hK25 _ _ _ _ ?_; clear hK25 K25; refine HC_ret ?_; refine HQ_thenR ?_; clear hK22 K22; refine HQ_blockR ?_; refine HQ_thenR ?_; clear hK15 K15; refine HQ_thenR ?_; refine HQ_blockR ?_; refine HQ_thenR ?_; clear hK10 K10; refine HQ_post rfl rfl (.cons (res_cellA (vs := [_, _, _, _, _, _, _, _]) rfl (known_L (k := 3) rfl) rfl rfl) (.cons (res_tmp rfl) .nil)) (fun w1 hs1 => ?_)
          (have he : setRows b0.er rows = (s.a.er, x.err) := by
             rw [hinv, if_pos (by rw [hxe]; assumption)]; exact (set_same (by rw [hxe]; assumption)).trans (congrArg (Prod.mk s.a.er) hxe)
           rw [if_neg (by omega), he]
           exact ⟨⟨s.a, x.err, s.L, s.ok, rfl⟩, rfl, hs1.weakL (.cons _ (.cons _ (.cons _ (.cons _ (.cons _ (List.sublist_append_right _ _))))))⟩)
        · try exact Bool.noConfusion h24
          try simp only [Z1, Z2, Z3, Z4, Z5, Z6, Z7, Z8, Z9, Z10, Z11, Z12, Z13] at h24
          refine HC_skip ?_; refine HQ_then ?_; refine hK22 _ _ _ _ ?_; clear hK22 K22; refine HC_region ?_; refine HL_r rfl rfl rfl rfl (R_loadArr (xs := x.a.cells) (n := 8) rfl (known_L (k := 0) rfl) rfl rfl rfl) ?_; refine HL_storeArr (k := 1) (n := 8) (ys := (x.a).cells) rfl rfl rfl rfl rfl rfl rfl rfl rfl ?_; refine HL_nil ?_; refine HQ_blockN ?_; refine HQ_then ?_; refine hK15 _ _ _ _ ?_; clear hK15 K15; refine HC_region ?_; refine HL_r rfl rfl rfl rfl (R_move rfl) ?_; refine HL_r rfl rfl rfl rfl (R_pure rfl rfl rfl) ?_; refine HL_wrap_i64 (by omega) (by omega) ?_; refine HL_r rfl rfl rfl rfl (R_assign rfl) ?_; refine HL_nil ?_; refine HQ_then ?_; exact HQ_again (j + 1, s.next x) ⟨by simp only; omega, by rw [hinv, if_neg (by rw [hxe]; omega), hxa]; rfl⟩ (by simp only; omega) (.cons rfl (.cons rfl (.cons rfl (.cons rfl (.cons rfl (.cons rfl (.cons rfl .nil))))))) (List.sublist_cons_self _ _) (fun _ _ h => h)
      · try exact Bool.noConfusion h20
        try simp only [Z1, Z2, Z3, Z4, Z5, Z6, Z7, Z8, Z9, Z10, Z11, Z12, Z13] at h20
        refine HC_skip ?_; refine HQ_then ?_; refine hK18 _ _ _ _ ?_; clear hK18 K18; refine HC_seq fun K26 hK26 => ?_
        first | rw [row_no (f := f) (r := r) (i := j) (by assumption)] | skip
        refine HC_drawB s.L [(1, .pure), (2, .pure), (3, .pure), (5, .pure), (6, .pure), (7, .grow (geCall (Classical.choice (acRes_ne s.ok (keyE (keyN j)) (rowW f r j).2)) AcRes.val AcRes.L)), (8, .pure), (9, .pure), (10, .pure), (11, .grow (geNew ptrV (.cells #[.string ⟨#[]⟩, .int .u64 0, .int .u64 0, .int .u64 0, .int .u64 0, .int .u64 0, .string ⟨#[]⟩, .slice none 0 0] 55 (0, 0)))), (12, .turn), (13, .pure)] 14 [0, 1, 2, 3, 4, 5, 6, 7, 8, 9, 10, 11, 12, 13] (by kernel_rfl) (by kernel_rfl) (fun p hp => List.mem_cons_of_mem _ (List.mem_cons_of_mem _ (List.mem_cons_of_mem _ (List.mem_cons_of_mem _ hp)))) ?_; refine HB_r (k := 0) rfl rfl rfl rfl rfl (R_loadArr (xs := s.a.cells) (n := 8) rfl (known_L (k := 0) rfl) rfl rfl rfl) ?_; refine HB_p (k := 1) rfl rfl rfl rfl rfl (fun _ hS => (R_move rfl)) ?_; refine HB_p (k := 2) rfl rfl rfl rfl rfl (fun _ hS => (R_move rfl)) ?_; refine HB_p (k := 3) rfl rfl rfl rfl rfl (fun _ _ => R_indexS (j := j) (m := 1) (off' := j) rfl rfl rfl rfl rfl (by omega) (by omega)) ?_; refine HB_r (k := 4) rfl rfl rfl rfl rfl (R_load rfl (known_L (k := 3) rfl) rfl (keys_nth hj)) ?_; refine HB_callP (k := 5) rfl rfl rfl rfl rfl (enters_of Tryz.func66 (by kernel_rfl) rfl) (P_rKey (keyN_u j)) ?_; refine HB_p (k := 6) rfl rfl rfl rfl rfl (fun _ hS => (R_move rfl)) ?_; refine HB_callRE (k := 7) rfl rfl rfl rfl rfl (enters_of Tryz.func70 (by kernel_rfl) rfl) (S_rSet s.ok (keyE (keyN j)) (rowW f r j).2) (fun q hq => List.mem_append.1 hq) fun x => ?_; refine HB_p (k := 8) rfl rfl rfl rfl rfl (fun _ hS => (R_move rfl)) ?_; refine HB_p (k := 9) rfl rfl rfl rfl rfl (fun _ hS => (R_extract rfl rfl)) ?_; refine HB_p (k := 10) rfl rfl rfl rfl rfl (fun _ hS => (R_extract rfl rfl)) ?_; refine HB_alloc (k := 11) (cs := #[_, _, _, _, _, _, _, _]) rfl rfl rfl rfl rfl rfl fun r3 => ?_; refine HB_storeArr (k := 12) (q := 0) (n := 8) (ys := x.a.cells) rfl rfl rfl rfl rfl rfl rfl rfl rfl rfl rfl (fun p hp => List.mem_cons_of_mem _ (List.mem_append_right _ (List.mem_cons_of_mem _ (List.mem_cons_of_mem _ (List.mem_cons_of_mem _ (List.mem_cons_of_mem _ hp)))))) ?_; refine HB_p (k := 13) rfl rfl rfl rfl rfl (fun _ hS => (R_assign rfl)) ?_; refine HB_end ?_; refine HL_nil ?_; refine HQ_then ?_; refine hK26 _ _ _ _ ?_; clear hK26 K26; refine HC_seq fun K27 hK27 => ?_; refine HC_seq fun K28 hK28 => ?_; refine HC_perm (List.Perm.cons _ (perm_mid x.L [_, _, _, _] s.L)) ?_; change HC _ _ _ ((_, .cells x.a.cells.toArray _ _) :: (ra, .cells s.a.cells.toArray _ _) :: (rr, _) :: (r1, _) :: (rk, _) :: (x.L ++ s.L)) _ _ _
        have hx := x.eq
        have hxe : (setE s.a.er (keyE (keyN j)) (rowW f r j).2).2 = x.err := (congrArg Prod.snd hx).symm
        have hxa : (setE s.a.er (keyE (keyN j)) (rowW f r j).2).1 = x.a.er := (congrArg Prod.fst hx).symm
        refine HC_region ?_; refine HL_r rfl rfl rfl rfl (R_move rfl) ?_; refine HL_r rfl rfl rfl rfl (R_pure rfl rfl rfl) ?_; refine HL_nil ?_; refine HQ_then ?_; refine hK28 _ _ _ _ ?_; clear hK28 K28; refine HC_cond rfl (fun h29 => ?_) (fun h29 => ?_)
        · try exact Bool.noConfusion h29
          try simp only [Z1, Z2, Z3, Z4, Z5, Z6, Z7, Z8, Z9, Z10, Z11, Z12, Z13] at h29
          refine HC_seq fun K30 hK30 => ?_; refine HC_region ?_; refine HL_r rfl rfl rfl rfl (R_loadArr (xs := s.a.cells) (n := 8) rfl (known_L (k := 1) rfl) rfl rfl rfl) ?_; refine HL_r rfl rfl rfl rfl (R_move rfl) ?_; refine HL_storeArr (k := 3) (n := 8) (ys := (s.a).cells) rfl rfl rfl rfl rfl rfl rfl rfl rfl ?_; refine HL_r rfl rfl rfl rfl (R_assign rfl) ?_; refine HL_nil ?_; refine HQ_then ?_; refine hK30 _ _ _ _ ?_; clear hK30 K30; refine HC_ret ?_; refine HQ_thenR ?_; clear hK27 K27; refine HQ_blockR ?_; refine HQ_thenR ?_; clear hK15 K15; refine HQ_thenR ?_; refine HQ_blockR ?_; refine HQ_thenR ?_; clear hK10 K10; refine HQ_post rfl rfl (.cons (res_cellA (vs := [_, _, _, _, _, _, _, _]) rfl (known_L (k := 3) rfl) rfl rfl) (.cons (res_tmp rfl) .nil)) (fun w1 hs1 => ?_)
          (have he : setRows b0.er rows = (s.a.er, x.err) := by
             rw [hinv, if_pos (by rw [hxe]; assumption)]; exact (set_same (by rw [hxe]; assumption)).trans (congrArg (Prod.mk s.a.er) hxe)
           rw [if_neg (by omega), he]
           exact ⟨⟨s.a, x.err, s.L, s.ok, rfl⟩, rfl, hs1.weakL (.cons _ (.cons _ (.cons _ (.cons _ (.cons _ (List.sublist_append_right _ _))))))⟩)
        · try exact Bool.noConfusion h29
          try simp only [Z1, Z2, Z3, Z4, Z5, Z6, Z7, Z8, Z9, Z10, Z11, Z12, Z13] at h29
          refine HC_skip ?_; refine HQ_then ?_; refine hK27 _ _ _ _ ?_; clear hK27 K27; refine HC_region ?_; refine HL_r rfl rfl rfl rfl (R_loadArr (xs := x.a.cells) (n := 8) rfl (known_L (k := 0) rfl) rfl rfl rfl) ?_; refine HL_storeArr (k := 1) (n := 8) (ys := (x.a).cells) rfl rfl rfl rfl rfl rfl rfl rfl rfl ?_; refine HL_nil ?_; refine HQ_blockN ?_; refine HQ_then ?_; refine hK15 _ _ _ _ ?_; clear hK15 K15; refine HC_region ?_; refine HL_r rfl rfl rfl rfl (R_move rfl) ?_; refine HL_r rfl rfl rfl rfl (R_pure rfl rfl rfl) ?_; refine HL_wrap_i64 (by omega) (by omega) ?_; refine HL_r rfl rfl rfl rfl (R_assign rfl) ?_; refine HL_nil ?_; refine HQ_then ?_; exact HQ_again (j + 1, s.next x) ⟨by simp only; omega, by rw [hinv, if_neg (by rw [hxe]; omega), hxa]; rfl⟩ (by simp only; omega) (.cons rfl (.cons rfl (.cons rfl (.cons rfl (.cons rfl (.cons rfl (.cons rfl .nil))))))) (List.sublist_cons_self _ _) (fun _ _ h => h)
    · try exact Bool.noConfusion h14
      try simp only [Z1, Z2, Z3, Z4, Z5, Z6, Z7, Z8, Z9, Z10, Z11, Z12, Z13] at h14
      refine HC_exit ?_; refine HQ_thenE ?_; clear hK12 K12; refine HQ_thenE ?_; refine HQ_blockE ?_; refine HQ_then ?_; refine hK10 _ _ _ _ ?_; clear hK10 K10; refine HC_seq fun K31 hK31 => ?_; refine HC_region ?_; refine HL_r rfl rfl rfl rfl (R_loadArr (xs := s.a.cells) (n := 8) rfl (known_L (k := 0) rfl) rfl rfl rfl) ?_; refine HL_storeArr (k := 2) (n := 8) (ys := (s.a).cells) rfl rfl rfl rfl rfl rfl rfl rfl rfl ?_; refine HL_r rfl rfl rfl rfl (R_assign rfl) ?_; refine HL_nil ?_; refine HQ_then ?_; refine hK31 _ _ _ _ ?_; clear hK31 K31; refine HC_ret ?_; refine HQ_post rfl rfl (.cons (res_cellA (vs := [_, _, _, _, _, _, _, _]) rfl (known_L (k := 2) rfl) rfl rfl) (.cons (res_tmp rfl) .nil)) (fun w1 hs1 => ?_)
      (obtain rfl : j = 7 := by omega
       rw [if_neg (by omega), hinv, hd7]
       exact ⟨⟨s.a, 0, s.L, s.ok, rfl⟩, rfl, hs1.weakL (.cons _ (.cons _ (.cons _ (.cons _ (List.Sublist.refl _)))))⟩)
set_option maxHeartbeats 1000000 in
set_option maxRecDepth 10000 in
theorem S_rWrite {R : List (Nat × Obj)} (f : Int) {s : StL} (hs : s.In R) {r : Rec} (hr : r.ok) : PureT (α := StRes R (writeE f s.er r)) Tryz.prog 16 [.int .i64 f, s.val, r.val].toArray (fun x => x.val) [] (fun x => x.L) R := by
  have hc := S_rCheck hs
  obtain ⟨res, hres⟩ : ∃ res, res = changeE f s.er fun w a => codedE f w a r := ⟨_, rfl⟩
  have hwr : writeE f s.er r = if fitsE f r ≠ 0 then (s.er, fitsE f r) else if chkS s.er ≠ 0 then (s.er, chkS s.er) else res := by rw [hres]; rfl
  rw [hwr]; refine pureT_of_HC Tryz.func16 rfl rfl fun w => ?_; refine HC_seq fun K1 hK1 => ?_; refine HC_region ?_; refine HL_box (cs := s.cells.toArray) rfl rfl rfl rfl fun rb => ?_; refine HL_box (cs := r.cells.toArray) rfl rfl rfl rfl fun rr => ?_; refine HL_alloc (cs := #[_]) rfl rfl rfl rfl fun r1 => ?_; refine HL_r rfl rfl rfl rfl (R_assign rfl) ?_; refine HL_nil ?_; refine HQ_then ?_; refine hK1 _ _ _ _ ?_; clear hK1 K1; refine HC_seq fun K2 hK2 => ?_; refine HC_region ?_; refine HL_r rfl rfl rfl rfl (R_move rfl) ?_; refine HL_r rfl rfl rfl rfl (R_loadArr (xs := r.cells) (n := 17) rfl (known_L (k := 1) rfl) rfl rfl rfl) ?_; refine HL_callP rfl rfl rfl (enters_of Tryz.func18 (by kernel_rfl) rfl) (P_rFits f r) ?_; refine HL_r rfl rfl rfl rfl (R_assign rfl) ?_; refine HL_nil ?_; refine HQ_then ?_; refine hK2 _ _ _ _ ?_; clear hK2 K2; refine HC_seq fun K3 hK3 => ?_; refine HC_seq fun K4 hK4 => ?_; refine HC_region ?_; refine HL_r rfl rfl rfl rfl (R_move rfl) ?_; refine HL_r rfl rfl rfl rfl (R_pure rfl rfl rfl) ?_; refine HL_nil ?_; refine HQ_then ?_; refine hK4 _ _ _ _ ?_; clear hK4 K4; refine HC_cond rfl (fun h5 => ?_) (fun h5 => ?_)
  · try exact Bool.noConfusion h5
    try simp only [Z1, Z2, Z3, Z4, Z5, Z6, Z7, Z8, Z9, Z10, Z11, Z12, Z13] at h5
    refine HC_seq fun K6 hK6 => ?_; refine HC_region ?_; refine HL_r rfl rfl rfl rfl (R_loadArr (xs := s.cells) (n := 1) rfl (known_L (k := 2) rfl) rfl rfl rfl) ?_; refine HL_r rfl rfl rfl rfl (R_move rfl) ?_; refine HL_storeArr (k := 0) (n := 1) (ys := s.cells) rfl rfl rfl rfl rfl rfl rfl rfl rfl ?_; refine HL_r rfl rfl rfl rfl (R_assign rfl) ?_; refine HL_nil ?_; refine HQ_then ?_; refine hK6 _ _ _ _ ?_; clear hK6 K6; refine HC_ret ?_; refine HQ_thenR ?_; clear hK3 K3; refine HQ_post rfl rfl (.cons (res_cellA (vs := [_]) rfl (known_L (k := 0) rfl) rfl rfl) (.cons (res_tmp rfl) .nil)) (fun w1 hs1 => ?_); rw [if_pos (by omega)]; exact ⟨⟨s, fitsE f r, [], hs, rfl⟩, rfl, hs1.weakL (List.nil_sublist _)⟩
  · try exact Bool.noConfusion h5
    try simp only [Z1, Z2, Z3, Z4, Z5, Z6, Z7, Z8, Z9, Z10, Z11, Z12, Z13] at h5
    refine HC_skip ?_; refine HQ_then ?_; refine hK3 _ _ _ _ ?_; clear hK3 K3; refine HC_seq fun K7 hK7 => ?_; refine HC_region ?_; refine HL_r rfl rfl rfl rfl (R_loadArr (xs := s.cells) (n := 1) rfl (known_L (k := 2) rfl) rfl rfl rfl) ?_; refine HL_callR rfl rfl rfl (enters_of Tryz.func52 (by kernel_rfl) rfl) hc (fun q hq => Or.inr hq) ?_; refine HL_r rfl rfl rfl rfl (R_assign rfl) ?_; refine HL_nil ?_; refine HQ_then ?_; refine hK7 _ _ _ _ ?_; clear hK7 K7; refine HC_seq fun K8 hK8 => ?_; refine HC_seq fun K9 hK9 => ?_; refine HC_region ?_; refine HL_r rfl rfl rfl rfl (R_move rfl) ?_; refine HL_r rfl rfl rfl rfl (R_pure rfl rfl rfl) ?_; refine HL_nil ?_; refine HQ_then ?_; refine hK9 _ _ _ _ ?_; clear hK9 K9; refine HC_cond rfl (fun h10 => ?_) (fun h10 => ?_)
    · try exact Bool.noConfusion h10
      try simp only [Z1, Z2, Z3, Z4, Z5, Z6, Z7, Z8, Z9, Z10, Z11, Z12, Z13] at h10
      refine HC_seq fun K11 hK11 => ?_; refine HC_region ?_; refine HL_r rfl rfl rfl rfl (R_loadArr (xs := s.cells) (n := 1) rfl (known_L (k := 2) rfl) rfl rfl rfl) ?_; refine HL_r rfl rfl rfl rfl (R_move rfl) ?_; refine HL_storeArr (k := 0) (n := 1) (ys := s.cells) rfl rfl rfl rfl rfl rfl rfl rfl rfl ?_; refine HL_r rfl rfl rfl rfl (R_assign rfl) ?_; refine HL_nil ?_; refine HQ_then ?_; refine hK11 _ _ _ _ ?_; clear hK11 K11; refine HC_ret ?_; refine HQ_thenR ?_; clear hK8 K8; refine HQ_post rfl rfl (.cons (res_cellA (vs := [_]) rfl (known_L (k := 0) rfl) rfl rfl) (.cons (res_tmp rfl) .nil)) (fun w1 hs1 => ?_); rw [if_neg (by omega), if_pos (by omega)]; exact ⟨⟨s, chkS s.er, [], hs, rfl⟩, rfl, hs1.weakL (List.nil_sublist _)⟩
    · try exact Bool.noConfusion h10
      try simp only [Z1, Z2, Z3, Z4, Z5, Z6, Z7, Z8, Z9, Z10, Z11, Z12, Z13] at h10
      refine HC_skip ?_; refine HQ_then ?_; refine hK8 _ _ _ _ ?_; clear hK8 K8; refine HC_seq fun K12 hK12 => ?_; refine HC_region ?_; refine HL_r rfl rfl rfl rfl (R_loadArr (xs := s.cells) (n := 1) rfl (known_L (k := 2) rfl) rfl rfl rfl) ?_; refine HL_alloc (cs := #[_]) rfl rfl rfl rfl fun r2 => ?_; refine HL_storeArr (k := 0) (n := 1) (ys := s.cells) rfl rfl rfl rfl rfl rfl rfl rfl rfl ?_; refine HL_nil ?_; refine HQ_then ?_; refine hK12 _ _ _ _ ?_; clear hK12 K12; refine HC_seq fun K13 hK13 => ?_; refine HC_seq fun K14 hK14 => ?_; refine HC_region ?_; refine HL_r rfl rfl rfl rfl (R_assign rfl) ?_; refine HL_nil ?_; refine HQ_then ?_; refine hK14 _ _ _ _ ?_; clear hK14 K14; refine HC_block ?_
      have hrs2 : changeL f s.er (fun w a => codedE f w a r) (([0, 1] : List Int).drop 0) s.er = res := hres.symm
      refine HC_sel [0, 3, 2, 1] (L' := [_, _, _, _]) (by decide) rfl ?_; refine HC_loop (σ := Nat × StSt R) (fun q => q.1 ≤ 2 ∧ changeL f s.er (fun w a => codedE f w a r) (([0, 1] : List Int).drop q.1) q.2.s.er = res) (fun q => [(0, .int .i64 f), (4, ptV rb 0), (5, ptV rr 0), (6, ptV r1 0), (7, .int .i64 0), (10, ptV r2 0), (11, .int .i64 (q.1 : Int))]) (fun q => (r2, .cells q.2.s.cells.toArray 24 (0, 0)) :: (rb, .cells s.cells.toArray 24 (0, 0)) :: (rr, .cells r.cells.toArray 29 (0, 0)) :: (r1, .cells st0L.cells.toArray 24 (0, 0)) :: q.2.L) (fun _ _ _ => True) (fun q => 2 - q.1) (0, ⟨s, [], hs⟩) ⟨Nat.zero_le _, hrs2⟩ (.cons rfl (.cons rfl (.cons rfl (.cons rfl (.cons rfl (.cons rfl (.cons rfl .nil))))))) (List.Sublist.refl _) (fun _ _ h => h) ?_; rintro ⟨i, t⟩ ⟨hi2, hinv⟩; simp only at hi2 hinv; change HC _ _ [(0, _), (4, _), (5, _), (6, _), (7, _), (10, _), (11, .int .i64 (i : Int))] ((r2, .cells t.s.cells.toArray _ (0, 0)) :: (rb, _) :: (rr, _) :: (r1, _) :: t.L) _ _ _; refine HC_seq fun K15 hK15 => ?_; refine HC_seq fun K16 hK16 => ?_; refine HC_region ?_; refine HL_r rfl rfl rfl rfl (R_move rfl) ?_; refine HL_r rfl rfl rfl rfl (R_pure rfl rfl rfl) ?_; refine HL_nil ?_; refine HQ_then ?_; refine hK16 _ _ _ _ ?_; clear hK16 K16; refine HC_cond rfl (fun h17 => ?_) (fun h17 => ?_)
      · try exact Bool.noConfusion h17
        try simp only [Z1, Z2, Z3, Z4, Z5, Z6, Z7, Z8, Z9, Z10, Z11, Z12, Z13] at h17
        refine HC_skip ?_; refine HQ_then ?_; refine hK15 _ _ _ _ ?_; clear hK15 K15; refine HC_seq fun K18 hK18 => ?_; refine HC_block ?_; refine HC_seq fun K19 hK19 => ?_
        have hi : i < 2 := by omega
        rw [change_drop hi, changeL_cons] at hinv; refine HC_region ?_; refine HL_r rfl rfl rfl rfl (R_move rfl) ?_; refine HL_r rfl rfl rfl rfl (R_move rfl) ?_; refine HL_callP rfl rfl rfl (enters_of Tryz.func53 (by kernel_rfl) rfl) (P_rcode f i) ?_; refine HL_r rfl rfl rfl rfl (R_move rfl) ?_; refine HL_r rfl rfl rfl rfl (R_extract rfl rfl) ?_; refine HL_r rfl rfl rfl rfl (R_extract rfl rfl) ?_; refine HL_r rfl rfl rfl rfl (R_assign rfl) ?_; refine HL_r rfl rfl rfl rfl (R_assign rfl) ?_; refine HL_nil ?_; refine HQ_then ?_; refine hK19 _ _ _ _ ?_; clear hK19 K19; refine HC_seq fun K20 hK20 => ?_; refine HC_seq fun K21 hK21 => ?_; refine HC_region ?_; refine HL_r rfl rfl rfl rfl (R_move rfl) ?_; refine HL_r rfl rfl rfl rfl (R_pure rfl rfl rfl) ?_; refine HL_nil ?_; refine HQ_then ?_; refine hK21 _ _ _ _ ?_; clear hK21 K21; refine HC_cond rfl (fun h22 => ?_) (fun h22 => ?_)
        · try exact Bool.noConfusion h22
          try simp only [Z1, Z2, Z3, Z4, Z5, Z6, Z7, Z8, Z9, Z10, Z11, Z12, Z13] at h22
          refine HC_exit ?_; refine HQ_thenE ?_; clear hK20 K20; refine HQ_blockE ?_; refine HQ_then ?_; refine hK18 _ _ _ _ ?_; clear hK18 K18; refine HC_region ?_; refine HL_r rfl rfl rfl rfl (R_move rfl) ?_; refine HL_r rfl rfl rfl rfl (R_pure rfl rfl rfl) ?_; refine HL_wrap_i64 (by omega) (by omega) ?_; refine HL_r rfl rfl rfl rfl (R_assign rfl) ?_; refine HL_nil ?_; refine HQ_then ?_
          (rw [if_pos (by simp_all)] at hinv
           exact HQ_again (i + 1, t) ⟨by simp only; omega, hinv⟩ (by simp only; omega) (.cons rfl (.cons rfl (.cons rfl (.cons rfl (.cons rfl (.cons rfl (.cons rfl .nil))))))) (List.Sublist.refl _) (fun _ _ h => h))
        · try exact Bool.noConfusion h22
          try simp only [Z1, Z2, Z3, Z4, Z5, Z6, Z7, Z8, Z9, Z10, Z11, Z12, Z13] at h22
          refine HC_skip ?_; refine HQ_then ?_; refine hK20 _ _ _ _ ?_; clear hK20 K20; refine HC_seq fun K23 hK23 => ?_; rw [if_neg (by simp_all)] at hinv
          refine HC_drawB [] [(1, .pure), (2, .pure), (4, .pure), (5, .pure), (6, .pure), (7, .grow (geNew ptrV (.cells #[.string ⟨#[]⟩, .int .u64 0, .int .u64 0, .int .u64 0, .int .u64 0, .int .u64 0, .string ⟨#[]⟩, .slice none 0 0] 55 (0, 0)))), (8, .turn), (9, .pure)] 10 [0, 1, 2, 3, 4, 5, 6, 7, 8, 9] (by kernel_rfl) (by kernel_rfl) (by first | exact (fun _ h => nomatch h) | simp [SubS] | (intro p hp; simp [hp])) ?_; refine HB_r (k := 0) rfl rfl rfl rfl rfl (R_loadArr (xs := t.s.cells) (n := 1) rfl (known_L (k := 0) rfl) rfl rfl rfl) ?_; refine HB_p (k := 1) rfl rfl rfl rfl rfl (fun _ hS => (R_move rfl)) ?_; refine HB_callP (k := 2) rfl rfl rfl rfl rfl (enters_of Tryz.func21 (by kernel_rfl) rfl) (P_rAddr i) ?_; refine HB_callR (k := 3) rfl rfl rfl rfl rfl (enters_of Tryz.func54 (by kernel_rfl) rfl) (S_rFind t.ok (addrE i)) (fun q hq => (List.mem_append.1 hq).elim (fun h => Or.inl (List.mem_cons_of_mem _ (List.mem_cons_of_mem _ (List.mem_cons_of_mem _ (List.mem_cons_of_mem _ h))))) Or.inr) ?_; refine HB_p (k := 4) rfl rfl rfl rfl rfl (fun _ hS => (R_move rfl)) ?_; refine HB_p (k := 5) rfl rfl rfl rfl rfl (fun _ hS => (R_extract rfl rfl)) ?_; refine HB_p (k := 6) rfl rfl rfl rfl rfl (fun _ hS => (R_extract rfl rfl)) ?_; refine HB_alloc (k := 7) (cs := #[_, _, _, _, _, _, _, _]) rfl rfl rfl rfl rfl rfl fun r3 => ?_; refine HB_storeArr (k := 8) (q := 0) (n := 8) (ys := (findL t.s (addrE i)).cells) rfl rfl rfl rfl rfl rfl rfl rfl rfl rfl rfl (fun _ h => nomatch h) ?_; refine HB_p (k := 9) rfl rfl rfl rfl rfl (fun _ hS => (R_assign rfl)) ?_; refine HB_end ?_; refine HL_nil ?_; refine HQ_then ?_; refine hK23 _ _ _ _ ?_; clear hK23 K23; refine HC_seq fun K24 hK24 => ?_; refine HC_region ?_; refine HL_r rfl rfl rfl rfl (R_move rfl) ?_; refine HL_r rfl rfl rfl rfl (R_move rfl) ?_; refine HL_r rfl rfl rfl rfl (R_loadArr (xs := (findL t.s (addrE i)).cells) (n := 8) rfl (known_L (k := 0) rfl) rfl rfl rfl) ?_; refine HL_r rfl rfl rfl rfl (R_loadArr (xs := r.cells) (n := 17) rfl (known_L (k := 3) rfl) rfl rfl rfl) ?_; refine HL_callRE rfl rfl rfl (enters_of Tryz.func55 (by kernel_rfl) rfl) (S_rcoded (f := f) hi (find_in t.ok (addrE i)) hr) (fun q hq => (List.mem_append.1 hq).elim (fun h => Or.inl (List.mem_cons_of_mem _ (List.mem_cons_of_mem _ (List.mem_cons_of_mem _ (List.mem_cons_of_mem _ (List.mem_cons_of_mem _ h)))))) Or.inr) fun x => ?_; refine HL_perm (perm_mid x.L [_, _, _, _, _] t.L) ?_; change HL _ _ ((58, .tuple #[x.a.val, .int .i64 x.err]) :: _) ((r3, _) :: (r2, _) :: (rb, _) :: (rr, _) :: (r1, _) :: (x.L ++ t.L)) _ _ _ _
          have hxe : (codedE f i (oldE t.s.er i) r).2 = x.err := by rw [← old_er]; exact (congrArg Prod.snd x.eq).symm
          have hxa : (codedE f i (oldE t.s.er i) r).1 = x.a.er := by rw [← old_er]; exact (congrArg Prod.fst x.eq).symm
          simp only [hxe, hxa] at hinv; refine HL_r rfl rfl rfl rfl (R_move rfl) ?_; refine HL_r rfl rfl rfl rfl (R_extract rfl rfl) ?_; refine HL_r rfl rfl rfl rfl (R_extract rfl rfl) ?_; refine HL_alloc (cs := #[_, _, _, _, _, _, _, _]) rfl rfl rfl rfl fun r4 => ?_; refine HL_storeArr (k := 0) (n := 8) (ys := (x.a).cells) rfl rfl rfl rfl rfl rfl rfl rfl rfl ?_; refine HL_r rfl rfl rfl rfl (R_assign rfl) ?_; refine HL_nil ?_; refine HQ_then ?_; refine hK24 _ _ _ _ ?_; clear hK24 K24; refine HC_seq fun K25 hK25 => ?_; refine HC_seq fun K26 hK26 => ?_; refine HC_region ?_; refine HL_r rfl rfl rfl rfl (R_move rfl) ?_; refine HL_r rfl rfl rfl rfl (R_pure rfl rfl rfl) ?_; refine HL_nil ?_; refine HQ_then ?_; refine hK26 _ _ _ _ ?_; clear hK26 K26; refine HC_cond rfl (fun h27 => ?_) (fun h27 => ?_)
          · try exact Bool.noConfusion h27
            try simp only [Z1, Z2, Z3, Z4, Z5, Z6, Z7, Z8, Z9, Z10, Z11, Z12, Z13] at h27
            refine HC_seq fun K28 hK28 => ?_; refine HC_region ?_; refine HL_r rfl rfl rfl rfl (R_loadArr (xs := s.cells) (n := 1) rfl (known_L (k := 3) rfl) rfl rfl rfl) ?_; refine HL_r rfl rfl rfl rfl (R_move rfl) ?_; refine HL_storeArr (k := 5) (n := 1) (ys := s.cells) rfl rfl rfl rfl rfl rfl rfl rfl rfl ?_; refine HL_r rfl rfl rfl rfl (R_assign rfl) ?_; refine HL_nil ?_; refine HQ_then ?_; refine hK28 _ _ _ _ ?_; clear hK28 K28; refine HC_ret ?_; refine HQ_thenR ?_; clear hK25 K25; refine HQ_blockR ?_; refine HQ_thenR ?_; clear hK18 K18; refine HQ_thenR ?_; refine HQ_blockR ?_; refine HQ_thenR ?_; clear hK13 K13; refine HQ_post rfl rfl (.cons (res_cellA (vs := [_]) rfl (known_L (k := 5) rfl) rfl rfl) (.cons (res_tmp rfl) .nil)) (fun w1 hs1 => ?_)
            (rw [if_pos (show x.err ≠ 0 by omega)] at hinv
             rw [if_neg (by omega), if_neg (by omega)]
             exact ⟨⟨s, x.err, [], hs, hinv⟩, rfl, hs1.weakL (List.nil_sublist _)⟩)
          · try exact Bool.noConfusion h27
            try simp only [Z1, Z2, Z3, Z4, Z5, Z6, Z7, Z8, Z9, Z10, Z11, Z12, Z13] at h27
            refine HC_skip ?_; refine HQ_then ?_; refine hK25 _ _ _ _ ?_; clear hK25 K25; refine HC_seq fun K29 hK29 => ?_; refine HC_region ?_; refine HL_r rfl rfl rfl rfl (R_loadArr (xs := t.s.cells) (n := 1) rfl (known_L (k := 2) rfl) rfl rfl rfl) ?_; refine HL_r rfl rfl rfl rfl (R_loadArr (xs := x.a.cells) (n := 8) rfl (known_L (k := 0) rfl) rfl rfl rfl) ?_; refine HL_callRE rfl rfl rfl (enters_of Tryz.func56 (by kernel_rfl) rfl) (S_rPut (R := x.L ++ (t.L ++ R)) (t.ok.mono fun q hq => List.mem_append_right _ hq) x.ok) (fun q hq => (List.mem_append.1 hq).elim (fun h => Or.inl (List.mem_cons_of_mem _ (List.mem_cons_of_mem _ (List.mem_cons_of_mem _ (List.mem_cons_of_mem _ (List.mem_cons_of_mem _ (List.mem_cons_of_mem _ (List.mem_append_left _ h)))))))) fun hq => (List.mem_append.1 hq).elim (fun h => Or.inl (List.mem_cons_of_mem _ (List.mem_cons_of_mem _ (List.mem_cons_of_mem _ (List.mem_cons_of_mem _ (List.mem_cons_of_mem _ (List.mem_cons_of_mem _ (List.mem_append_right _ h)))))))) Or.inr) fun y => ?_; refine HL_perm (perm_mid y.L [_, _, _, _, _, _] (x.L ++ t.L)) ?_; change HL _ _ ((68, .tuple #[y.s.val, .int .i64 y.err]) :: _) ((r4, _) :: (r3, _) :: (r2, _) :: (rb, _) :: (rr, _) :: (r1, _) :: (y.L ++ (x.L ++ t.L))) _ _ _ _
            have hye : (putS t.s.er x.a.er).2 = y.err := (congrArg Prod.snd y.eq).symm
            have hys : (putS t.s.er x.a.er).1 = y.s.er := (congrArg Prod.fst y.eq).symm
            simp only [hye, hys] at hinv; refine HL_r rfl rfl rfl rfl (R_move rfl) ?_; refine HL_r rfl rfl rfl rfl (R_extract rfl rfl) ?_; refine HL_r rfl rfl rfl rfl (R_extract rfl rfl) ?_; refine HL_alloc (cs := #[_]) rfl rfl rfl rfl fun r5 => ?_; refine HL_storeArr (k := 0) (n := 1) (ys := y.s.cells) rfl rfl rfl rfl rfl rfl rfl rfl rfl ?_; refine HL_r rfl rfl rfl rfl (R_assign rfl) ?_; refine HL_nil ?_; refine HQ_then ?_; refine hK29 _ _ _ _ ?_; clear hK29 K29; refine HC_seq fun K30 hK30 => ?_; refine HC_seq fun K31 hK31 => ?_; refine HC_region ?_; refine HL_r rfl rfl rfl rfl (R_move rfl) ?_; refine HL_r rfl rfl rfl rfl (R_pure rfl rfl rfl) ?_; refine HL_nil ?_; refine HQ_then ?_; refine hK31 _ _ _ _ ?_; clear hK31 K31; refine HC_cond rfl (fun h32 => ?_) (fun h32 => ?_)
            · try exact Bool.noConfusion h32
              try simp only [Z1, Z2, Z3, Z4, Z5, Z6, Z7, Z8, Z9, Z10, Z11, Z12, Z13] at h32
              refine HC_seq fun K33 hK33 => ?_; refine HC_region ?_; refine HL_r rfl rfl rfl rfl (R_loadArr (xs := s.cells) (n := 1) rfl (known_L (k := 4) rfl) rfl rfl rfl) ?_; refine HL_r rfl rfl rfl rfl (R_move rfl) ?_; refine HL_storeArr (k := 6) (n := 1) (ys := s.cells) rfl rfl rfl rfl rfl rfl rfl rfl rfl ?_; refine HL_r rfl rfl rfl rfl (R_assign rfl) ?_; refine HL_nil ?_; refine HQ_then ?_; refine hK33 _ _ _ _ ?_; clear hK33 K33; refine HC_ret ?_; refine HQ_thenR ?_; clear hK30 K30; refine HQ_blockR ?_; refine HQ_thenR ?_; clear hK18 K18; refine HQ_thenR ?_; refine HQ_blockR ?_; refine HQ_thenR ?_; clear hK13 K13; refine HQ_post rfl rfl (.cons (res_cellA (vs := [_]) rfl (known_L (k := 6) rfl) rfl rfl) (.cons (res_tmp rfl) .nil)) (fun w1 hs1 => ?_)
              (rw [if_neg (show ¬ (x.err ≠ 0) by omega), if_pos (show y.err ≠ 0 by omega)] at hinv
               rw [if_neg (by omega), if_neg (by omega)]
               exact ⟨⟨s, y.err, [], hs, hinv⟩, rfl, hs1.weakL (List.nil_sublist _)⟩)
            · try exact Bool.noConfusion h32
              try simp only [Z1, Z2, Z3, Z4, Z5, Z6, Z7, Z8, Z9, Z10, Z11, Z12, Z13] at h32
              refine HC_skip ?_; refine HQ_then ?_; refine hK30 _ _ _ _ ?_; clear hK30 K30; refine HC_region ?_; refine HL_r rfl rfl rfl rfl (R_loadArr (xs := y.s.cells) (n := 1) rfl (known_L (k := 0) rfl) rfl rfl rfl) ?_; refine HL_storeArr (k := 3) (n := 1) (ys := y.s.cells) rfl rfl rfl rfl rfl rfl rfl rfl rfl ?_; refine HL_nil ?_; refine HQ_blockN ?_; refine HQ_then ?_; refine hK18 _ _ _ _ ?_; clear hK18 K18; refine HC_region ?_; refine HL_r rfl rfl rfl rfl (R_move rfl) ?_; refine HL_r rfl rfl rfl rfl (R_pure rfl rfl rfl) ?_; refine HL_wrap_i64 (by omega) (by omega) ?_; refine HL_r rfl rfl rfl rfl (R_assign rfl) ?_; refine HL_nil ?_; refine HQ_then ?_
              (rw [if_neg (show ¬ (x.err ≠ 0) by omega), if_neg (show ¬ (y.err ≠ 0) by omega)] at hinv
               exact HQ_again (i + 1, t.next y) ⟨by simp only; omega, hinv⟩ (by simp only; omega) (.cons rfl (.cons rfl (.cons rfl (.cons rfl (.cons rfl (.cons rfl (.cons rfl .nil))))))) (.cons _ (.cons _ (.cons _ (List.Sublist.refl _)))) (fun _ _ h => h))
      · try exact Bool.noConfusion h17
        try simp only [Z1, Z2, Z3, Z4, Z5, Z6, Z7, Z8, Z9, Z10, Z11, Z12, Z13] at h17
        refine HC_exit ?_; refine HQ_thenE ?_; clear hK15 K15; refine HQ_thenE ?_; refine HQ_blockE ?_; refine HQ_then ?_; refine hK13 _ _ _ _ ?_; clear hK13 K13; refine HC_seq fun K34 hK34 => ?_; refine HC_region ?_; refine HL_r rfl rfl rfl rfl (R_loadArr (xs := t.s.cells) (n := 1) rfl (known_L (k := 0) rfl) rfl rfl rfl) ?_; refine HL_storeArr (k := 3) (n := 1) (ys := t.s.cells) rfl rfl rfl rfl rfl rfl rfl rfl rfl ?_; refine HL_r rfl rfl rfl rfl (R_assign rfl) ?_; refine HL_nil ?_; refine HQ_then ?_; refine hK34 _ _ _ _ ?_; clear hK34 K34; refine HC_ret ?_; refine HQ_post rfl rfl (.cons (res_cellA (vs := [_]) rfl (known_L (k := 3) rfl) rfl rfl) (.cons (res_tmp rfl) .nil)) (fun w1 hs1 => ?_)
        (obtain rfl : i = 2 := by omega
         rw [if_neg (by omega), if_neg (by omega)]
         exact ⟨⟨t.s, 0, t.L, t.ok, hinv⟩, rfl, hs1.weakL (.cons _ (.cons _ (.cons _ (.cons _ (List.Sublist.refl _)))))⟩)
end Go.Proofs.YtnkmbkndpoghdaaGreat
namespace Go.Proofs.YtnkmbkndpoghdaaGreat
set_option linter.all false
open Go.SL Go.RowKit Go.Shelf
/-! ### the law of what is written -/
theorem two_res {R R' : List (Nat × Obj)} {p : List AcE × Int} (x : StRes R p) (y : StRes R' p) : x.s.er = y.s.er ∧ x.err = y.err := by
  have h : (x.s.er, x.err) = (y.s.er, y.err) := x.eq.trans y.eq.symm
  exact ⟨congrArg Prod.fst h, congrArg Prod.snd h⟩
end Go.Proofs.YtnkmbkndpoghdaaGreat
namespace Go.Proofs.YtnkmbkndpoghdaaGreat
set_option linter.all false
open Go.SL Go.RowKit Go.Shelf
/-! ### the reference of migrations -/
set_option maxRecDepth 10000 in
theorem P_rturn (f : Int) (r : Rec) : Pure Tryz.prog 78 [.int .i64 f, r.val].toArray (turnE f r).val := by
  refine pure_of_HC Tryz.func78 rfl rfl fun w => ?_; refine HC_seq fun K1 hK1 => ?_; refine HC_region ?_; refine HL_box (cs := r.cells.toArray) rfl rfl rfl rfl fun rb => ?_; refine HL_alloc (cs := #[_, _, _, _, _, _, _, _, _, _, _, _, _, _, _, _, _]) rfl rfl rfl rfl fun r1 => ?_; refine HL_nil ?_; refine HQ_then ?_; refine hK1 _ _ _ _ ?_; clear hK1 K1; refine HC_seq fun K2 hK2 => ?_; refine HC_seq fun K3 hK3 => ?_; refine HC_region ?_; refine HL_r rfl rfl rfl rfl (R_move rfl) ?_; refine HL_r rfl rfl rfl rfl (R_pure rfl rfl rfl) ?_; refine HL_nil ?_; refine HQ_then ?_; refine hK3 _ _ _ _ ?_; clear hK3 K3; refine HC_cond rfl (fun h4 => ?_) (fun h4 => ?_)
  · try exact Bool.noConfusion h4
    try simp only [Z1, Z2, Z3, Z4, Z5, Z6, Z7, Z8, Z9, Z10, Z11, Z12, Z13] at h4
    refine HC_seq fun K5 hK5 => ?_; refine HC_region ?_; refine HL_r rfl rfl rfl rfl (R_build (r := [_, _, _, _]) rfl rfl) ?_
    refine HL_r rfl rfl rfl rfl (R_fieldAddr rfl rfl (by first | (simp only [Nat.zero_add, Nat.reduceAdd, Nat.reduceMul, Nat.zero_mul, Nat.mul_one, Nat.add_zero]; exact rfl) | exact rfl)) ?_; refine HL_storeA (k := 1) (n := 4) (vs := (w40.l.map uV).toArray) (cs' := (Rec.cells { r with overhead := w40 }).toArray) rfl rfl rfl rfl rfl rfl rfl (by exact Nat.le_of_ble_eq_true rfl) rfl rfl ?_; refine HL_nil ?_; refine HQ_then ?_; refine hK5 _ _ _ _ ?_; clear hK5 K5; refine HC_seq fun K6 hK6 => ?_; refine HC_region ?_
    refine HL_r rfl rfl rfl rfl (R_fieldAddr rfl rfl (by first | (simp only [Nat.zero_add, Nat.reduceAdd, Nat.reduceMul, Nat.zero_mul, Nat.mul_one, Nat.add_zero]; exact rfl) | exact rfl)) ?_; refine HL_store (k := 1) (cs' := (Rec.cells { r with overhead := w40, extra := 0 }).toArray) rfl rfl rfl rfl rfl rfl rfl rfl rfl rfl ?_; refine HL_nil ?_; refine HQ_then ?_; refine hK6 _ _ _ _ ?_; clear hK6 K6; refine HC_region ?_; refine HL_r rfl rfl rfl rfl (R_build (r := [_, _, _, _]) rfl rfl) ?_
    refine HL_r rfl rfl rfl rfl (R_fieldAddr rfl rfl (by first | (simp only [Nat.zero_add, Nat.reduceAdd, Nat.reduceMul, Nat.zero_mul, Nat.mul_one, Nat.add_zero]; exact rfl) | exact rfl)) ?_; refine HL_storeA (k := 1) (n := 4) (vs := ((wN1 1).l.map uV).toArray) (cs' := (Rec.cells { r with overhead := w40, extra := 0, blob := wN1 1 }).toArray) rfl rfl rfl rfl rfl rfl rfl (by exact Nat.le_of_ble_eq_true rfl) rfl rfl ?_; refine HL_nil ?_; refine HQ_then ?_; refine hK2 _ _ _ _ ?_; clear hK2 K2; refine HC_seq fun K7 hK7 => ?_; refine HC_seq fun K8 hK8 => ?_; refine HC_region ?_; refine HL_r rfl rfl rfl rfl (R_move rfl) ?_; refine HL_r rfl rfl rfl rfl (R_pure rfl rfl rfl) ?_; refine HL_nil ?_; refine HQ_then ?_; refine hK8 _ _ _ _ ?_; clear hK8 K8; refine HC_cond rfl (fun h9 => ?_) (fun h9 => ?_)
    · try exact Bool.noConfusion h9
      try simp only [Z1, Z2, Z3, Z4, Z5, Z6, Z7, Z8, Z9, Z10, Z11, Z12, Z13] at h9
      refine HC_region ?_
      refine HL_r rfl rfl rfl rfl (R_fieldAddr rfl rfl (by first | (simp only [Nat.zero_add, Nat.reduceAdd, Nat.reduceMul, Nat.zero_mul, Nat.mul_one, Nat.add_zero]; exact rfl) | exact rfl)) ?_
      exfalso; omega
    · try exact Bool.noConfusion h9
      try simp only [Z1, Z2, Z3, Z4, Z5, Z6, Z7, Z8, Z9, Z10, Z11, Z12, Z13] at h9
      refine HC_skip ?_; refine HQ_then ?_; refine hK7 _ _ _ _ ?_; clear hK7 K7; refine HC_seq fun K11 hK11 => ?_; refine HC_region ?_
      first | refine HL_r rfl rfl rfl rfl (R_loadArr (xs := (show Rec from { r with overhead := w40, extra := 0, blob := wN1 1 }).cells) (n := 17) rfl (known_L (k := 1) rfl) rfl rfl rfl) ?_ | refine HL_r rfl rfl rfl rfl (R_loadArr (xs := (show Rec from { r with operator := 1 }).cells) (n := 17) rfl (known_L (k := 1) rfl) rfl rfl rfl) ?_ | refine HL_r rfl rfl rfl rfl (R_loadArr (xs := r.cells) (n := 17) rfl (known_L (k := 1) rfl) rfl rfl rfl) ?_
      first | refine HL_storeArr (k := 0) (n := 17) (ys := ((show Rec from { r with overhead := w40, extra := 0, blob := wN1 1 })).cells) rfl rfl rfl rfl rfl rfl rfl rfl rfl ?_ | refine HL_storeArr (k := 0) (n := 17) (ys := ((show Rec from { r with operator := 1 })).cells) rfl rfl rfl rfl rfl rfl rfl rfl rfl ?_ | refine HL_storeArr (k := 0) (n := 17) (ys := (r).cells) rfl rfl rfl rfl rfl rfl rfl rfl rfl ?_
      refine HL_nil ?_; refine HQ_then ?_; refine hK11 _ _ _ _ ?_; clear hK11 K11; refine HC_ret ?_; refine HQ_post rfl rfl (.cons (res_cellA (vs := [_, _, _, _, _, _, _, _, _, _, _, _, _, _, _, _, _]) rfl (known_L (k := 0) rfl) rfl rfl) .nil) (fun w1 hs1 => ?_); refine ⟨?_, hs1.keep⟩
      unfold turnE
      rw [if_pos (by omega)]; rfl
  · try exact Bool.noConfusion h4
    try simp only [Z1, Z2, Z3, Z4, Z5, Z6, Z7, Z8, Z9, Z10, Z11, Z12, Z13] at h4
    refine HC_skip ?_; refine HQ_then ?_; refine hK2 _ _ _ _ ?_; clear hK2 K2; refine HC_seq fun K12 hK12 => ?_; refine HC_seq fun K13 hK13 => ?_; refine HC_region ?_; refine HL_r rfl rfl rfl rfl (R_move rfl) ?_; refine HL_r rfl rfl rfl rfl (R_pure rfl rfl rfl) ?_; refine HL_nil ?_; refine HQ_then ?_; refine hK13 _ _ _ _ ?_; clear hK13 K13; refine HC_cond rfl (fun h14 => ?_) (fun h14 => ?_)
    · try exact Bool.noConfusion h14
      try simp only [Z1, Z2, Z3, Z4, Z5, Z6, Z7, Z8, Z9, Z10, Z11, Z12, Z13] at h14
      refine HC_region ?_
      refine HL_r rfl rfl rfl rfl (R_fieldAddr rfl rfl (by first | (simp only [Nat.zero_add, Nat.reduceAdd, Nat.reduceMul, Nat.zero_mul, Nat.mul_one, Nat.add_zero]; exact rfl) | exact rfl)) ?_; refine HL_store (k := 1) (cs' := (Rec.cells { r with operator := 1 }).toArray) rfl rfl rfl rfl rfl rfl rfl rfl rfl rfl ?_; refine HL_nil ?_; refine HQ_then ?_; refine hK12 _ _ _ _ ?_; clear hK12 K12; refine HC_seq fun K15 hK15 => ?_; refine HC_region ?_
      first | refine HL_r rfl rfl rfl rfl (R_loadArr (xs := (show Rec from { r with overhead := w40, extra := 0, blob := wN1 1 }).cells) (n := 17) rfl (known_L (k := 1) rfl) rfl rfl rfl) ?_ | refine HL_r rfl rfl rfl rfl (R_loadArr (xs := (show Rec from { r with operator := 1 }).cells) (n := 17) rfl (known_L (k := 1) rfl) rfl rfl rfl) ?_ | refine HL_r rfl rfl rfl rfl (R_loadArr (xs := r.cells) (n := 17) rfl (known_L (k := 1) rfl) rfl rfl rfl) ?_
      first | refine HL_storeArr (k := 0) (n := 17) (ys := ((show Rec from { r with overhead := w40, extra := 0, blob := wN1 1 })).cells) rfl rfl rfl rfl rfl rfl rfl rfl rfl ?_ | refine HL_storeArr (k := 0) (n := 17) (ys := ((show Rec from { r with operator := 1 })).cells) rfl rfl rfl rfl rfl rfl rfl rfl rfl ?_ | refine HL_storeArr (k := 0) (n := 17) (ys := (r).cells) rfl rfl rfl rfl rfl rfl rfl rfl rfl ?_
      refine HL_nil ?_; refine HQ_then ?_; refine hK15 _ _ _ _ ?_; clear hK15 K15; refine HC_ret ?_; refine HQ_post rfl rfl (.cons (res_cellA (vs := [_, _, _, _, _, _, _, _, _, _, _, _, _, _, _, _, _]) rfl (known_L (k := 0) rfl) rfl rfl) .nil) (fun w1 hs1 => ?_); refine ⟨?_, hs1.keep⟩
      unfold turnE
      rw [if_neg (by omega), if_pos (by omega)]; rfl
    · try exact Bool.noConfusion h14
      try simp only [Z1, Z2, Z3, Z4, Z5, Z6, Z7, Z8, Z9, Z10, Z11, Z12, Z13] at h14
      refine HC_skip ?_; refine HQ_then ?_; refine hK12 _ _ _ _ ?_; clear hK12 K12; refine HC_seq fun K16 hK16 => ?_; refine HC_region ?_
      first | refine HL_r rfl rfl rfl rfl (R_loadArr (xs := (show Rec from { r with overhead := w40, extra := 0, blob := wN1 1 }).cells) (n := 17) rfl (known_L (k := 1) rfl) rfl rfl rfl) ?_ | refine HL_r rfl rfl rfl rfl (R_loadArr (xs := (show Rec from { r with operator := 1 }).cells) (n := 17) rfl (known_L (k := 1) rfl) rfl rfl rfl) ?_ | refine HL_r rfl rfl rfl rfl (R_loadArr (xs := r.cells) (n := 17) rfl (known_L (k := 1) rfl) rfl rfl rfl) ?_
      first | refine HL_storeArr (k := 0) (n := 17) (ys := ((show Rec from { r with overhead := w40, extra := 0, blob := wN1 1 })).cells) rfl rfl rfl rfl rfl rfl rfl rfl rfl ?_ | refine HL_storeArr (k := 0) (n := 17) (ys := ((show Rec from { r with operator := 1 })).cells) rfl rfl rfl rfl rfl rfl rfl rfl rfl ?_ | refine HL_storeArr (k := 0) (n := 17) (ys := (r).cells) rfl rfl rfl rfl rfl rfl rfl rfl rfl ?_
      refine HL_nil ?_; refine HQ_then ?_; refine hK16 _ _ _ _ ?_; clear hK16 K16; refine HC_ret ?_; refine HQ_post rfl rfl (.cons (res_cellA (vs := [_, _, _, _, _, _, _, _, _, _, _, _, _, _, _, _, _]) rfl (known_L (k := 0) rfl) rfl rfl) .nil) (fun w1 hs1 => ?_); refine ⟨?_, hs1.keep⟩
      unfold turnE
      rw [if_neg (by omega), if_neg (by omega)]; rfl
set_option maxRecDepth 10000 in
theorem P_rTurn (f : Int) (r : Rec) : Pure Tryz.prog 33 [.int .i64 f, r.val].toArray (.tuple #[(turnR f r).1.val, .int .i64 (turnR f r).2]) := by
  refine pure_of_HC Tryz.func33 rfl rfl fun w => ?_; refine HC_seq fun K1 hK1 => ?_; refine HC_region ?_; refine HL_box (cs := r.cells.toArray) rfl rfl rfl rfl fun rb => ?_; refine HL_alloc (cs := #[_, _, _, _, _, _, _, _, _, _, _, _, _, _, _, _, _]) rfl rfl rfl rfl fun r1 => ?_; refine HL_r rfl rfl rfl rfl (R_assign rfl) ?_; refine HL_nil ?_; refine HQ_then ?_; refine hK1 _ _ _ _ ?_; clear hK1 K1; refine HC_seq fun K2 hK2 => ?_; refine HC_seq fun K3 hK3 => ?_; refine HC_region ?_; refine HL_r rfl rfl rfl rfl (R_move rfl) ?_; refine HL_r rfl rfl rfl rfl (R_pure rfl rfl rfl) ?_; refine HL_r rfl rfl rfl rfl (R_move rfl) ?_
  refine HL_case 9 rfl (fun hb4 => ?_) (fun hb4 => ?_) <;> (try simp only [Z1, Z2, Z3, Z4, Z5, Z6, Z7, Z8, Z9, Z10, Z11, Z12, Z13] at hb4) <;> first | (refine HL_r rfl rfl rfl rfl (R_move rfl) ?_) | (refine HL_skip rfl rfl rfl ?_)
  all_goals first
    | (refine HL_r rfl rfl rfl rfl (R_pure rfl rfl rfl) ?_)
    | (refine HL_skip rfl rfl rfl ?_)
  all_goals first
    | (refine HL_r rfl rfl rfl rfl (R_pickT rfl rfl) ?_)
    | (refine HL_r rfl rfl rfl rfl (R_pickF rfl rfl) ?_)
  all_goals refine HL_nil ?_
  all_goals (
   refine HQ_then ?_; refine hK3 _ _ _ _ ?_; clear hK3 K3; refine HC_cond rfl (fun h6 => ?_) (fun h6 => ?_)
   · try exact Bool.noConfusion h6
     try simp only [Z1, Z2, Z3, Z4, Z5, Z6, Z7, Z8, Z9, Z10, Z11, Z12, Z13] at h6
     refine HC_seq fun K7 hK7 => ?_; refine HC_region ?_; refine HL_r rfl rfl rfl rfl (R_build (r := [_, _, _, _, _, _, _, _, _, _, _, _, _, _, _, _, _]) rfl rfl) ?_; refine HL_storeArr (k := 0) (n := 17) (ys := (rec0).cells) rfl rfl rfl rfl rfl rfl rfl rfl rfl ?_; refine HL_r rfl rfl rfl rfl (R_assign rfl) ?_; refine HL_nil ?_; refine HQ_then ?_; refine hK7 _ _ _ _ ?_; clear hK7 K7; refine HC_ret ?_; refine HQ_thenR ?_; clear hK2 K2; refine HQ_post rfl rfl (.cons (res_cellA (vs := [_, _, _, _, _, _, _, _, _, _, _, _, _, _, _, _, _]) rfl (known_L (k := 0) rfl) rfl rfl) (.cons (res_tmp rfl) .nil)) (fun w1 hs1 => ?_); refine ⟨?_, hs1.keep⟩
     unfold turnR
     rw [if_pos (by omega)]; rfl
   · try exact Bool.noConfusion h6
     all_goals try simp only [Z1, Z2, Z3, Z4, Z5, Z6, Z7, Z8, Z9, Z10, Z11, Z12, Z13] at h6
     all_goals (
      refine HC_skip ?_; refine HQ_then ?_; refine hK2 _ _ _ _ ?_; clear hK2 K2; refine HC_seq fun K8 hK8 => ?_; refine HC_region ?_; refine HL_r rfl rfl rfl rfl (R_move rfl) ?_; refine HL_r rfl rfl rfl rfl (R_loadArr (xs := r.cells) (n := 17) rfl (known_L (k := 1) rfl) rfl rfl rfl) ?_; refine HL_callP rfl rfl rfl (enters_of Tryz.func18 (by kernel_rfl) rfl) (P_rFits f r) ?_; refine HL_r rfl rfl rfl rfl (R_assign rfl) ?_; refine HL_nil ?_; refine HQ_then ?_; refine hK8 _ _ _ _ ?_; clear hK8 K8; refine HC_seq fun K9 hK9 => ?_; refine HC_seq fun K10 hK10 => ?_; refine HC_region ?_; refine HL_r rfl rfl rfl rfl (R_move rfl) ?_; refine HL_r rfl rfl rfl rfl (R_pure rfl rfl rfl) ?_; refine HL_nil ?_; refine HQ_then ?_; refine hK10 _ _ _ _ ?_; clear hK10 K10; refine HC_cond rfl (fun h11 => ?_) (fun h11 => ?_)
      · try exact Bool.noConfusion h11
        try simp only [Z1, Z2, Z3, Z4, Z5, Z6, Z7, Z8, Z9, Z10, Z11, Z12, Z13] at h11
        refine HC_seq fun K12 hK12 => ?_; refine HC_region ?_; refine HL_r rfl rfl rfl rfl (R_build (r := [_, _, _, _, _, _, _, _, _, _, _, _, _, _, _, _, _]) rfl rfl) ?_; refine HL_r rfl rfl rfl rfl (R_move rfl) ?_; refine HL_storeArr (k := 0) (n := 17) (ys := (rec0).cells) rfl rfl rfl rfl rfl rfl rfl rfl rfl ?_; refine HL_r rfl rfl rfl rfl (R_assign rfl) ?_; refine HL_nil ?_; refine HQ_then ?_; refine hK12 _ _ _ _ ?_; clear hK12 K12; refine HC_ret ?_; refine HQ_thenR ?_; clear hK9 K9; refine HQ_post rfl rfl (.cons (res_cellA (vs := [_, _, _, _, _, _, _, _, _, _, _, _, _, _, _, _, _]) rfl (known_L (k := 0) rfl) rfl rfl) (.cons (res_tmp rfl) .nil)) (fun w1 hs1 => ?_); refine ⟨?_, hs1.keep⟩
        unfold turnR
        rw [if_neg (by omega), if_pos (by omega)]; rfl
      · try exact Bool.noConfusion h11
        try simp only [Z1, Z2, Z3, Z4, Z5, Z6, Z7, Z8, Z9, Z10, Z11, Z12, Z13] at h11
        refine HC_skip ?_; refine HQ_then ?_; refine hK9 _ _ _ _ ?_; clear hK9 K9; refine HC_seq fun K13 hK13 => ?_; refine HC_region ?_; refine HL_r rfl rfl rfl rfl (R_move rfl) ?_; refine HL_r rfl rfl rfl rfl (R_loadArr (xs := r.cells) (n := 17) rfl (known_L (k := 1) rfl) rfl rfl rfl) ?_; refine HL_callP rfl rfl rfl (enters_of Tryz.func78 (by kernel_rfl) rfl) (P_rturn f r) ?_; refine HL_storeArr (k := 0) (n := 17) (ys := (turnE f r).cells) rfl rfl rfl rfl rfl rfl rfl rfl rfl ?_; refine HL_r rfl rfl rfl rfl (R_assign rfl) ?_; refine HL_nil ?_; refine HQ_then ?_; refine hK13 _ _ _ _ ?_; clear hK13 K13; refine HC_ret ?_; refine HQ_post rfl rfl (.cons (res_cellA (vs := [_, _, _, _, _, _, _, _, _, _, _, _, _, _, _, _, _]) rfl (known_L (k := 0) rfl) rfl rfl) (.cons (res_tmp rfl) .nil)) (fun w1 hs1 => ?_); refine ⟨?_, hs1.keep⟩
        unfold turnR
        rw [if_neg (by omega), if_neg (by omega)]; rfl
      skip)
   skip)
set_option maxRecDepth 10000 in
theorem P_rway (f g : Int) : Pure Tryz.prog 81 [.int .i64 f, .int .i64 g].toArray (.bool (decide (SL.Way f g))) := by
  have e : decide (SL.Way f g) = (decide (f ≥ 0) && (decide (f ≤ g) && decide (g ≤ 5))) := by
    rw [Bool.eq_iff_iff]; simp only [Bool.and_eq_true, decide_eq_true_eq, ge_iff_le]; exact Iff.rfl
  rw [e]; refine pure_of_HC Tryz.func81 rfl rfl fun w => ?_; refine HC_seq fun K1 hK1 => ?_; refine HC_region ?_; refine HL_r rfl rfl rfl rfl (R_assign rfl) ?_; refine HL_nil ?_; refine HQ_then ?_; refine hK1 _ _ _ _ ?_; clear hK1 K1; refine HC_seq fun K2 hK2 => ?_; refine HC_region ?_; refine HL_r rfl rfl rfl rfl (R_move rfl) ?_; refine HL_r rfl rfl rfl rfl (R_pure rfl rfl rfl) ?_; refine HL_r rfl rfl rfl rfl (R_move rfl) ?_
  refine HL_case 7 rfl (fun hb3 => ?_) (fun hb3 => ?_) <;> (try simp only [Z1, Z2, Z3, Z4, Z5, Z6, Z7, Z8, Z9, Z10, Z11, Z12, Z13] at hb3) <;> first | (refine HL_r rfl rfl rfl rfl (R_move rfl) ?_) | (refine HL_skip rfl rfl rfl ?_)
  all_goals first
    | (refine HL_r rfl rfl rfl rfl (R_move rfl) ?_)
    | (refine HL_skip rfl rfl rfl ?_)
  all_goals first
    | (refine HL_r rfl rfl rfl rfl (R_pure rfl rfl rfl) ?_)
    | (refine HL_skip rfl rfl rfl ?_)
  all_goals first
    | (refine HL_r rfl rfl rfl rfl (R_pickT rfl rfl) ?_)
    | (refine HL_r rfl rfl rfl rfl (R_pickF rfl rfl) ?_)
  all_goals refine HL_r rfl rfl rfl rfl (R_move rfl) ?_
  all_goals first
    | (refine HL_skip rfl rfl rfl ?_)
    | (refine HL_case 12 rfl (fun hb6 => ?_) (fun hb6 => ?_) <;> (try simp only [Z1, Z2, Z3, Z4, Z5, Z6, Z7, Z8, Z9, Z10, Z11, Z12, Z13] at hb6) <;> first | (refine HL_r rfl rfl rfl rfl (R_move rfl) ?_) | (refine HL_skip rfl rfl rfl ?_))
  all_goals first
    | (refine HL_r rfl rfl rfl rfl (R_pure rfl rfl rfl) ?_)
    | (refine HL_skip rfl rfl rfl ?_)
  all_goals first
    | (refine HL_r rfl rfl rfl rfl (R_pickT rfl rfl) ?_)
    | (refine HL_r rfl rfl rfl rfl (R_pickF rfl rfl) ?_)
  all_goals refine HL_r rfl rfl rfl rfl (R_assign rfl) ?_
  all_goals refine HL_nil ?_
  all_goals (
   refine HQ_then ?_; refine hK2 _ _ _ _ ?_; clear hK2 K2; refine HC_ret ?_; refine HQ_post rfl rfl (.cons (res_tmp rfl) .nil) (fun w1 hs1 => ?_); refine ⟨?_, hs1.keep⟩
   simp_all [resVal]
   all_goals first | done | omega | trace_state
   skip)
set_option maxRecDepth 10000 in
theorem P_rTurns (f g : Int) (r : Rec) : Pure Tryz.prog 35 [.int .i64 f, .int .i64 g, r.val].toArray (.tuple #[(turnsR f g r).1.val, .int .i64 (turnsR f g r).2]) := by
  by_cases hf : SL.Way f g
  · have hw : decide (SL.Way f g) = true := decide_eq_true hf
    have hb : 0 ≤ f ∧ f ≤ g ∧ g ≤ 5 := hf
    obtain ⟨res, hres⟩ : ∃ res, res = turnsL (g - f).toNat f r := ⟨_, rfl⟩
    have e : turnsR f g r = if fitsE f r ≠ 0 then (rec0, fitsE f r) else (res, 0) := by unfold turnsR; rw [if_neg (by simpa using hf), hres]
    rw [e]; refine pure_of_HC Tryz.func35 rfl rfl fun w => ?_; refine HC_seq fun K1 hK1 => ?_; refine HC_region ?_; refine HL_box (cs := r.cells.toArray) rfl rfl rfl rfl fun rb => ?_; refine HL_alloc (cs := #[_, _, _, _, _, _, _, _, _, _, _, _, _, _, _, _, _]) rfl rfl rfl rfl fun r1 => ?_; refine HL_r rfl rfl rfl rfl (R_assign rfl) ?_; refine HL_nil ?_; refine HQ_then ?_; refine hK1 _ _ _ _ ?_; clear hK1 K1; refine HC_seq fun K2 hK2 => ?_; refine HC_seq fun K3 hK3 => ?_; refine HC_region ?_; refine HL_r rfl rfl rfl rfl (R_move rfl) ?_; refine HL_r rfl rfl rfl rfl (R_move rfl) ?_; refine HL_callP rfl rfl rfl (enters_of Tryz.func81 (by kernel_rfl) rfl) (P_rway f g) ?_; refine HL_as (as_bool hw) ?_; refine HL_r rfl rfl rfl rfl (R_pure rfl rfl rfl) ?_; refine HL_nil ?_; refine HQ_then ?_; refine hK3 _ _ _ _ ?_; clear hK3 K3; refine HC_cond rfl (fun h4 => ?_) (fun h4 => ?_)
    · try exact Bool.noConfusion h4
    · try exact Bool.noConfusion h4
      try simp only [Z1, Z2, Z3, Z4, Z5, Z6, Z7, Z8, Z9, Z10, Z11, Z12, Z13] at h4
      refine HC_skip ?_; refine HQ_then ?_; refine hK2 _ _ _ _ ?_; clear hK2 K2; refine HC_seq fun K6 hK6 => ?_; refine HC_region ?_; refine HL_r rfl rfl rfl rfl (R_move rfl) ?_; refine HL_r rfl rfl rfl rfl (R_loadArr (xs := r.cells) (n := 17) rfl (known_L (k := 1) rfl) rfl rfl rfl) ?_; refine HL_callP rfl rfl rfl (enters_of Tryz.func18 (by kernel_rfl) rfl) (P_rFits f r) ?_; refine HL_r rfl rfl rfl rfl (R_assign rfl) ?_; refine HL_nil ?_; refine HQ_then ?_; refine hK6 _ _ _ _ ?_; clear hK6 K6; refine HC_seq fun K7 hK7 => ?_; refine HC_seq fun K8 hK8 => ?_; refine HC_region ?_; refine HL_r rfl rfl rfl rfl (R_move rfl) ?_; refine HL_r rfl rfl rfl rfl (R_pure rfl rfl rfl) ?_; refine HL_nil ?_; refine HQ_then ?_; refine hK8 _ _ _ _ ?_; clear hK8 K8; refine HC_cond rfl (fun h9 => ?_) (fun h9 => ?_)
      · try exact Bool.noConfusion h9
        try simp only [Z1, Z2, Z3, Z4, Z5, Z6, Z7, Z8, Z9, Z10, Z11, Z12, Z13] at h9
        refine HC_seq fun K10 hK10 => ?_; refine HC_region ?_; refine HL_r rfl rfl rfl rfl (R_build (r := [_, _, _, _, _, _, _, _, _, _, _, _, _, _, _, _, _]) rfl rfl) ?_; refine HL_r rfl rfl rfl rfl (R_move rfl) ?_; refine HL_storeArr (k := 0) (n := 17) (ys := (rec0).cells) rfl rfl rfl rfl rfl rfl rfl rfl rfl ?_; refine HL_r rfl rfl rfl rfl (R_assign rfl) ?_; refine HL_nil ?_; refine HQ_then ?_; refine hK10 _ _ _ _ ?_; clear hK10 K10; refine HC_ret ?_; refine HQ_thenR ?_; clear hK7 K7; refine HQ_post rfl rfl (.cons (res_cellA (vs := [_, _, _, _, _, _, _, _, _, _, _, _, _, _, _, _, _]) rfl (known_L (k := 0) rfl) rfl rfl) (.cons (res_tmp rfl) .nil)) (fun w1 hs1 => ?_); rw [if_pos (by omega)]; exact ⟨rfl, hs1.keep⟩
      · try exact Bool.noConfusion h9
        try simp only [Z1, Z2, Z3, Z4, Z5, Z6, Z7, Z8, Z9, Z10, Z11, Z12, Z13] at h9
        refine HC_skip ?_; refine HQ_then ?_; refine hK7 _ _ _ _ ?_; clear hK7 K7; refine HC_seq fun K11 hK11 => ?_; refine HC_seq fun K12 hK12 => ?_; refine HC_region ?_; refine HL_r rfl rfl rfl rfl (R_move rfl) ?_; refine HL_r rfl rfl rfl rfl (R_assign rfl) ?_; refine HL_nil ?_; refine HQ_then ?_; refine hK12 _ _ _ _ ?_; clear hK12 K12; refine HC_block ?_; refine HC_loop (σ := Int × Rec) (fun q => f ≤ q.1 ∧ q.1 ≤ g ∧ res = turnsL (g - q.1).toNat q.1 q.2) (fun q => [(1, .int .i64 g), (5, ptV rb 0), (6, ptV r1 0), (7, .int .i64 0), (9, .int .i64 q.1)]) (fun q => [(r1, .cells rec0.cells.toArray 29 (0, 0)), (rb, .cells q.2.cells.toArray 29 (0, 0))]) (fun _ _ _ => True) (fun q => (g - q.1).toNat) (f, r) ⟨Int.le_refl _, hb.2.1, hres⟩ (.cons rfl (.cons rfl (.cons rfl (.cons rfl (.cons rfl .nil))))) (List.Sublist.refl _) (fun _ _ h => h) ?_; rintro ⟨i, s⟩ ⟨hfi, hig, hinv⟩; simp only at hfi hig hinv; change HC _ _ [(1, _), (5, _), (6, _), (7, _), (9, .int .i64 i)] [(r1, _), (rb, .cells s.cells.toArray _ (0, 0))] _ _ _; refine HC_seq fun K13 hK13 => ?_; refine HC_seq fun K14 hK14 => ?_; refine HC_region ?_; refine HL_r rfl rfl rfl rfl (R_move rfl) ?_; refine HL_r rfl rfl rfl rfl (R_move rfl) ?_; refine HL_r rfl rfl rfl rfl (R_pure rfl rfl rfl) ?_; refine HL_nil ?_; refine HQ_then ?_; refine hK14 _ _ _ _ ?_; clear hK14 K14; refine HC_cond rfl (fun h15 => ?_) (fun h15 => ?_)
        · try exact Bool.noConfusion h15
          try simp only [Z1, Z2, Z3, Z4, Z5, Z6, Z7, Z8, Z9, Z10, Z11, Z12, Z13] at h15
          refine HC_skip ?_; refine HQ_then ?_; refine hK13 _ _ _ _ ?_; clear hK13 K13; refine HC_seq fun K16 hK16 => ?_; refine HC_block ?_; rw [show (g - i).toNat = (g - (i + 1)).toNat + 1 by omega] at hinv; refine HC_region ?_; refine HL_r rfl rfl rfl rfl (R_move rfl) ?_; refine HL_r rfl rfl rfl rfl (R_loadArr (xs := s.cells) (n := 17) rfl (known_L (k := 1) rfl) rfl rfl rfl) ?_; refine HL_callP rfl rfl rfl (enters_of Tryz.func78 (by kernel_rfl) rfl) (P_rturn i s) ?_; refine HL_storeArr (k := 1) (n := 17) (ys := (turnE i s).cells) rfl rfl rfl rfl rfl rfl rfl rfl rfl ?_; refine HL_nil ?_; refine HQ_blockN ?_; refine HQ_then ?_; refine hK16 _ _ _ _ ?_; clear hK16 K16; refine HC_region ?_; refine HL_r rfl rfl rfl rfl (R_move rfl) ?_; refine HL_r rfl rfl rfl rfl (R_pure rfl rfl rfl) ?_; refine HL_wrap_i64 (by omega) (by omega) ?_; refine HL_r rfl rfl rfl rfl (R_assign rfl) ?_; refine HL_nil ?_; refine HQ_then ?_; exact HQ_again (i + 1, turnE i s) ⟨by simp only; omega, by simp only; omega, hinv⟩ (by simp only; omega) (.cons rfl (.cons rfl (.cons rfl (.cons rfl (.cons rfl .nil))))) (List.Sublist.refl _) (fun _ _ h => h)
        · try exact Bool.noConfusion h15
          try simp only [Z1, Z2, Z3, Z4, Z5, Z6, Z7, Z8, Z9, Z10, Z11, Z12, Z13] at h15
          refine HC_exit ?_; refine HQ_thenE ?_; clear hK13 K13; refine HQ_thenE ?_; refine HQ_blockE ?_; refine HQ_then ?_; refine hK11 _ _ _ _ ?_; clear hK11 K11; refine HC_seq fun K17 hK17 => ?_; rw [show (g - i).toNat = 0 by omega] at hinv
          have hinv : res = s := hinv
          refine HC_region ?_; refine HL_r rfl rfl rfl rfl (R_loadArr (xs := s.cells) (n := 17) rfl (known_L (k := 1) rfl) rfl rfl rfl) ?_; refine HL_storeArr (k := 0) (n := 17) (ys := (s).cells) rfl rfl rfl rfl rfl rfl rfl rfl rfl ?_; refine HL_r rfl rfl rfl rfl (R_assign rfl) ?_; refine HL_nil ?_; refine HQ_then ?_; refine hK17 _ _ _ _ ?_; clear hK17 K17; refine HC_ret ?_; refine HQ_post rfl rfl (.cons (res_cellA (vs := [_, _, _, _, _, _, _, _, _, _, _, _, _, _, _, _, _]) rfl (known_L (k := 0) rfl) rfl rfl) (.cons (res_tmp rfl) .nil)) (fun w1 hs1 => ?_); rw [if_neg (by omega), hinv]; exact ⟨rfl, hs1.keep⟩
  · have e : turnsR f g r = (rec0, 10) := by unfold turnsR; rw [if_pos hf]
    have hw : decide (SL.Way f g) = false := decide_eq_false hf
    rw [e]; refine pure_of_HC Tryz.func35 rfl rfl fun w => ?_; refine HC_seq fun K1 hK1 => ?_; refine HC_region ?_; refine HL_box (cs := r.cells.toArray) rfl rfl rfl rfl fun rb => ?_; refine HL_alloc (cs := #[_, _, _, _, _, _, _, _, _, _, _, _, _, _, _, _, _]) rfl rfl rfl rfl fun r1 => ?_; refine HL_r rfl rfl rfl rfl (R_assign rfl) ?_; refine HL_nil ?_; refine HQ_then ?_; refine hK1 _ _ _ _ ?_; clear hK1 K1; refine HC_seq fun K2 hK2 => ?_; refine HC_seq fun K3 hK3 => ?_; refine HC_region ?_; refine HL_r rfl rfl rfl rfl (R_move rfl) ?_; refine HL_r rfl rfl rfl rfl (R_move rfl) ?_; refine HL_callP rfl rfl rfl (enters_of Tryz.func81 (by kernel_rfl) rfl) (P_rway f g) ?_; refine HL_as (as_bool hw) ?_; refine HL_r rfl rfl rfl rfl (R_pure rfl rfl rfl) ?_; refine HL_nil ?_; refine HQ_then ?_; refine hK3 _ _ _ _ ?_; clear hK3 K3; refine HC_cond rfl (fun h4 => ?_) (fun h4 => ?_)
    · try exact Bool.noConfusion h4
      try simp only [Z1, Z2, Z3, Z4, Z5, Z6, Z7, Z8, Z9, Z10, Z11, Z12, Z13] at h4
      refine HC_seq fun K5 hK5 => ?_; refine HC_region ?_; refine HL_r rfl rfl rfl rfl (R_build (r := [_, _, _, _, _, _, _, _, _, _, _, _, _, _, _, _, _]) rfl rfl) ?_; refine HL_storeArr (k := 0) (n := 17) (ys := (rec0).cells) rfl rfl rfl rfl rfl rfl rfl rfl rfl ?_; refine HL_r rfl rfl rfl rfl (R_assign rfl) ?_; refine HL_nil ?_; refine HQ_then ?_; refine hK5 _ _ _ _ ?_; clear hK5 K5; refine HC_ret ?_; refine HQ_thenR ?_; clear hK2 K2; refine HQ_post rfl rfl (.cons (res_cellA (vs := [_, _, _, _, _, _, _, _, _, _, _, _, _, _, _, _, _]) rfl (known_L (k := 0) rfl) rfl rfl) (.cons (res_tmp rfl) .nil)) (fun w1 hs1 => ?_); exact ⟨rfl, hs1.keep⟩
    · try exact Bool.noConfusion h4
set_option maxRecDepth 10000 in
theorem S_rStep {R : List (Nat × Obj)} (f : Int) {s : StL} (hs : s.In R) : PureT (α := StRes R (stepS f s.er)) Tryz.prog 37 [.int .i64 f, s.val].toArray (fun x => x.val) [] (fun x => x.L) R := by
  by_cases hf : f < 0 ∨ f > 4
  · have e : stepS f s.er = (s.er, 10) := by unfold stepS; rw [if_pos hf]
    rw [e]; refine pureT_of_HC Tryz.func37 rfl rfl fun w => ?_; refine HC_seq fun K1 hK1 => ?_; refine HC_region ?_; refine HL_box (cs := s.cells.toArray) rfl rfl rfl rfl fun rb => ?_; refine HL_alloc (cs := #[_]) rfl rfl rfl rfl fun r1 => ?_; refine HL_r rfl rfl rfl rfl (R_assign rfl) ?_; refine HL_nil ?_; refine HQ_then ?_; refine hK1 _ _ _ _ ?_; clear hK1 K1; refine HC_seq fun K2 hK2 => ?_; refine HC_seq fun K3 hK3 => ?_; refine HC_region ?_; refine HL_r rfl rfl rfl rfl (R_move rfl) ?_; refine HL_r rfl rfl rfl rfl (R_pure rfl rfl rfl) ?_; refine HL_r rfl rfl rfl rfl (R_move rfl) ?_
    refine HL_case 10 rfl (fun hb4 => ?_) (fun hb4 => ?_) <;> (try simp only [Z1, Z2, Z3, Z4, Z5, Z6, Z7, Z8, Z9, Z10, Z11, Z12, Z13] at hb4) <;> first | (refine HL_r rfl rfl rfl rfl (R_move rfl) ?_) | (refine HL_skip rfl rfl rfl ?_)
    all_goals first
      | (refine HL_r rfl rfl rfl rfl (R_pure rfl rfl rfl) ?_)
      | (refine HL_skip rfl rfl rfl ?_)
    all_goals first
      | (refine HL_r rfl rfl rfl rfl (R_pickT rfl rfl) ?_)
      | (refine HL_r rfl rfl rfl rfl (R_pickF rfl rfl) ?_)
    all_goals refine HL_nil ?_
    all_goals (
     refine HQ_then ?_; refine hK3 _ _ _ _ ?_; clear hK3 K3; refine HC_cond rfl (fun h6 => ?_) (fun h6 => ?_)
     · try exact Bool.noConfusion h6
       try simp only [Z1, Z2, Z3, Z4, Z5, Z6, Z7, Z8, Z9, Z10, Z11, Z12, Z13] at h6
       refine HC_seq fun K7 hK7 => ?_; refine HC_region ?_; refine HL_r rfl rfl rfl rfl (R_loadArr (xs := s.cells) (n := 1) rfl (known_L (k := 1) rfl) rfl rfl rfl) ?_; refine HL_storeArr (k := 0) (n := 1) (ys := s.cells) rfl rfl rfl rfl rfl rfl rfl rfl rfl ?_; refine HL_r rfl rfl rfl rfl (R_assign rfl) ?_; refine HL_nil ?_; refine HQ_then ?_; refine hK7 _ _ _ _ ?_; clear hK7 K7; refine HC_ret ?_; refine HQ_thenR ?_; clear hK2 K2; refine HQ_post rfl rfl (.cons (res_cellA (vs := [_]) rfl (known_L (k := 0) rfl) rfl rfl) (.cons (res_tmp rfl) .nil)) (fun w1 hs1 => ?_); exact ⟨⟨s, 10, [], hs, rfl⟩, rfl, hs1.weakL (List.nil_sublist _)⟩
     · try exact Bool.noConfusion h6
       all_goals try simp only [Z1, Z2, Z3, Z4, Z5, Z6, Z7, Z8, Z9, Z10, Z11, Z12, Z13] at h6
       all_goals (
        refine HC_skip ?_; refine HQ_then ?_; refine hK2 _ _ _ _ ?_; clear hK2 K2; refine HC_seq fun K8 hK8 => ?_; refine HC_region ?_; refine HL_r rfl rfl rfl rfl (R_move rfl) ?_; refine HL_r rfl rfl rfl rfl (R_loadA (vs := [_]) rfl (known_L (k := 1) rfl) rfl rfl rfl rfl) ?_
        exfalso; omega
        skip)
     skip)
  · have hf2 : 0 ≤ f ∧ f ≤ 4 := by omega
    have e : stepS f s.er = if (readS f s.er).2 ≠ 0 then (s.er, (readS f s.er).2) else writeE (f + 1) s.er (turnE f (readS f s.er).1) := by unfold stepS; rw [if_neg hf]
    rw [e]
    have hrd := S_rlRead f hs
    have hrok := rd_ok f s.er
    generalize readS f s.er = rd at hrd hrok
    obtain ⟨rd, re⟩ := rd
    simp only at hrd hrok
    have hwr := S_rWrite (f + 1) hs (turn_ok (f := f) hrok)
    refine pureT_of_HCH Tryz.func37 rfl rfl fun w hR => ?_
    obtain ⟨x0⟩ := hwr.ne hR
    refine HC_seq fun K1 hK1 => ?_; refine HC_region ?_; refine HL_box (cs := s.cells.toArray) rfl rfl rfl rfl fun rb => ?_; refine HL_alloc (cs := #[_]) rfl rfl rfl rfl fun r1 => ?_; refine HL_r rfl rfl rfl rfl (R_assign rfl) ?_; refine HL_nil ?_; refine HQ_then ?_; refine hK1 _ _ _ _ ?_; clear hK1 K1; refine HC_seq fun K2 hK2 => ?_; refine HC_seq fun K3 hK3 => ?_; refine HC_region ?_; refine HL_r rfl rfl rfl rfl (R_move rfl) ?_; refine HL_r rfl rfl rfl rfl (R_pure rfl rfl rfl) ?_; refine HL_r rfl rfl rfl rfl (R_move rfl) ?_
    refine HL_case 10 rfl (fun hb4 => ?_) (fun hb4 => ?_) <;> (try simp only [Z1, Z2, Z3, Z4, Z5, Z6, Z7, Z8, Z9, Z10, Z11, Z12, Z13] at hb4) <;> first | (refine HL_r rfl rfl rfl rfl (R_move rfl) ?_) | (refine HL_skip rfl rfl rfl ?_)
    all_goals first
      | (refine HL_r rfl rfl rfl rfl (R_pure rfl rfl rfl) ?_)
      | (refine HL_skip rfl rfl rfl ?_)
    all_goals first
      | (refine HL_r rfl rfl rfl rfl (R_pickT rfl rfl) ?_)
      | (refine HL_r rfl rfl rfl rfl (R_pickF rfl rfl) ?_)
    all_goals refine HL_nil ?_
    all_goals (
     refine HQ_then ?_; refine hK3 _ _ _ _ ?_; clear hK3 K3; refine HC_cond rfl (fun h6 => ?_) (fun h6 => ?_)
     · try exact Bool.noConfusion h6
       try simp only [Z1, Z2, Z3, Z4, Z5, Z6, Z7, Z8, Z9, Z10, Z11, Z12, Z13] at h6
       refine HC_seq fun K7 hK7 => ?_; refine HC_region ?_
       exfalso; omega
     · try exact Bool.noConfusion h6
       all_goals try simp only [Z1, Z2, Z3, Z4, Z5, Z6, Z7, Z8, Z9, Z10, Z11, Z12, Z13] at h6
       all_goals (
        refine HC_skip ?_; refine HQ_then ?_; refine hK2 _ _ _ _ ?_; clear hK2 K2; refine HC_seq fun K8 hK8 => ?_; refine HC_region ?_; refine HL_r rfl rfl rfl rfl (R_move rfl) ?_; refine HL_r rfl rfl rfl rfl (R_loadArr (xs := s.cells) (n := 1) rfl (known_L (k := 1) rfl) rfl rfl rfl) ?_; refine HL_callR rfl rfl rfl (enters_of Tryz.func26 (by kernel_rfl) rfl) hrd (fun q hq => Or.inr hq) ?_; refine HL_r rfl rfl rfl rfl (R_move rfl) ?_; refine HL_r rfl rfl rfl rfl (R_extract rfl rfl) ?_; refine HL_r rfl rfl rfl rfl (R_extract rfl rfl) ?_; refine HL_alloc (cs := #[_, _, _, _, _, _, _, _, _, _, _, _, _, _, _, _, _]) rfl rfl rfl rfl fun r2 => ?_; refine HL_storeArr (k := 0) (n := 17) (ys := (rd).cells) rfl rfl rfl rfl rfl rfl rfl rfl rfl ?_; refine HL_r rfl rfl rfl rfl (R_assign rfl) ?_; refine HL_nil ?_; refine HQ_then ?_; refine hK8 _ _ _ _ ?_; clear hK8 K8; refine HC_seq fun K9 hK9 => ?_; refine HC_seq fun K10 hK10 => ?_; refine HC_region ?_; refine HL_r rfl rfl rfl rfl (R_move rfl) ?_; refine HL_r rfl rfl rfl rfl (R_pure rfl rfl rfl) ?_; refine HL_nil ?_; refine HQ_then ?_; refine hK10 _ _ _ _ ?_; clear hK10 K10; refine HC_cond rfl (fun h11 => ?_) (fun h11 => ?_)
        · try exact Bool.noConfusion h11
          try simp only [Z1, Z2, Z3, Z4, Z5, Z6, Z7, Z8, Z9, Z10, Z11, Z12, Z13] at h11
          refine HC_seq fun K12 hK12 => ?_; refine HC_region ?_; refine HL_r rfl rfl rfl rfl (R_loadArr (xs := s.cells) (n := 1) rfl (known_L (k := 2) rfl) rfl rfl rfl) ?_; refine HL_r rfl rfl rfl rfl (R_move rfl) ?_; refine HL_storeArr (k := 1) (n := 1) (ys := s.cells) rfl rfl rfl rfl rfl rfl rfl rfl rfl ?_; refine HL_r rfl rfl rfl rfl (R_assign rfl) ?_; refine HL_nil ?_; refine HQ_then ?_; refine hK12 _ _ _ _ ?_; clear hK12 K12; refine HC_ret ?_; refine HQ_thenR ?_; clear hK9 K9; refine HQ_post rfl rfl (.cons (res_cellA (vs := [_]) rfl (known_L (k := 1) rfl) rfl rfl) (.cons (res_tmp rfl) .nil)) (fun w1 hs1 => ?_); rw [if_pos (by omega)]; exact ⟨⟨s, re, [], hs, rfl⟩, rfl, hs1.weakL (List.nil_sublist _)⟩
        · try exact Bool.noConfusion h11
          try simp only [Z1, Z2, Z3, Z4, Z5, Z6, Z7, Z8, Z9, Z10, Z11, Z12, Z13] at h11
          refine HC_skip ?_; refine HQ_then ?_; refine hK9 _ _ _ _ ?_; clear hK9 K9; refine HC_seq fun K13 hK13 => ?_
          refine HC_drawB [] [(0, .pure), (1, .pure), (3, .pure), (5, .pure), (6, .grow (geCall x0 StRes.val StRes.L)), (7, .pure), (8, .pure)] 9 [0, 1, 2, 3, 4, 5, 6, 7, 8] (by kernel_rfl) (by kernel_rfl) (by first | exact (fun _ h => nomatch h) | simp [SubS] | (intro p hp; simp [hp])) ?_; refine HB_p (k := 0) rfl rfl rfl rfl rfl (fun _ hS => (R_move rfl)) ?_; refine HB_p (k := 1) rfl rfl rfl rfl rfl (fun _ hS => (R_pure rfl rfl rfl)) ?_; refine HB_wrap_i64 (by omega) (by omega) ?_; refine HB_r (k := 2) rfl rfl rfl rfl rfl (R_loadArr (xs := s.cells) (n := 1) rfl (known_L (k := 2) rfl) rfl rfl rfl) ?_; refine HB_p (k := 3) rfl rfl rfl rfl rfl (fun _ hS => (R_move rfl)) ?_; refine HB_r (k := 4) rfl rfl rfl rfl rfl (R_loadArr (xs := rd.cells) (n := 17) rfl (known_L (k := 0) rfl) rfl rfl rfl) ?_; refine HB_callP (k := 5) rfl rfl rfl rfl rfl (enters_of Tryz.func78 (by kernel_rfl) rfl) (P_rturn f rd) ?_; refine HB_callRE (k := 6) rfl rfl rfl rfl rfl (enters_of Tryz.func16 (by kernel_rfl) rfl) hwr (fun q hq => Or.inr hq) fun x => ?_; refine HB_p (k := 7) rfl rfl rfl rfl rfl (fun _ hS => (R_extract rfl rfl)) ?_; refine HB_p (k := 8) rfl rfl rfl rfl rfl (fun _ hS => (R_extract rfl rfl)) ?_; refine HB_end ?_; refine HL_perm List.perm_append_comm ?_; change HL _ _ _ ((r2, _) :: (r1, _) :: (rb, _) :: x.L) _ _ _ _; refine HL_storeArr (k := 1) (n := 1) (ys := x.s.cells) rfl rfl rfl rfl rfl rfl rfl rfl rfl ?_; refine HL_r rfl rfl rfl rfl (R_assign rfl) ?_; refine HL_nil ?_; refine HQ_then ?_; refine hK13 _ _ _ _ ?_; clear hK13 K13; refine HC_ret ?_; refine HQ_post rfl rfl (.cons (res_cellA (vs := [_]) rfl (known_L (k := 1) rfl) rfl rfl) (.cons (res_tmp rfl) .nil)) (fun w1 hs1 => ?_); rw [if_neg (by omega)]; exact ⟨x, rfl, hs1.weakL (.cons _ (.cons _ (.cons _ (List.Sublist.refl _))))⟩
        skip)
     skip)
set_option maxRecDepth 10000 in
theorem S_rMigrate {R : List (Nat × Obj)} (f g : Int) {s : StL} (hs : s.In R) : PureT (α := StRes R (migE f g s.er)) Tryz.prog 39 [.int .i64 f, .int .i64 g, s.val].toArray (fun x => x.val) [] (fun x => x.L) R := by
  by_cases hf : SL.Way f g
  · have hw : decide (SL.Way f g) = true := decide_eq_true hf
    have hb : 0 ≤ f ∧ f ≤ g ∧ g ≤ 5 := hf
    have hck := S_rlCheck f hs
    obtain ⟨res, hres⟩ : ∃ res, res = migL s.er (g - f).toNat f s.er := ⟨_, rfl⟩
    have e : migE f g s.er = if checkE f s.er ≠ 0 then (s.er, checkE f s.er) else res := by unfold migE; rw [if_neg (by simpa using hf), hres]
    rw [e]; refine pureT_of_HC Tryz.func39 rfl rfl fun w => ?_; refine HC_seq fun K1 hK1 => ?_; refine HC_region ?_; refine HL_box (cs := s.cells.toArray) rfl rfl rfl rfl fun rb => ?_; refine HL_alloc (cs := #[_]) rfl rfl rfl rfl fun r1 => ?_; refine HL_r rfl rfl rfl rfl (R_assign rfl) ?_; refine HL_nil ?_; refine HQ_then ?_; refine hK1 _ _ _ _ ?_; clear hK1 K1; refine HC_seq fun K2 hK2 => ?_; refine HC_seq fun K3 hK3 => ?_; refine HC_region ?_; refine HL_r rfl rfl rfl rfl (R_move rfl) ?_; refine HL_r rfl rfl rfl rfl (R_move rfl) ?_; refine HL_callP rfl rfl rfl (enters_of Tryz.func81 (by kernel_rfl) rfl) (P_rway f g) ?_; refine HL_as (as_bool hw) ?_; refine HL_r rfl rfl rfl rfl (R_pure rfl rfl rfl) ?_; refine HL_nil ?_; refine HQ_then ?_; refine hK3 _ _ _ _ ?_; clear hK3 K3; refine HC_cond rfl (fun h4 => ?_) (fun h4 => ?_)
    · try exact Bool.noConfusion h4
    · try exact Bool.noConfusion h4
      try simp only [Z1, Z2, Z3, Z4, Z5, Z6, Z7, Z8, Z9, Z10, Z11, Z12, Z13] at h4
      refine HC_skip ?_; refine HQ_then ?_; refine hK2 _ _ _ _ ?_; clear hK2 K2; refine HC_seq fun K6 hK6 => ?_; refine HC_region ?_; refine HL_r rfl rfl rfl rfl (R_move rfl) ?_; refine HL_r rfl rfl rfl rfl (R_loadArr (xs := s.cells) (n := 1) rfl (known_L (k := 1) rfl) rfl rfl rfl) ?_; refine HL_callR rfl rfl rfl (enters_of Tryz.func24 (by kernel_rfl) rfl) hck (fun q hq => Or.inr hq) ?_; refine HL_r rfl rfl rfl rfl (R_assign rfl) ?_; refine HL_nil ?_; refine HQ_then ?_; refine hK6 _ _ _ _ ?_; clear hK6 K6; refine HC_seq fun K7 hK7 => ?_; refine HC_seq fun K8 hK8 => ?_; refine HC_region ?_; refine HL_r rfl rfl rfl rfl (R_move rfl) ?_; refine HL_r rfl rfl rfl rfl (R_pure rfl rfl rfl) ?_; refine HL_nil ?_; refine HQ_then ?_; refine hK8 _ _ _ _ ?_; clear hK8 K8; refine HC_cond rfl (fun h9 => ?_) (fun h9 => ?_)
      · try exact Bool.noConfusion h9
        try simp only [Z1, Z2, Z3, Z4, Z5, Z6, Z7, Z8, Z9, Z10, Z11, Z12, Z13] at h9
        refine HC_seq fun K10 hK10 => ?_; refine HC_region ?_; refine HL_r rfl rfl rfl rfl (R_loadArr (xs := s.cells) (n := 1) rfl (known_L (k := 1) rfl) rfl rfl rfl) ?_; refine HL_r rfl rfl rfl rfl (R_move rfl) ?_; refine HL_storeArr (k := 0) (n := 1) (ys := s.cells) rfl rfl rfl rfl rfl rfl rfl rfl rfl ?_; refine HL_r rfl rfl rfl rfl (R_assign rfl) ?_; refine HL_nil ?_; refine HQ_then ?_; refine hK10 _ _ _ _ ?_; clear hK10 K10; refine HC_ret ?_; refine HQ_thenR ?_; clear hK7 K7; refine HQ_post rfl rfl (.cons (res_cellA (vs := [_]) rfl (known_L (k := 0) rfl) rfl rfl) (.cons (res_tmp rfl) .nil)) (fun w1 hs1 => ?_); rw [if_pos (by omega)]; exact ⟨⟨s, checkE f s.er, [], hs, rfl⟩, rfl, hs1.weakL (List.nil_sublist _)⟩
      · try exact Bool.noConfusion h9
        try simp only [Z1, Z2, Z3, Z4, Z5, Z6, Z7, Z8, Z9, Z10, Z11, Z12, Z13] at h9
        refine HC_skip ?_; refine HQ_then ?_; refine hK7 _ _ _ _ ?_; clear hK7 K7; refine HC_seq fun K11 hK11 => ?_; refine HC_region ?_; refine HL_r rfl rfl rfl rfl (R_loadArr (xs := s.cells) (n := 1) rfl (known_L (k := 1) rfl) rfl rfl rfl) ?_; refine HL_alloc (cs := #[_]) rfl rfl rfl rfl fun r2 => ?_; refine HL_storeArr (k := 0) (n := 1) (ys := s.cells) rfl rfl rfl rfl rfl rfl rfl rfl rfl ?_; refine HL_nil ?_; refine HQ_then ?_; refine hK11 _ _ _ _ ?_; clear hK11 K11; refine HC_seq fun K12 hK12 => ?_; refine HC_seq fun K13 hK13 => ?_; refine HC_region ?_; refine HL_r rfl rfl rfl rfl (R_move rfl) ?_; refine HL_r rfl rfl rfl rfl (R_assign rfl) ?_; refine HL_nil ?_; refine HQ_then ?_; refine hK13 _ _ _ _ ?_; clear hK13 K13; refine HC_block ?_; refine HC_loop (σ := Int × StSt R) (fun q => f ≤ q.1 ∧ q.1 ≤ g ∧ res = migL s.er (g - q.1).toNat q.1 q.2.s.er) (fun q => [(1, .int .i64 g), (5, ptV rb 0), (6, ptV r1 0), (7, .int .i64 0), (9, ptV r2 0), (10, .int .i64 q.1)]) (fun q => (r2, .cells q.2.s.cells.toArray 24 (0, 0)) :: (r1, .cells st0L.cells.toArray 24 (0, 0)) :: (rb, .cells s.cells.toArray 24 (0, 0)) :: q.2.L) (fun _ _ _ => True) (fun q => (g - q.1).toNat) (f, ⟨s, [], hs⟩) ⟨Int.le_refl _, hb.2.1, hres⟩ (.cons rfl (.cons rfl (.cons rfl (.cons rfl (.cons rfl (.cons rfl .nil)))))) (List.Sublist.refl _) (fun _ _ h => h) ?_; rintro ⟨i, t⟩ ⟨hfi, hig, hinv⟩; simp only at hfi hig hinv; change HC _ _ [(1, _), (5, _), (6, _), (7, _), (9, _), (10, .int .i64 i)] ((r2, .cells t.s.cells.toArray _ (0, 0)) :: (r1, _) :: (rb, _) :: t.L) _ _ _; refine HC_seq fun K14 hK14 => ?_; refine HC_seq fun K15 hK15 => ?_; refine HC_region ?_; refine HL_r rfl rfl rfl rfl (R_move rfl) ?_; refine HL_r rfl rfl rfl rfl (R_move rfl) ?_; refine HL_r rfl rfl rfl rfl (R_pure rfl rfl rfl) ?_; refine HL_nil ?_; refine HQ_then ?_; refine hK15 _ _ _ _ ?_; clear hK15 K15; refine HC_cond rfl (fun h16 => ?_) (fun h16 => ?_)
        · try exact Bool.noConfusion h16
          try simp only [Z1, Z2, Z3, Z4, Z5, Z6, Z7, Z8, Z9, Z10, Z11, Z12, Z13] at h16
          refine HC_skip ?_; refine HQ_then ?_; refine hK14 _ _ _ _ ?_; clear hK14 K14; refine HC_seq fun K17 hK17 => ?_; refine HC_block ?_; refine HC_seq fun K18 hK18 => ?_; rw [show (g - i).toNat = (g - (i + 1)).toNat + 1 by omega, mig_cons] at hinv; refine HC_region ?_; refine HL_r rfl rfl rfl rfl (R_move rfl) ?_; refine HL_r rfl rfl rfl rfl (R_loadArr (xs := t.s.cells) (n := 1) rfl (known_L (k := 0) rfl) rfl rfl rfl) ?_; refine HL_callRE rfl rfl rfl (enters_of Tryz.func37 (by kernel_rfl) rfl) (S_rStep (R := t.L ++ R) i t.ok) (fun q hq => (List.mem_append.1 hq).elim (fun h => Or.inl (List.mem_cons_of_mem _ (List.mem_cons_of_mem _ (List.mem_cons_of_mem _ h)))) Or.inr) fun x => ?_; refine HL_perm (perm_mid x.L [_, _, _] t.L) ?_; change HL _ _ ((35, .tuple #[x.s.val, .int .i64 x.err]) :: _) ((r2, _) :: (r1, _) :: (rb, _) :: (x.L ++ t.L)) _ _ _ _
          have hxe : (stepS i t.s.er).2 = x.err := (congrArg Prod.snd x.eq).symm
          have hxs : (stepS i t.s.er).1 = x.s.er := (congrArg Prod.fst x.eq).symm
          rw [hxe, hxs] at hinv; refine HL_r rfl rfl rfl rfl (R_move rfl) ?_; refine HL_r rfl rfl rfl rfl (R_extract rfl rfl) ?_; refine HL_r rfl rfl rfl rfl (R_extract rfl rfl) ?_; refine HL_alloc (cs := #[_]) rfl rfl rfl rfl fun r3 => ?_; refine HL_storeArr (k := 0) (n := 1) (ys := x.s.cells) rfl rfl rfl rfl rfl rfl rfl rfl rfl ?_; refine HL_r rfl rfl rfl rfl (R_assign rfl) ?_; refine HL_nil ?_; refine HQ_then ?_; refine hK18 _ _ _ _ ?_; clear hK18 K18; refine HC_seq fun K19 hK19 => ?_; refine HC_seq fun K20 hK20 => ?_; refine HC_region ?_; refine HL_r rfl rfl rfl rfl (R_move rfl) ?_; refine HL_r rfl rfl rfl rfl (R_pure rfl rfl rfl) ?_; refine HL_nil ?_; refine HQ_then ?_; refine hK20 _ _ _ _ ?_; clear hK20 K20; refine HC_cond rfl (fun h21 => ?_) (fun h21 => ?_)
          · try exact Bool.noConfusion h21
            try simp only [Z1, Z2, Z3, Z4, Z5, Z6, Z7, Z8, Z9, Z10, Z11, Z12, Z13] at h21
            refine HC_seq fun K22 hK22 => ?_; refine HC_region ?_; refine HL_r rfl rfl rfl rfl (R_loadArr (xs := s.cells) (n := 1) rfl (known_L (k := 3) rfl) rfl rfl rfl) ?_; refine HL_r rfl rfl rfl rfl (R_move rfl) ?_; refine HL_storeArr (k := 2) (n := 1) (ys := s.cells) rfl rfl rfl rfl rfl rfl rfl rfl rfl ?_; refine HL_r rfl rfl rfl rfl (R_assign rfl) ?_; refine HL_nil ?_; refine HQ_then ?_; refine hK22 _ _ _ _ ?_; clear hK22 K22; refine HC_ret ?_; refine HQ_thenR ?_; clear hK19 K19; refine HQ_blockR ?_; refine HQ_thenR ?_; clear hK17 K17; refine HQ_thenR ?_; refine HQ_blockR ?_; refine HQ_thenR ?_; clear hK12 K12; refine HQ_post rfl rfl (.cons (res_cellA (vs := [_]) rfl (known_L (k := 2) rfl) rfl rfl) (.cons (res_tmp rfl) .nil)) (fun w1 hs1 => ?_)
            (rw [if_pos (show x.err ≠ 0 by omega)] at hinv
             rw [if_neg (by omega), hinv]
             exact ⟨⟨s, x.err, [], hs, rfl⟩, rfl, hs1.weakL (List.nil_sublist _)⟩)
          · try exact Bool.noConfusion h21
            try simp only [Z1, Z2, Z3, Z4, Z5, Z6, Z7, Z8, Z9, Z10, Z11, Z12, Z13] at h21
            refine HC_skip ?_; refine HQ_then ?_; refine hK19 _ _ _ _ ?_; clear hK19 K19; refine HC_region ?_; refine HL_r rfl rfl rfl rfl (R_loadArr (xs := x.s.cells) (n := 1) rfl (known_L (k := 0) rfl) rfl rfl rfl) ?_; refine HL_storeArr (k := 1) (n := 1) (ys := x.s.cells) rfl rfl rfl rfl rfl rfl rfl rfl rfl ?_; refine HL_nil ?_; refine HQ_blockN ?_; refine HQ_then ?_; refine hK17 _ _ _ _ ?_; clear hK17 K17; refine HC_region ?_; refine HL_r rfl rfl rfl rfl (R_move rfl) ?_; refine HL_r rfl rfl rfl rfl (R_pure rfl rfl rfl) ?_; refine HL_wrap_i64 (by omega) (by omega) ?_; refine HL_r rfl rfl rfl rfl (R_assign rfl) ?_; refine HL_nil ?_; refine HQ_then ?_; rw [if_neg (by omega)] at hinv; exact HQ_again (i + 1, StSt.next (L' := []) t x) ⟨by simp only; omega, by simp only; omega, hinv⟩ (by simp only; omega) (.cons rfl (.cons rfl (.cons rfl (.cons rfl (.cons rfl (.cons rfl .nil)))))) (.cons _ (List.Sublist.refl _)) (fun _ _ h => h)
        · try exact Bool.noConfusion h16
          try simp only [Z1, Z2, Z3, Z4, Z5, Z6, Z7, Z8, Z9, Z10, Z11, Z12, Z13] at h16
          refine HC_exit ?_; refine HQ_thenE ?_; clear hK14 K14; refine HQ_thenE ?_; refine HQ_blockE ?_; refine HQ_then ?_; refine hK12 _ _ _ _ ?_; clear hK12 K12; refine HC_seq fun K23 hK23 => ?_; rw [show (g - i).toNat = 0 by omega] at hinv
          have hinv : res = (t.s.er, 0) := hinv
          refine HC_region ?_; refine HL_r rfl rfl rfl rfl (R_loadArr (xs := t.s.cells) (n := 1) rfl (known_L (k := 0) rfl) rfl rfl rfl) ?_; refine HL_storeArr (k := 1) (n := 1) (ys := t.s.cells) rfl rfl rfl rfl rfl rfl rfl rfl rfl ?_; refine HL_r rfl rfl rfl rfl (R_assign rfl) ?_; refine HL_nil ?_; refine HQ_then ?_; refine hK23 _ _ _ _ ?_; clear hK23 K23; refine HC_ret ?_; refine HQ_post rfl rfl (.cons (res_cellA (vs := [_]) rfl (known_L (k := 1) rfl) rfl rfl) (.cons (res_tmp rfl) .nil)) (fun w1 hs1 => ?_)
          (rw [if_neg (by omega), hinv]
           exact ⟨⟨t.s, 0, t.L, t.ok, rfl⟩, rfl, hs1.weakL (.cons _ (.cons _ (.cons _ (List.Sublist.refl _))))⟩)
  · have e : migE f g s.er = (s.er, 10) := by unfold migE; rw [if_pos hf]
    have hw : decide (SL.Way f g) = false := decide_eq_false hf
    rw [e]; refine pureT_of_HC Tryz.func39 rfl rfl fun w => ?_; refine HC_seq fun K1 hK1 => ?_; refine HC_region ?_; refine HL_box (cs := s.cells.toArray) rfl rfl rfl rfl fun rb => ?_; refine HL_alloc (cs := #[_]) rfl rfl rfl rfl fun r1 => ?_; refine HL_r rfl rfl rfl rfl (R_assign rfl) ?_; refine HL_nil ?_; refine HQ_then ?_; refine hK1 _ _ _ _ ?_; clear hK1 K1; refine HC_seq fun K2 hK2 => ?_; refine HC_seq fun K3 hK3 => ?_; refine HC_region ?_; refine HL_r rfl rfl rfl rfl (R_move rfl) ?_; refine HL_r rfl rfl rfl rfl (R_move rfl) ?_; refine HL_callP rfl rfl rfl (enters_of Tryz.func81 (by kernel_rfl) rfl) (P_rway f g) ?_; refine HL_as (as_bool hw) ?_; refine HL_r rfl rfl rfl rfl (R_pure rfl rfl rfl) ?_; refine HL_nil ?_; refine HQ_then ?_; refine hK3 _ _ _ _ ?_; clear hK3 K3; refine HC_cond rfl (fun h4 => ?_) (fun h4 => ?_)
    · try exact Bool.noConfusion h4
      try simp only [Z1, Z2, Z3, Z4, Z5, Z6, Z7, Z8, Z9, Z10, Z11, Z12, Z13] at h4
      refine HC_seq fun K5 hK5 => ?_; refine HC_region ?_; refine HL_r rfl rfl rfl rfl (R_loadArr (xs := s.cells) (n := 1) rfl (known_L (k := 1) rfl) rfl rfl rfl) ?_; refine HL_storeArr (k := 0) (n := 1) (ys := s.cells) rfl rfl rfl rfl rfl rfl rfl rfl rfl ?_; refine HL_r rfl rfl rfl rfl (R_assign rfl) ?_; refine HL_nil ?_; refine HQ_then ?_; refine hK5 _ _ _ _ ?_; clear hK5 K5; refine HC_ret ?_; refine HQ_thenR ?_; clear hK2 K2; refine HQ_post rfl rfl (.cons (res_cellA (vs := [_]) rfl (known_L (k := 0) rfl) rfl rfl) (.cons (res_tmp rfl) .nil)) (fun w1 hs1 => ?_); exact ⟨⟨s, 10, [], hs, rfl⟩, rfl, hs1.weakL (List.nil_sublist _)⟩
    · try exact Bool.noConfusion h4
end Go.Proofs.YtnkmbkndpoghdaaGreat
