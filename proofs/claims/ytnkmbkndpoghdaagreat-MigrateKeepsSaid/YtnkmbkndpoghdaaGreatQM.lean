import Derived.Test.YtnkmbkndpoghdaaGreatQMe
namespace Go.Proofs.YtnkmbkndpoghdaaGreat
set_option linter.all false
open Go.SL Go.RowKit Go.Shelf
/-! the fixed facts of the law of migrations -/
def m1 : Rec := ⟨7, 0, w40, w40, ⟨5, 0, 0, 0⟩, 3, 0, 0⟩
def m2 : Rec := ⟨7, 0, w40, ⟨1, 0, 0, 0⟩, w40, 3, 0, 0⟩
def m3 : Rec := ⟨7, 0, w40, ⟨1, 0, 0, 0⟩, w40, 3, 0, 1⟩
theorem m1_ok : m1.ok := ⟨u64_lt (by decide), u64_0, w40_ok, w40_ok, ⟨u64_lt (by decide), u64_0, u64_0, u64_0⟩, u64_lt (by decide), u64_0, u64_0⟩
def ms1 : List AcE := (writeE 0 [] m1).1
def ms2 : List AcE := (migE 0 5 ms1).1
def ms3 : List AcE := (stepS 0 ms1).1
theorem mk1 : turnR 2 m1 = (m2, 0) := by decide +kernel
theorem mk2 : turnsR 0 5 m1 = (m3, 0) := by decide +kernel
theorem mk3 : turnR 5 m1 = (rec0, 10) := by decide +kernel
theorem mk4 : turnsR 3 2 m1 = (rec0, 10) := by decide +kernel
theorem mk5 : writeE 0 [] m1 = (ms1, 0) := pair0 (p := writeE 0 [] m1) (by decide +kernel)
theorem mk6 : migE 0 5 ms1 = (ms2, 0) := pair0 (p := migE 0 5 ms1) (by decide +kernel)
theorem mk7 : readS 5 ms2 = (m3, 0) := by decide +kernel
theorem mk8 : stepS 0 ms1 = (ms3, 0) := pair0 (p := stepS 0 ms1) (by decide +kernel)
theorem mk9 : (stepS 1 ms1).2 = 2 := by decide +kernel
theorem mk10 : checkE 1 ms3 = 0 := by decide +kernel
theorem mk11 : ms2.length = 2 := by decide +kernel
theorem as_turn {f : Int} {s r : Rec} {e : Int} (h : turnR f s = (r, e)) : Value.tuple #[(turnR f s).1.val, .int .i64 (turnR f s).2] = .tuple #[r.val, .int .i64 e] := by rw [h]
theorem as_turns {f g : Int} {s r : Rec} {e : Int} (h : turnsR f g s = (r, e)) : Value.tuple #[(turnsR f g s).1.val, .int .i64 (turnsR f g s).2] = .tuple #[r.val, .int .i64 e] := by rw [h]
theorem x_err {R : List (Nat × Obj)} {p : List AcE × Int} (x : StRes R p) {t : List AcE} {e : Int} (h : p = (t, e)) : x.err = e := (congrArg Prod.snd x.eq).trans (congrArg Prod.snd h)
theorem x_er {R : List (Nat × Obj)} {p : List AcE × Int} (x : StRes R p) {t : List AcE} {e : Int} (h : p = (t, e)) : x.s.er = t := (congrArg Prod.fst x.eq).trans (congrArg Prod.fst h)
set_option maxRecDepth 10000 in
theorem S_works24 {R : List (Nat × Obj)} : PureR Tryz.prog 31 #[] (.bool true) R := by
  refine pureR_of_HC Tryz.func31 rfl rfl fun w => ?_
  refine HC_seq fun K1 hK1 => ?_
  refine HC_region ?_
  all_goals refine HL_r rfl rfl rfl rfl (R_assign rfl) ?_
  all_goals refine HL_nil ?_
  all_goals (
    refine HQ_then ?_
    refine hK1 _ _ _ _ ?_; clear hK1 K1
    refine HC_seq fun K2 hK2 => ?_
    refine HC_region ?_
    all_goals refine HL_r rfl rfl rfl rfl (R_build (r := [_, _, _, _]) rfl rfl) ?_
    all_goals refine HL_r rfl rfl rfl rfl (R_build (r := [_, _, _, _, _, _, _, _, _, _, _, _, _, _, _, _, _]) rfl rfl) ?_
    all_goals refine HL_alloc (cs := #[_, _, _, _, _, _, _, _, _, _, _, _, _, _, _, _, _]) rfl rfl rfl rfl fun r1 => ?_
    all_goals refine HL_storeArr (k := 0) (n := 17) (ys := (m1).cells) rfl rfl rfl rfl rfl rfl rfl rfl rfl ?_
    all_goals refine HL_nil ?_
    all_goals (
      refine HQ_then ?_
      refine hK2 _ _ _ _ ?_; clear hK2 K2
      refine HC_seq fun K3 hK3 => ?_
      refine HC_region ?_
      all_goals refine HL_r rfl rfl rfl rfl (R_loadArr (xs := m1.cells) (n := 17) rfl (known_L (k := 0) rfl) rfl rfl rfl) ?_
      all_goals refine HL_callP rfl rfl rfl (enters_of Tryz.func32 (by kernel_rfl) rfl) (P_Turn 2 m1) ?_; refine HL_as (as_turn mk1) ?_
      all_goals refine HL_r rfl rfl rfl rfl (R_move rfl) ?_
      all_goals refine HL_r rfl rfl rfl rfl (R_extract rfl rfl) ?_
      all_goals refine HL_r rfl rfl rfl rfl (R_extract rfl rfl) ?_
      all_goals refine HL_alloc (cs := #[_, _, _, _, _, _, _, _, _, _, _, _, _, _, _, _, _]) rfl rfl rfl rfl fun r2 => ?_
      all_goals refine HL_storeArr (k := 0) (n := 17) (ys := (m2).cells) rfl rfl rfl rfl rfl rfl rfl rfl rfl ?_
      all_goals refine HL_r rfl rfl rfl rfl (R_assign rfl) ?_
      all_goals refine HL_nil ?_
      all_goals (
        refine HQ_then ?_
        refine hK3 _ _ _ _ ?_; clear hK3 K3
        refine HC_seq fun K4 hK4 => ?_
        refine HC_region ?_
        all_goals refine HL_r rfl rfl rfl rfl (R_loadArr (xs := m1.cells) (n := 17) rfl (known_L (k := 1) rfl) rfl rfl rfl) ?_
        all_goals refine HL_callP rfl rfl rfl (enters_of Tryz.func34 (by kernel_rfl) rfl) (P_Turns 0 5 m1) ?_; refine HL_as (as_turns mk2) ?_
        all_goals refine HL_r rfl rfl rfl rfl (R_move rfl) ?_
        all_goals refine HL_r rfl rfl rfl rfl (R_extract rfl rfl) ?_
        all_goals refine HL_r rfl rfl rfl rfl (R_extract rfl rfl) ?_
        all_goals refine HL_alloc (cs := #[_, _, _, _, _, _, _, _, _, _, _, _, _, _, _, _, _]) rfl rfl rfl rfl fun r3 => ?_
        all_goals refine HL_storeArr (k := 0) (n := 17) (ys := (m3).cells) rfl rfl rfl rfl rfl rfl rfl rfl rfl ?_
        all_goals refine HL_r rfl rfl rfl rfl (R_assign rfl) ?_
        all_goals refine HL_nil ?_
        all_goals (
          refine HQ_then ?_
          refine hK4 _ _ _ _ ?_; clear hK4 K4
          refine HC_seq fun K5 hK5 => ?_
          refine HC_region ?_
          all_goals refine HL_r rfl rfl rfl rfl (R_loadArr (xs := m1.cells) (n := 17) rfl (known_L (k := 2) rfl) rfl rfl rfl) ?_
          all_goals refine HL_callP rfl rfl rfl (enters_of Tryz.func32 (by kernel_rfl) rfl) (P_Turn 5 m1) ?_; refine HL_as (as_turn mk3) ?_
          all_goals refine HL_r rfl rfl rfl rfl (R_move rfl) ?_
          all_goals refine HL_r rfl rfl rfl rfl (R_extract rfl rfl) ?_
          all_goals refine HL_r rfl rfl rfl rfl (R_extract rfl rfl) ?_
          all_goals refine HL_alloc (cs := #[_, _, _, _, _, _, _, _, _, _, _, _, _, _, _, _, _]) rfl rfl rfl rfl fun r4 => ?_
          all_goals refine HL_storeArr (k := 0) (n := 17) (ys := (rec0).cells) rfl rfl rfl rfl rfl rfl rfl rfl rfl ?_
          all_goals refine HL_r rfl rfl rfl rfl (R_assign rfl) ?_
          all_goals refine HL_nil ?_
          all_goals (
            refine HQ_then ?_
            refine hK5 _ _ _ _ ?_; clear hK5 K5
            refine HC_seq fun K6 hK6 => ?_
            refine HC_region ?_
            all_goals refine HL_r rfl rfl rfl rfl (R_loadArr (xs := m1.cells) (n := 17) rfl (known_L (k := 3) rfl) rfl rfl rfl) ?_
            all_goals refine HL_callP rfl rfl rfl (enters_of Tryz.func34 (by kernel_rfl) rfl) (P_Turns 3 2 m1) ?_; refine HL_as (as_turns mk4) ?_
            all_goals refine HL_r rfl rfl rfl rfl (R_move rfl) ?_
            all_goals refine HL_r rfl rfl rfl rfl (R_extract rfl rfl) ?_
            all_goals refine HL_r rfl rfl rfl rfl (R_extract rfl rfl) ?_
            all_goals refine HL_alloc (cs := #[_, _, _, _, _, _, _, _, _, _, _, _, _, _, _, _, _]) rfl rfl rfl rfl fun r5 => ?_
            all_goals refine HL_storeArr (k := 0) (n := 17) (ys := (rec0).cells) rfl rfl rfl rfl rfl rfl rfl rfl rfl ?_
            all_goals refine HL_r rfl rfl rfl rfl (R_assign rfl) ?_
            all_goals refine HL_nil ?_
            all_goals (
              refine HQ_then ?_
              refine hK6 _ _ _ _ ?_; clear hK6 K6
              refine HC_seq fun K7 hK7 => ?_
              refine HC_region ?_
              all_goals refine HL_r rfl rfl rfl rfl (R_build (r := [_]) rfl rfl) ?_
              all_goals refine HL_r rfl rfl rfl rfl (R_loadArr (xs := m1.cells) (n := 17) rfl (known_L (k := 4) rfl) rfl rfl rfl) ?_
              all_goals refine HL_callRE rfl rfl rfl (enters_of Tryz.func15 (by kernel_rfl) rfl) (S_Write (R := []) 0 (s := st0L) st0_in (r := m1) m1_ok) (fun q hq => nomatch hq) fun x => ?_
              all_goals refine HL_perm List.perm_append_comm ?_
              all_goals change HL _ _ ((45, .tuple #[x.s.val, .int .i64 x.err]) :: _) ((r5, _) :: (r4, _) :: (r3, _) :: (r2, _) :: (r1, _) :: x.L) _ _ _ _
              all_goals have hxs : x.s.er = ms1 := x_er x mk5
              all_goals rw [x_err x mk5]
              all_goals refine HL_r rfl rfl rfl rfl (R_move rfl) ?_
              all_goals refine HL_r rfl rfl rfl rfl (R_extract rfl rfl) ?_
              all_goals refine HL_r rfl rfl rfl rfl (R_extract rfl rfl) ?_
              all_goals refine HL_alloc (cs := #[_]) rfl rfl rfl rfl fun r6 => ?_
              all_goals refine HL_storeArr (k := 0) (n := 1) (ys := x.s.cells) rfl rfl rfl rfl rfl rfl rfl rfl rfl ?_
              all_goals refine HL_r rfl rfl rfl rfl (R_assign rfl) ?_
              all_goals refine HL_nil ?_
              all_goals (
                refine HQ_then ?_
                refine hK7 _ _ _ _ ?_; clear hK7 K7
                refine HC_seq fun K8 hK8 => ?_
                refine HC_region ?_
                all_goals refine HL_r rfl rfl rfl rfl (R_loadArr (xs := x.s.cells) (n := 1) rfl (known_L (k := 0) rfl) rfl rfl rfl) ?_
                all_goals refine HL_callRE rfl rfl rfl (enters_of Tryz.func38 (by kernel_rfl) rfl) (S_Migrate (R := x.L ++ []) 0 5 x.ok) (fun q hq => Or.inl (List.mem_cons_of_mem _ (List.mem_cons_of_mem _ (List.mem_cons_of_mem _ (List.mem_cons_of_mem _ (List.mem_cons_of_mem _ (List.mem_cons_of_mem _ (List.append_nil x.L ▸ hq)))))))) fun y => ?_
                all_goals refine HL_perm (perm_mid y.L [_, _, _, _, _, _] (x.L)) ?_
                all_goals change HL _ _ ((50, .tuple #[y.s.val, .int .i64 y.err]) :: _) ((r6, _) :: (r5, _) :: (r4, _) :: (r3, _) :: (r2, _) :: (r1, _) :: (y.L ++ (x.L))) _ _ _ _
                all_goals have hym := mk6
                all_goals rw [← hxs] at hym
                all_goals have hys : y.s.er = ms2 := x_er y hym
                all_goals rw [x_err y hym]
                all_goals refine HL_r rfl rfl rfl rfl (R_move rfl) ?_
                all_goals refine HL_r rfl rfl rfl rfl (R_extract rfl rfl) ?_
                all_goals refine HL_r rfl rfl rfl rfl (R_extract rfl rfl) ?_
                all_goals refine HL_alloc (cs := #[_]) rfl rfl rfl rfl fun r7 => ?_
                all_goals refine HL_storeArr (k := 0) (n := 1) (ys := y.s.cells) rfl rfl rfl rfl rfl rfl rfl rfl rfl ?_
                all_goals refine HL_r rfl rfl rfl rfl (R_assign rfl) ?_
                all_goals refine HL_nil ?_
                all_goals (
                  refine HQ_then ?_
                  refine hK8 _ _ _ _ ?_; clear hK8 K8
                  refine HC_seq fun K9 hK9 => ?_
                  refine HC_region ?_
                  all_goals refine HL_r rfl rfl rfl rfl (R_loadArr (xs := y.s.cells) (n := 1) rfl (known_L (k := 0) rfl) rfl rfl rfl) ?_
                  all_goals refine HL_callR rfl rfl rfl (enters_of Tryz.func25 (by kernel_rfl) rfl) (S_lRead (R := y.L ++ (x.L ++ [])) 5 y.ok) (fun q hq => Or.inl (List.mem_cons_of_mem _ (List.mem_cons_of_mem _ (List.mem_cons_of_mem _ (List.mem_cons_of_mem _ (List.mem_cons_of_mem _ (List.mem_cons_of_mem _ (List.mem_cons_of_mem _ ((List.mem_append.1 hq).elim (fun h => List.mem_append_left _ h) fun h => List.mem_append_right _ (List.append_nil x.L ▸ h)))))))))) ?_; refine HL_as (as_read (hys ▸ mk7)) ?_
                  all_goals refine HL_r rfl rfl rfl rfl (R_move rfl) ?_
                  all_goals refine HL_r rfl rfl rfl rfl (R_extract rfl rfl) ?_
                  all_goals refine HL_r rfl rfl rfl rfl (R_extract rfl rfl) ?_
                  all_goals refine HL_alloc (cs := #[_, _, _, _, _, _, _, _, _, _, _, _, _, _, _, _, _]) rfl rfl rfl rfl fun r8 => ?_
                  all_goals refine HL_storeArr (k := 0) (n := 17) (ys := (m3).cells) rfl rfl rfl rfl rfl rfl rfl rfl rfl ?_
                  all_goals refine HL_r rfl rfl rfl rfl (R_assign rfl) ?_
                  all_goals refine HL_nil ?_
                  all_goals (
                    refine HQ_then ?_
                    refine hK9 _ _ _ _ ?_; clear hK9 K9
                    refine HC_seq fun K10 hK10 => ?_
                    refine HC_region ?_
                    all_goals refine HL_r rfl rfl rfl rfl (R_loadArr (xs := x.s.cells) (n := 1) rfl (known_L (k := 2) rfl) rfl rfl rfl) ?_
                    all_goals refine HL_callRE rfl rfl rfl (enters_of Tryz.func36 (by kernel_rfl) rfl) (S_Step (R := y.L ++ (x.L ++ [])) 0 (x.ok.mono fun q hq => List.mem_append_right _ hq)) (fun q hq => Or.inl (List.mem_cons_of_mem _ (List.mem_cons_of_mem _ (List.mem_cons_of_mem _ (List.mem_cons_of_mem _ (List.mem_cons_of_mem _ (List.mem_cons_of_mem _ (List.mem_cons_of_mem _ (List.mem_cons_of_mem _ ((List.mem_append.1 hq).elim (fun h => List.mem_append_left _ h) fun h => List.mem_append_right _ (List.append_nil x.L ▸ h))))))))))) fun z => ?_
                    all_goals refine HL_perm (perm_mid z.L [_, _, _, _, _, _, _, _] (y.L ++ x.L)) ?_
                    all_goals change HL _ _ ((60, .tuple #[z.s.val, .int .i64 z.err]) :: _) ((r8, _) :: (r7, _) :: (r6, _) :: (r5, _) :: (r4, _) :: (r3, _) :: (r2, _) :: (r1, _) :: (z.L ++ (y.L ++ x.L))) _ _ _ _
                    all_goals have hzm := mk8
                    all_goals rw [← hxs] at hzm
                    all_goals have hzs : z.s.er = ms3 := x_er z hzm
                    all_goals rw [x_err z hzm]
                    all_goals refine HL_r rfl rfl rfl rfl (R_move rfl) ?_
                    all_goals refine HL_r rfl rfl rfl rfl (R_extract rfl rfl) ?_
                    all_goals refine HL_r rfl rfl rfl rfl (R_extract rfl rfl) ?_
                    all_goals refine HL_alloc (cs := #[_]) rfl rfl rfl rfl fun r9 => ?_
                    all_goals refine HL_storeArr (k := 0) (n := 1) (ys := z.s.cells) rfl rfl rfl rfl rfl rfl rfl rfl rfl ?_
                    all_goals refine HL_r rfl rfl rfl rfl (R_assign rfl) ?_
                    all_goals refine HL_nil ?_
                    all_goals (
                      refine HQ_then ?_
                      refine hK10 _ _ _ _ ?_; clear hK10 K10
                      refine HC_seq fun K11 hK11 => ?_
                      refine HC_region ?_
                      all_goals refine HL_r rfl rfl rfl rfl (R_loadArr (xs := x.s.cells) (n := 1) rfl (known_L (k := 3) rfl) rfl rfl rfl) ?_
                      all_goals refine HL_callRE rfl rfl rfl (enters_of Tryz.func36 (by kernel_rfl) rfl) (S_Step (R := z.L ++ (y.L ++ (x.L ++ []))) 1 (x.ok.mono fun q hq => List.mem_append_right _ (List.mem_append_right _ hq))) (fun q hq => Or.inl (List.mem_cons_of_mem _ (List.mem_cons_of_mem _ (List.mem_cons_of_mem _ (List.mem_cons_of_mem _ (List.mem_cons_of_mem _ (List.mem_cons_of_mem _ (List.mem_cons_of_mem _ (List.mem_cons_of_mem _ (List.mem_cons_of_mem _ ((List.mem_append.1 hq).elim (fun h => List.mem_append_left _ h) fun hq => List.mem_append_right _ ((List.mem_append.1 hq).elim (fun h => List.mem_append_left _ h) fun h => List.mem_append_right _ (List.append_nil x.L ▸ h))))))))))))) fun u => ?_
                      all_goals refine HL_perm (perm_mid u.L [_, _, _, _, _, _, _, _, _] (z.L ++ (y.L ++ x.L))) ?_
                      all_goals change HL _ _ ((65, .tuple #[u.s.val, .int .i64 u.err]) :: _) ((r9, _) :: (r8, _) :: (r7, _) :: (r6, _) :: (r5, _) :: (r4, _) :: (r3, _) :: (r2, _) :: (r1, _) :: (u.L ++ (z.L ++ (y.L ++ x.L)))) _ _ _ _
                      all_goals have hum := mk9
                      all_goals rw [← hxs] at hum
                      all_goals have hue : u.err = 2 := (congrArg Prod.snd u.eq).trans hum
                      all_goals rw [hue]
                      all_goals refine HL_r rfl rfl rfl rfl (R_move rfl) ?_
                      all_goals refine HL_r rfl rfl rfl rfl (R_extract rfl rfl) ?_
                      all_goals refine HL_r rfl rfl rfl rfl (R_extract rfl rfl) ?_
                      all_goals refine HL_alloc (cs := #[_]) rfl rfl rfl rfl fun r10 => ?_
                      all_goals refine HL_storeArr (k := 0) (n := 1) (ys := u.s.cells) rfl rfl rfl rfl rfl rfl rfl rfl rfl ?_
                      all_goals refine HL_r rfl rfl rfl rfl (R_assign rfl) ?_
                      all_goals refine HL_nil ?_
                      all_goals (
                        refine HQ_then ?_
                        refine hK11 _ _ _ _ ?_; clear hK11 K11
                        refine HC_seq fun K12 hK12 => ?_
                        refine HC_region ?_
                        all_goals refine HL_r rfl rfl rfl rfl (R_loadArr (xs := m2.cells) (n := 17) rfl (known_L (k := 8) rfl) rfl rfl rfl) ?_
                        all_goals refine HL_r rfl rfl rfl rfl (R_build (r := [_, _, _, _]) rfl rfl) ?_
                        all_goals refine HL_r rfl rfl rfl rfl (R_build (r := [_, _, _, _, _, _, _, _, _, _, _, _, _, _, _, _, _]) rfl rfl) ?_
                        all_goals refine HL_r rfl rfl rfl rfl (R_eqStr (xs := (m2).cells) (ys := (m2).cells) rfl rfl rfl (by kernel_rfl) (by kernel_rfl) (.scal (by decide) rfl rfl rfl rfl rfl (.scal (by decide) rfl rfl rfl rfl rfl (.arr (by decide) rfl rfl rfl rfl rfl rfl rfl rfl rfl rfl (.arr (by decide) rfl rfl rfl rfl rfl rfl rfl rfl rfl rfl (.arr (by decide) rfl rfl rfl rfl rfl rfl rfl rfl rfl rfl (.scal (by decide) rfl rfl rfl rfl rfl (.scal (by decide) rfl rfl rfl rfl rfl (.scal (by decide) rfl rfl rfl rfl rfl .nil))))))))) ?_; refine HL_as (congrArg Value.bool (rec_eq (m2) (m2))) ?_; refine HL_as (as_bool (show decide (m2 = m2) = true from decide_eq_true rfl)) ?_
                        all_goals refine HL_r rfl rfl rfl rfl (R_move rfl) ?_
                        all_goals (refine HL_r rfl rfl rfl rfl (R_move rfl) ?_)
                        all_goals (refine HL_r rfl rfl rfl rfl (R_pure rfl rfl rfl) ?_)
                        all_goals (refine HL_r rfl rfl rfl rfl (R_pickT rfl rfl) ?_)
                        all_goals refine HL_r rfl rfl rfl rfl (R_move rfl) ?_
                        all_goals refine HL_r rfl rfl rfl rfl (R_loadArr (xs := m3.cells) (n := 17) rfl (known_L (k := 7) rfl) rfl rfl rfl) ?_
                        all_goals (refine HL_r rfl rfl rfl rfl (R_build (r := [_, _, _, _]) rfl rfl) ?_)
                        all_goals (refine HL_r rfl rfl rfl rfl (R_build (r := [_, _, _, _, _, _, _, _, _, _, _, _, _, _, _, _, _]) rfl rfl) ?_)
                        all_goals refine HL_r rfl rfl rfl rfl (R_eqStr (xs := (m3).cells) (ys := (m3).cells) rfl rfl rfl (by kernel_rfl) (by kernel_rfl) (.scal (by decide) rfl rfl rfl rfl rfl (.scal (by decide) rfl rfl rfl rfl rfl (.arr (by decide) rfl rfl rfl rfl rfl rfl rfl rfl rfl rfl (.arr (by decide) rfl rfl rfl rfl rfl rfl rfl rfl rfl rfl (.arr (by decide) rfl rfl rfl rfl rfl rfl rfl rfl rfl rfl (.scal (by decide) rfl rfl rfl rfl rfl (.scal (by decide) rfl rfl rfl rfl rfl (.scal (by decide) rfl rfl rfl rfl rfl .nil))))))))) ?_; refine HL_as (congrArg Value.bool (rec_eq (m3) (m3))) ?_; refine HL_as (as_bool (show decide (m3 = m3) = true from decide_eq_true rfl)) ?_
                        all_goals (refine HL_r rfl rfl rfl rfl (R_pickT rfl rfl) ?_)
                        all_goals refine HL_r rfl rfl rfl rfl (R_move rfl) ?_
                        all_goals (refine HL_r rfl rfl rfl rfl (R_move rfl) ?_)
                        all_goals (refine HL_r rfl rfl rfl rfl (R_pure rfl rfl rfl) ?_)
                        all_goals (refine HL_r rfl rfl rfl rfl (R_pickT rfl rfl) ?_)
                        all_goals refine HL_r rfl rfl rfl rfl (R_move rfl) ?_
                        all_goals (refine HL_r rfl rfl rfl rfl (R_move rfl) ?_)
                        all_goals (refine HL_r rfl rfl rfl rfl (R_pure rfl rfl rfl) ?_)
                        all_goals (refine HL_r rfl rfl rfl rfl (R_pickT rfl rfl) ?_)
                        all_goals refine HL_r rfl rfl rfl rfl (R_move rfl) ?_
                        all_goals (refine HL_r rfl rfl rfl rfl (R_move rfl) ?_)
                        all_goals (refine HL_r rfl rfl rfl rfl (R_pure rfl rfl rfl) ?_)
                        all_goals (refine HL_r rfl rfl rfl rfl (R_pickT rfl rfl) ?_)
                        all_goals refine HL_r rfl rfl rfl rfl (R_move rfl) ?_
                        all_goals (refine HL_r rfl rfl rfl rfl (R_move rfl) ?_)
                        all_goals (refine HL_r rfl rfl rfl rfl (R_pure rfl rfl rfl) ?_)
                        all_goals (refine HL_r rfl rfl rfl rfl (R_pickT rfl rfl) ?_)
                        all_goals refine HL_r rfl rfl rfl rfl (R_move rfl) ?_
                        all_goals (refine HL_r rfl rfl rfl rfl (R_move rfl) ?_)
                        all_goals (refine HL_r rfl rfl rfl rfl (R_pure rfl rfl rfl) ?_)
                        all_goals (refine HL_r rfl rfl rfl rfl (R_pickT rfl rfl) ?_)
                        all_goals refine HL_r rfl rfl rfl rfl (R_move rfl) ?_
                        all_goals refine HL_r rfl rfl rfl rfl (R_loadArr (xs := m3.cells) (n := 17) rfl (known_L (k := 2) rfl) rfl rfl rfl) ?_
                        all_goals refine HL_r rfl rfl rfl rfl (R_loadArr (xs := m3.cells) (n := 17) rfl (known_L (k := 7) rfl) rfl rfl rfl) ?_
                        all_goals refine HL_r rfl rfl rfl rfl (R_eqStr (xs := (m3).cells) (ys := (m3).cells) rfl rfl rfl (by kernel_rfl) (by kernel_rfl) (.scal (by decide) rfl rfl rfl rfl rfl (.scal (by decide) rfl rfl rfl rfl rfl (.arr (by decide) rfl rfl rfl rfl rfl rfl rfl rfl rfl rfl (.arr (by decide) rfl rfl rfl rfl rfl rfl rfl rfl rfl rfl (.arr (by decide) rfl rfl rfl rfl rfl rfl rfl rfl rfl rfl (.scal (by decide) rfl rfl rfl rfl rfl (.scal (by decide) rfl rfl rfl rfl rfl (.scal (by decide) rfl rfl rfl rfl rfl .nil))))))))) ?_; refine HL_as (congrArg Value.bool (rec_eq (m3) (m3))) ?_; refine HL_as (as_bool (show decide (m3 = m3) = true from decide_eq_true rfl)) ?_
                        all_goals (refine HL_r rfl rfl rfl rfl (R_pickT rfl rfl) ?_)
                        all_goals refine HL_r rfl rfl rfl rfl (R_move rfl) ?_
                        all_goals (refine HL_r rfl rfl rfl rfl (R_move rfl) ?_)
                        all_goals (refine HL_r rfl rfl rfl rfl (R_pure rfl rfl rfl) ?_)
                        all_goals (refine HL_r rfl rfl rfl rfl (R_pickT rfl rfl) ?_)
                        all_goals refine HL_r rfl rfl rfl rfl (R_move rfl) ?_
                        all_goals refine HL_r rfl rfl rfl rfl (R_loadArr (xs := z.s.cells) (n := 1) rfl (known_L (k := 1) rfl) rfl rfl rfl) ?_
                        all_goals refine HL_callR rfl rfl rfl (enters_of Tryz.func29 (by kernel_rfl) rfl) (S_lCheck (R := z.L ++ (y.L ++ (x.L ++ []))) 1 z.ok) (fun q hq => Or.inl (List.mem_cons_of_mem _ (List.mem_cons_of_mem _ (List.mem_cons_of_mem _ (List.mem_cons_of_mem _ (List.mem_cons_of_mem _ (List.mem_cons_of_mem _ (List.mem_cons_of_mem _ (List.mem_cons_of_mem _ (List.mem_cons_of_mem _ (List.mem_cons_of_mem _ (List.mem_append_right _ ((List.mem_append.1 hq).elim (fun h => List.mem_append_left _ h) fun hq => List.mem_append_right _ ((List.mem_append.1 hq).elim (fun h => List.mem_append_left _ h) fun h => List.mem_append_right _ (List.append_nil x.L ▸ h))))))))))))))) ?_; refine HL_as (as_int (hzs ▸ mk10)) ?_
                        all_goals (refine HL_r rfl rfl rfl rfl (R_pure rfl rfl rfl) ?_)
                        all_goals (refine HL_r rfl rfl rfl rfl (R_pickT rfl rfl) ?_)
                        all_goals refine HL_r rfl rfl rfl rfl (R_move rfl) ?_
                        all_goals (refine HL_r rfl rfl rfl rfl (R_move rfl) ?_)
                        all_goals (refine HL_r rfl rfl rfl rfl (R_pure rfl rfl rfl) ?_)
                        all_goals (refine HL_r rfl rfl rfl rfl (R_pickT rfl rfl) ?_)
                        all_goals refine HL_r rfl rfl rfl rfl (R_move rfl) ?_
                        all_goals (refine HL_r rfl rfl rfl rfl (R_move rfl) ?_)
                        all_goals (refine HL_r rfl rfl rfl rfl (R_pure rfl rfl rfl) ?_)
                        all_goals (refine HL_r rfl rfl rfl rfl (R_pickT rfl rfl) ?_)
                        all_goals refine HL_r rfl rfl rfl rfl (R_move rfl) ?_
                        all_goals (refine HL_r rfl rfl rfl rfl (R_fieldAddr rfl rfl (by first | (simp only [Nat.zero_add, Nat.reduceAdd, Nat.reduceMul, Nat.zero_mul, Nat.mul_one, Nat.add_zero]; exact rfl) | exact rfl)) ?_)
                        all_goals (refine HL_r rfl rfl rfl rfl (R_load rfl (known_L (k := 3) rfl) rfl rfl) ?_)
                        all_goals refine HL_r rfl rfl rfl rfl (R_lenPl rfl y.ok.seg rfl) ?_; refine HL_as (as_int (show _ = (2 : Int) by rw [← y.s.er_len, hys, mk11]; rfl)) ?_
                        all_goals (refine HL_r rfl rfl rfl rfl (R_pure rfl rfl rfl) ?_)
                        all_goals (refine HL_r rfl rfl rfl rfl (R_pickT rfl rfl) ?_)
                        all_goals refine HL_r rfl rfl rfl rfl (R_assign rfl) ?_
                        all_goals refine HL_nil ?_
                        all_goals (
                          refine HQ_then ?_
                          refine hK12 _ _ _ _ ?_; clear hK12 K12
                          refine HC_ret ?_
                          refine HQ_post rfl rfl (.cons (res_tmp rfl) .nil) (fun w1 hs1 => ?_)
                          exact ⟨rfl, hs1.keep⟩
                          skip)
                        skip)
                      skip)
                    skip)
                  skip)
                skip)
              skip)
            skip)
          skip)
        skip)
      skip)
    skip)
set_option maxRecDepth 10000 in
theorem L_MFits {R : List (Nat × Obj)} (f g : Int) {s : StL} (hs : s.In R) : PureR Tryz.prog 11 [.int .i64 f, .int .i64 g, s.val].toArray (.bool true) R := by
  refine pureR_of_HC Tryz.func11 rfl rfl fun w => ?_
  refine HC_seq fun K1 hK1 => ?_
  refine HC_region ?_
  all_goals refine HL_box (cs := s.cells.toArray) rfl rfl rfl rfl fun rs => ?_
  all_goals refine HL_r rfl rfl rfl rfl (R_assign rfl) ?_
  all_goals refine HL_nil ?_
  all_goals (
    refine HQ_then ?_
    refine hK1 _ _ _ _ ?_; clear hK1 K1
    refine HC_seq fun K2 hK2 => ?_
    refine HC_region ?_
    all_goals refine HL_callR rfl rfl rfl (enters_of Tryz.func31 (by kernel_rfl) rfl) S_works24 (fun q hq => Or.inr hq) ?_
    all_goals refine HL_r rfl rfl rfl rfl (R_assign rfl) ?_
    all_goals refine HL_nil ?_
    all_goals (
      refine HQ_then ?_
      refine hK2 _ _ _ _ ?_; clear hK2 K2
      refine HC_seq fun K3 hK3 => ?_
      refine HC_seq fun K4 hK4 => ?_
      refine HC_region ?_
      all_goals refine HL_r rfl rfl rfl rfl (R_move rfl) ?_
      all_goals refine HL_r rfl rfl rfl rfl (R_pure rfl rfl rfl) ?_
      all_goals refine HL_nil ?_
      all_goals (
        refine HQ_then ?_
        refine hK4 _ _ _ _ ?_; clear hK4 K4
        refine HC_cond rfl (fun h5 => ?_) (fun h5 => ?_)
        · try exact Bool.noConfusion h5
          all_goals try simp only [decide_eq_true_eq, decide_eq_false_iff_not, beq_iff_eq, beq_eq_false_iff_ne, bne_iff_ne, bne_eq_false_iff_eq, Bool.not_eq_true', Bool.not_eq_false', ne_eq, Int.not_lt, Int.not_le, ge_iff_le, gt_iff_lt] at h5
          all_goals (
            refine HC_seq fun K6 hK6 => ?_
            refine HC_region ?_
            all_goals refine HL_r rfl rfl rfl rfl (R_assign rfl) ?_
            all_goals refine HL_nil ?_
            all_goals (
              refine HQ_then ?_
              refine hK6 _ _ _ _ ?_; clear hK6 K6
              refine HC_ret ?_
              refine HQ_thenR ?_; clear hK3 K3
              refine HQ_post rfl rfl (.cons (res_tmp rfl) .nil) (fun w1 hs1 => ?_)
              exact ⟨rfl, hs1.keep⟩
              skip)
            skip)
        · try exact Bool.noConfusion h5
          all_goals try simp only [decide_eq_true_eq, decide_eq_false_iff_not, beq_iff_eq, beq_eq_false_iff_ne, bne_iff_ne, bne_eq_false_iff_eq, Bool.not_eq_true', Bool.not_eq_false', ne_eq, Int.not_lt, Int.not_le, ge_iff_le, gt_iff_lt] at h5
          all_goals (
            refine HC_skip ?_
            refine HQ_then ?_
            refine hK3 _ _ _ _ ?_; clear hK3 K3
            refine HC_seq fun K7 hK7 => ?_
            refine HC_region ?_
            all_goals refine HL_r rfl rfl rfl rfl (R_loadArr (xs := s.cells) (n := 1) rfl (known_L (k := 0) rfl) rfl rfl rfl) ?_
            all_goals refine HL_callR rfl rfl rfl (enters_of Tryz.func14 (by kernel_rfl) rfl) (S_Few hs) (fun q hq => Or.inr hq) ?_
            all_goals refine HL_r rfl rfl rfl rfl (R_assign rfl) ?_
            all_goals refine HL_nil ?_
            all_goals (
              refine HQ_then ?_
              refine hK7 _ _ _ _ ?_; clear hK7 K7
              refine HC_seq fun K8 hK8 => ?_
              refine HC_seq fun K9 hK9 => ?_
              refine HC_region ?_
              all_goals refine HL_r rfl rfl rfl rfl (R_move rfl) ?_
              all_goals refine HL_r rfl rfl rfl rfl (R_pure rfl rfl rfl) ?_
              all_goals refine HL_nil ?_
              all_goals (
                refine HQ_then ?_
                refine hK9 _ _ _ _ ?_; clear hK9 K9
                refine HC_cond rfl (fun h10 => ?_) (fun h10 => ?_)
                · try exact Bool.noConfusion h10
                  all_goals try simp only [decide_eq_true_eq, decide_eq_false_iff_not, beq_iff_eq, beq_eq_false_iff_ne, bne_iff_ne, bne_eq_false_iff_eq, Bool.not_eq_true', Bool.not_eq_false', ne_eq, Int.not_lt, Int.not_le, ge_iff_le, gt_iff_lt] at h10
                  all_goals (
                    refine HC_seq fun K11 hK11 => ?_
                    refine HC_region ?_
                    all_goals refine HL_r rfl rfl rfl rfl (R_move rfl) ?_
                    all_goals refine HL_r rfl rfl rfl rfl (R_assign rfl) ?_
                    all_goals refine HL_nil ?_
                    all_goals (
                      refine HQ_then ?_
                      refine hK11 _ _ _ _ ?_; clear hK11 K11
                      refine HC_ret ?_
                      refine HQ_thenR ?_; clear hK8 K8
                      refine HQ_post rfl rfl (.cons (res_tmp rfl) .nil) (fun w1 hs1 => ?_)
                      exact ⟨rfl, hs1.keep⟩
                      skip)
                    skip)
                · try exact Bool.noConfusion h10
                  all_goals try simp only [decide_eq_true_eq, decide_eq_false_iff_not, beq_iff_eq, beq_eq_false_iff_ne, bne_iff_ne, bne_eq_false_iff_eq, Bool.not_eq_true', Bool.not_eq_false', ne_eq, Int.not_lt, Int.not_le, ge_iff_le, gt_iff_lt] at h10
                  all_goals (
                    refine HC_skip ?_
                    refine HQ_then ?_
                    refine hK8 _ _ _ _ ?_; clear hK8 K8
                    refine HC_seq fun K12 hK12 => ?_
                    refine HC_region ?_
                    all_goals refine HL_r rfl rfl rfl rfl (R_move rfl) ?_
                    all_goals refine HL_r rfl rfl rfl rfl (R_move rfl) ?_
                    all_goals refine HL_r rfl rfl rfl rfl (R_loadArr (xs := s.cells) (n := 1) rfl (known_L (k := 0) rfl) rfl rfl rfl) ?_
                    all_goals refine HL_callRE rfl rfl rfl (enters_of Tryz.func38 (by kernel_rfl) rfl) (S_Migrate f g hs) (fun q hq => Or.inr hq) fun x => ?_
                    all_goals refine HL_perm List.perm_append_comm ?_
                    all_goals change HL _ _ ((29, .tuple #[x.s.val, .int .i64 x.err]) :: _) ((rs, _) :: x.L) _ _ _ _
                    all_goals refine HL_r rfl rfl rfl rfl (R_move rfl) ?_
                    all_goals refine HL_r rfl rfl rfl rfl (R_extract rfl rfl) ?_
                    all_goals refine HL_r rfl rfl rfl rfl (R_extract rfl rfl) ?_
                    all_goals refine HL_alloc (cs := #[_]) rfl rfl rfl rfl fun rt => ?_
                    all_goals refine HL_storeArr (k := 0) (n := 1) (ys := x.s.cells) rfl rfl rfl rfl rfl rfl rfl rfl rfl ?_
                    all_goals refine HL_r rfl rfl rfl rfl (R_assign rfl) ?_
                    all_goals refine HL_nil ?_
                    all_goals (
                      refine HQ_then ?_
                      refine hK12 _ _ _ _ ?_; clear hK12 K12
                      refine HC_seq fun K13 hK13 => ?_
                      refine HC_seq fun K14 hK14 => ?_
                      refine HC_region ?_
                      all_goals refine HL_r rfl rfl rfl rfl (R_move rfl) ?_
                      all_goals refine HL_r rfl rfl rfl rfl (R_pure rfl rfl rfl) ?_
                      all_goals refine HL_nil ?_
                      all_goals (
                        refine HQ_then ?_
                        refine hK14 _ _ _ _ ?_; clear hK14 K14
                        refine HC_cond rfl (fun h15 => ?_) (fun h15 => ?_)
                        · try exact Bool.noConfusion h15
                          all_goals try simp only [decide_eq_true_eq, decide_eq_false_iff_not, beq_iff_eq, beq_eq_false_iff_ne, bne_iff_ne, bne_eq_false_iff_eq, Bool.not_eq_true', Bool.not_eq_false', ne_eq, Int.not_lt, Int.not_le, ge_iff_le, gt_iff_lt] at h15
                          all_goals (
                            refine HC_seq fun K16 hK16 => ?_
                            have hsame : s.er = x.s.er := (migE_bad (wr_ne x (by assumption))).symm.trans (wr_er x)
                            refine HC_region ?_
                            all_goals refine HL_r rfl rfl rfl rfl (R_move rfl) ?_
                            all_goals refine HL_r rfl rfl rfl rfl (R_move rfl) ?_
                            all_goals refine HL_r rfl rfl rfl rfl (R_loadArr (xs := s.cells) (n := 1) rfl (known_L (k := 1) rfl) rfl rfl rfl) ?_
                            all_goals refine HL_r rfl rfl rfl rfl (R_loadArr (xs := x.s.cells) (n := 1) rfl (known_L (k := 0) rfl) rfl rfl rfl) ?_
                            all_goals refine HL_callR rfl rfl rfl (enters_of Tryz.func30 (by kernel_rfl) rfl) (S_Same (R := x.L ++ R) (hs.mono fun q hq => List.mem_append_right _ hq) x.ok) (fun q hq => (List.mem_append.1 hq).elim (fun h => Or.inl (List.mem_cons_of_mem _ (List.mem_cons_of_mem _ h))) (fun hq => Or.inr hq)) ?_; refine HL_as (as_bool (decide_eq_true hsame)) ?_
                            all_goals (refine HL_r rfl rfl rfl rfl (R_pickT rfl rfl) ?_)
                            all_goals refine HL_r rfl rfl rfl rfl (R_assign rfl) ?_
                            all_goals refine HL_nil ?_
                            all_goals (
                              refine HQ_then ?_
                              refine hK16 _ _ _ _ ?_; clear hK16 K16
                              refine HC_ret ?_
                              refine HQ_thenR ?_; clear hK13 K13
                              refine HQ_post rfl rfl (.cons (res_tmp rfl) .nil) (fun w1 hs1 => ?_)
                              exact ⟨rfl, hs1.keep⟩
                              skip)
                            skip)
                        · try exact Bool.noConfusion h15
                          all_goals try simp only [decide_eq_true_eq, decide_eq_false_iff_not, beq_iff_eq, beq_eq_false_iff_ne, bne_iff_ne, bne_eq_false_iff_eq, Bool.not_eq_true', Bool.not_eq_false', ne_eq, Int.not_lt, Int.not_le, ge_iff_le, gt_iff_lt] at h15
                          all_goals (
                            refine HC_skip ?_
                            refine HQ_then ?_
                            refine hK13 _ _ _ _ ?_; clear hK13 K13
                            refine HC_seq fun K17 hK17 => ?_
                            have he : x.err = 0 := by assumption
                            obtain ⟨hb4, hb5, e1, e2, e3, -⟩ := mig_fits (wr_eq x he)
                            obtain ⟨rd, hrd⟩ : ∃ r, r = (readS f s.er).1 := ⟨_, rfl⟩
                            obtain ⟨rd2, hrd2⟩ : ∃ r, r = (readS g x.s.er).1 := ⟨_, rfl⟩
                            have hb1 : readS f s.er = (rd, 0) := Prod.ext hrd.symm e1
                            have hb3 : readS g x.s.er = (rd2, 0) := Prod.ext hrd2.symm e2
                            have hb2 : turnsR f g rd = (rd2, 0) := by rw [hrd, hrd2]; exact e3
                            refine HC_region ?_
                            all_goals refine HL_r rfl rfl rfl rfl (R_move rfl) ?_
                            all_goals refine HL_r rfl rfl rfl rfl (R_loadArr (xs := s.cells) (n := 1) rfl (known_L (k := 1) rfl) rfl rfl rfl) ?_
                            all_goals refine HL_callR rfl rfl rfl (enters_of Tryz.func25 (by kernel_rfl) rfl) (S_lRead f hs) (fun q hq => Or.inr hq) ?_; refine HL_as (as_read hb1) ?_
                            all_goals refine HL_r rfl rfl rfl rfl (R_move rfl) ?_
                            all_goals refine HL_r rfl rfl rfl rfl (R_extract rfl rfl) ?_
                            all_goals refine HL_r rfl rfl rfl rfl (R_extract rfl rfl) ?_
                            all_goals refine HL_alloc (cs := #[_, _, _, _, _, _, _, _, _, _, _, _, _, _, _, _, _]) rfl rfl rfl rfl fun rr => ?_
                            all_goals refine HL_storeArr (k := 0) (n := 17) (ys := (rd).cells) rfl rfl rfl rfl rfl rfl rfl rfl rfl ?_
                            all_goals refine HL_r rfl rfl rfl rfl (R_assign rfl) ?_
                            all_goals refine HL_nil ?_
                            all_goals (
                              refine HQ_then ?_
                              refine hK17 _ _ _ _ ?_; clear hK17 K17
                              refine HC_seq fun K18 hK18 => ?_
                              refine HC_region ?_
                              all_goals refine HL_r rfl rfl rfl rfl (R_move rfl) ?_
                              all_goals refine HL_r rfl rfl rfl rfl (R_move rfl) ?_
                              all_goals refine HL_r rfl rfl rfl rfl (R_loadArr (xs := rd.cells) (n := 17) rfl (known_L (k := 0) rfl) rfl rfl rfl) ?_
                              all_goals refine HL_callP rfl rfl rfl (enters_of Tryz.func34 (by kernel_rfl) rfl) (P_Turns f g rd) ?_; refine HL_as (as_turns hb2) ?_
                              all_goals refine HL_r rfl rfl rfl rfl (R_move rfl) ?_
                              all_goals refine HL_r rfl rfl rfl rfl (R_extract rfl rfl) ?_
                              all_goals refine HL_r rfl rfl rfl rfl (R_extract rfl rfl) ?_
                              all_goals refine HL_alloc (cs := #[_, _, _, _, _, _, _, _, _, _, _, _, _, _, _, _, _]) rfl rfl rfl rfl fun rx => ?_
                              all_goals refine HL_storeArr (k := 0) (n := 17) (ys := (rd2).cells) rfl rfl rfl rfl rfl rfl rfl rfl rfl ?_
                              all_goals refine HL_r rfl rfl rfl rfl (R_assign rfl) ?_
                              all_goals refine HL_nil ?_
                              all_goals (
                                refine HQ_then ?_
                                refine hK18 _ _ _ _ ?_; clear hK18 K18
                                refine HC_seq fun K19 hK19 => ?_
                                refine HC_region ?_
                                all_goals refine HL_r rfl rfl rfl rfl (R_move rfl) ?_
                                all_goals refine HL_r rfl rfl rfl rfl (R_loadArr (xs := x.s.cells) (n := 1) rfl (known_L (k := 2) rfl) rfl rfl rfl) ?_
                                all_goals refine HL_callR rfl rfl rfl (enters_of Tryz.func25 (by kernel_rfl) rfl) (S_lRead (R := x.L ++ R) g x.ok) (fun q hq => (List.mem_append.1 hq).elim (fun h => Or.inl (List.mem_cons_of_mem _ (List.mem_cons_of_mem _ (List.mem_cons_of_mem _ (List.mem_cons_of_mem _ h))))) (fun hq => Or.inr hq)) ?_; refine HL_as (as_read hb3) ?_
                                all_goals refine HL_r rfl rfl rfl rfl (R_move rfl) ?_
                                all_goals refine HL_r rfl rfl rfl rfl (R_extract rfl rfl) ?_
                                all_goals refine HL_r rfl rfl rfl rfl (R_extract rfl rfl) ?_
                                all_goals refine HL_alloc (cs := #[_, _, _, _, _, _, _, _, _, _, _, _, _, _, _, _, _]) rfl rfl rfl rfl fun ry => ?_
                                all_goals refine HL_storeArr (k := 0) (n := 17) (ys := (rd2).cells) rfl rfl rfl rfl rfl rfl rfl rfl rfl ?_
                                all_goals refine HL_r rfl rfl rfl rfl (R_assign rfl) ?_
                                all_goals refine HL_nil ?_
                                all_goals (
                                  refine HQ_then ?_
                                  refine hK19 _ _ _ _ ?_; clear hK19 K19
                                  refine HC_seq fun K20 hK20 => ?_
                                  refine HC_region ?_
                                  all_goals refine HL_r rfl rfl rfl rfl (R_move rfl) ?_
                                  all_goals refine HL_r rfl rfl rfl rfl (R_move rfl) ?_
                                  all_goals (refine HL_r rfl rfl rfl rfl (R_move rfl) ?_)
                                  all_goals (refine HL_r rfl rfl rfl rfl (R_pure rfl rfl rfl) ?_)
                                  all_goals (refine HL_r rfl rfl rfl rfl (R_pickT rfl rfl) ?_)
                                  all_goals refine HL_r rfl rfl rfl rfl (R_move rfl) ?_
                                  all_goals (refine HL_r rfl rfl rfl rfl (R_move rfl) ?_)
                                  all_goals (refine HL_r rfl rfl rfl rfl (R_pure rfl rfl rfl) ?_)
                                  all_goals (refine HL_r rfl rfl rfl rfl (R_pickT rfl rfl) ?_)
                                  all_goals refine HL_r rfl rfl rfl rfl (R_move rfl) ?_
                                  all_goals (refine HL_r rfl rfl rfl rfl (R_move rfl) ?_)
                                  all_goals (refine HL_r rfl rfl rfl rfl (R_pure rfl rfl rfl) ?_)
                                  all_goals (refine HL_r rfl rfl rfl rfl (R_pickT rfl rfl) ?_)
                                  all_goals refine HL_r rfl rfl rfl rfl (R_move rfl) ?_
                                  all_goals refine HL_r rfl rfl rfl rfl (R_loadArr (xs := rd2.cells) (n := 17) rfl (known_L (k := 1) rfl) rfl rfl rfl) ?_
                                  all_goals refine HL_r rfl rfl rfl rfl (R_loadArr (xs := rd2.cells) (n := 17) rfl (known_L (k := 0) rfl) rfl rfl rfl) ?_
                                  all_goals refine HL_r rfl rfl rfl rfl (R_eqStr (xs := (rd2).cells) (ys := (rd2).cells) rfl rfl rfl (by kernel_rfl) (by kernel_rfl) (.scal (by decide) rfl rfl rfl rfl rfl (.scal (by decide) rfl rfl rfl rfl rfl (.arr (by decide) rfl rfl rfl rfl rfl rfl rfl rfl rfl rfl (.arr (by decide) rfl rfl rfl rfl rfl rfl rfl rfl rfl rfl (.arr (by decide) rfl rfl rfl rfl rfl rfl rfl rfl rfl rfl (.scal (by decide) rfl rfl rfl rfl rfl (.scal (by decide) rfl rfl rfl rfl rfl (.scal (by decide) rfl rfl rfl rfl rfl .nil))))))))) ?_; refine HL_as (congrArg Value.bool (rec_eq (rd2) (rd2))) ?_; refine HL_as (as_bool (show decide (rd2 = rd2) = true from decide_eq_true rfl)) ?_
                                  all_goals (refine HL_r rfl rfl rfl rfl (R_pickT rfl rfl) ?_)
                                  all_goals refine HL_r rfl rfl rfl rfl (R_move rfl) ?_
                                  all_goals (refine HL_r rfl rfl rfl rfl (R_move rfl) ?_)
                                  all_goals refine HL_r rfl rfl rfl rfl (R_loadArr (xs := x.s.cells) (n := 1) rfl (known_L (k := 3) rfl) rfl rfl rfl) ?_
                                  all_goals refine HL_callR rfl rfl rfl (enters_of Tryz.func29 (by kernel_rfl) rfl) (S_lCheck (R := x.L ++ R) g x.ok) (fun q hq => (List.mem_append.1 hq).elim (fun h => Or.inl (List.mem_cons_of_mem _ (List.mem_cons_of_mem _ (List.mem_cons_of_mem _ (List.mem_cons_of_mem _ (List.mem_cons_of_mem _ h)))))) (fun hq => Or.inr hq)) ?_; refine HL_as (as_int hb4) ?_
                                  all_goals (refine HL_r rfl rfl rfl rfl (R_pure rfl rfl rfl) ?_)
                                  all_goals (refine HL_r rfl rfl rfl rfl (R_pickT rfl rfl) ?_)
                                  all_goals refine HL_r rfl rfl rfl rfl (R_move rfl) ?_
                                  all_goals (refine HL_r rfl rfl rfl rfl (R_move rfl) ?_)
                                  all_goals refine HL_r rfl rfl rfl rfl (R_loadArr (xs := s.cells) (n := 1) rfl (known_L (k := 4) rfl) rfl rfl rfl) ?_
                                  all_goals refine HL_callR rfl rfl rfl (enters_of Tryz.func29 (by kernel_rfl) rfl) (S_lCheck f hs) (fun q hq => Or.inr hq) ?_; refine HL_as (as_int hb5) ?_
                                  all_goals (refine HL_r rfl rfl rfl rfl (R_pure rfl rfl rfl) ?_)
                                  all_goals (refine HL_r rfl rfl rfl rfl (R_pickT rfl rfl) ?_)
                                  all_goals refine HL_r rfl rfl rfl rfl (R_assign rfl) ?_
                                  all_goals refine HL_nil ?_
                                  all_goals (
                                    refine HQ_then ?_
                                    refine hK20 _ _ _ _ ?_; clear hK20 K20
                                    refine HC_ret ?_
                                    refine HQ_post rfl rfl (.cons (res_tmp rfl) .nil) (fun w1 hs1 => ?_)
                                    exact ⟨rfl, hs1.keep⟩
                                    skip)
                                  skip)
                                skip)
                              skip)
                            skip)
                        skip)
                      skip)
                    skip)
                skip)
              skip)
            skip)
        skip)
      skip)
    skip)
theorem parts_res {R R2 R3 : List (Nat × Obj)} {f g h : Int} {s : List AcE} (x : StRes R (migE f g s)) (y : StRes R2 (migE g h x.s.er)) (z : StRes R3 (migE f h s)) (hfg : f ≤ g) (hgh : g ≤ h) :
    (x.err ≠ 0 → z.err ≠ 0) ∧ (x.err = 0 → y.err ≠ 0 → z.err = y.err ∧ z.s.er = s) ∧ (x.err = 0 → y.err = 0 → z.err = 0 ∧ y.s.er = z.s.er) := by
  obtain ⟨p1, p2, p3⟩ := mig_parts (s := s) hfg hgh
  have ex : (migE f g s).2 = x.err := (congrArg Prod.snd x.eq).symm
  have exs : (migE f g s).1 = x.s.er := wr_er x
  have ez : (migE f h s).2 = z.err := (congrArg Prod.snd z.eq).symm
  have ezs : (migE f h s).1 = z.s.er := wr_er z
  have ey : (migE g h x.s.er).2 = y.err := (congrArg Prod.snd y.eq).symm
  have eys : (migE g h x.s.er).1 = y.s.er := wr_er y
  rw [ex, ez] at p1
  rw [ex, exs, ey, ez, ezs] at p2
  rw [ex, exs, ey, ez, eys, ezs] at p3
  exact ⟨p1, p2, p3⟩
set_option maxRecDepth 10000 in
theorem L_MParts {R : List (Nat × Obj)} (f g h : Int) {s : StL} (hs : s.In R) : PureR Tryz.prog 12 [.int .i64 f, .int .i64 g, .int .i64 h, s.val].toArray (.bool true) R := by
  refine pureR_of_HC Tryz.func12 rfl rfl fun w => ?_
  refine HC_seq fun K1 hK1 => ?_
  refine HC_region ?_
  all_goals refine HL_box (cs := s.cells.toArray) rfl rfl rfl rfl fun rs => ?_
  all_goals refine HL_r rfl rfl rfl rfl (R_assign rfl) ?_
  all_goals refine HL_nil ?_
  all_goals (
    refine HQ_then ?_
    refine hK1 _ _ _ _ ?_; clear hK1 K1
    refine HC_seq fun K2 hK2 => ?_
    refine HC_region ?_
    all_goals refine HL_callR rfl rfl rfl (enters_of Tryz.func31 (by kernel_rfl) rfl) S_works24 (fun q hq => Or.inr hq) ?_
    all_goals refine HL_r rfl rfl rfl rfl (R_assign rfl) ?_
    all_goals refine HL_nil ?_
    all_goals (
      refine HQ_then ?_
      refine hK2 _ _ _ _ ?_; clear hK2 K2
      refine HC_seq fun K3 hK3 => ?_
      refine HC_seq fun K4 hK4 => ?_
      refine HC_region ?_
      all_goals refine HL_r rfl rfl rfl rfl (R_move rfl) ?_
      all_goals refine HL_r rfl rfl rfl rfl (R_pure rfl rfl rfl) ?_
      all_goals refine HL_nil ?_
      all_goals (
        refine HQ_then ?_
        refine hK4 _ _ _ _ ?_; clear hK4 K4
        refine HC_cond rfl (fun h5 => ?_) (fun h5 => ?_)
        · try exact Bool.noConfusion h5
          all_goals try simp only [decide_eq_true_eq, decide_eq_false_iff_not, beq_iff_eq, beq_eq_false_iff_ne, bne_iff_ne, bne_eq_false_iff_eq, Bool.not_eq_true', Bool.not_eq_false', ne_eq, Int.not_lt, Int.not_le, ge_iff_le, gt_iff_lt] at h5
          all_goals (
            refine HC_seq fun K6 hK6 => ?_
            refine HC_region ?_
            all_goals refine HL_r rfl rfl rfl rfl (R_assign rfl) ?_
            all_goals refine HL_nil ?_
            all_goals (
              refine HQ_then ?_
              refine hK6 _ _ _ _ ?_; clear hK6 K6
              refine HC_ret ?_
              refine HQ_thenR ?_; clear hK3 K3
              refine HQ_post rfl rfl (.cons (res_tmp rfl) .nil) (fun w1 hs1 => ?_)
              exact ⟨rfl, hs1.keep⟩
              skip)
            skip)
        · try exact Bool.noConfusion h5
          all_goals try simp only [decide_eq_true_eq, decide_eq_false_iff_not, beq_iff_eq, beq_eq_false_iff_ne, bne_iff_ne, bne_eq_false_iff_eq, Bool.not_eq_true', Bool.not_eq_false', ne_eq, Int.not_lt, Int.not_le, ge_iff_le, gt_iff_lt] at h5
          all_goals (
            refine HC_skip ?_
            refine HQ_then ?_
            refine hK3 _ _ _ _ ?_; clear hK3 K3
            refine HC_seq fun K7 hK7 => ?_
            refine HC_region ?_
            all_goals refine HL_r rfl rfl rfl rfl (R_loadArr (xs := s.cells) (n := 1) rfl (known_L (k := 0) rfl) rfl rfl rfl) ?_
            all_goals refine HL_callR rfl rfl rfl (enters_of Tryz.func14 (by kernel_rfl) rfl) (S_Few hs) (fun q hq => Or.inr hq) ?_
            all_goals refine HL_r rfl rfl rfl rfl (R_assign rfl) ?_
            all_goals refine HL_nil ?_
            all_goals (
              refine HQ_then ?_
              refine hK7 _ _ _ _ ?_; clear hK7 K7
              refine HC_seq fun K8 hK8 => ?_
              refine HC_seq fun K9 hK9 => ?_
              refine HC_region ?_
              all_goals refine HL_r rfl rfl rfl rfl (R_move rfl) ?_
              all_goals refine HL_r rfl rfl rfl rfl (R_pure rfl rfl rfl) ?_
              all_goals refine HL_r rfl rfl rfl rfl (R_move rfl) ?_
              all_goals (refine HL_case 26 rfl (fun hb10 => ?_) (fun hb10 => ?_) <;> (try simp only [decide_eq_true_eq, decide_eq_false_iff_not, beq_iff_eq, beq_eq_false_iff_ne, bne_iff_ne, bne_eq_false_iff_eq, Bool.not_eq_true', Bool.not_eq_false', ne_eq, Int.not_lt, Int.not_le, ge_iff_le, gt_iff_lt] at hb10) <;> first | (refine HL_r rfl rfl rfl rfl (R_move rfl) ?_) | (refine HL_skip rfl rfl rfl ?_))
              all_goals first
                | (refine HL_r rfl rfl rfl rfl (R_move rfl) ?_)
                | (refine HL_skip rfl rfl rfl ?_)
              all_goals first
                | (refine HL_r rfl rfl rfl rfl (R_pure rfl rfl rfl) ?_)
                | (refine HL_skip rfl rfl rfl ?_)
              all_goals first
                | (refine HL_r rfl rfl rfl rfl (R_pickT rfl rfl) ?_)
                | (refine HL_r rfl rfl rfl rfl (R_pickF rfl rfl) ?_)
              all_goals refine HL_r rfl rfl rfl rfl (R_move rfl) ?_
              all_goals first
                | (refine HL_skip rfl rfl rfl ?_)
                | (refine HL_case 31 rfl (fun hb13 => ?_) (fun hb13 => ?_) <;> (try simp only [decide_eq_true_eq, decide_eq_false_iff_not, beq_iff_eq, beq_eq_false_iff_ne, bne_iff_ne, bne_eq_false_iff_eq, Bool.not_eq_true', Bool.not_eq_false', ne_eq, Int.not_lt, Int.not_le, ge_iff_le, gt_iff_lt] at hb13) <;> first | (refine HL_r rfl rfl rfl rfl (R_move rfl) ?_) | (refine HL_skip rfl rfl rfl ?_))
              all_goals first
                | (refine HL_r rfl rfl rfl rfl (R_move rfl) ?_)
                | (refine HL_skip rfl rfl rfl ?_)
              all_goals first
                | (refine HL_r rfl rfl rfl rfl (R_pure rfl rfl rfl) ?_)
                | (refine HL_skip rfl rfl rfl ?_)
              all_goals first
                | (refine HL_r rfl rfl rfl rfl (R_pickT rfl rfl) ?_)
                | (refine HL_r rfl rfl rfl rfl (R_pickF rfl rfl) ?_)
              all_goals refine HL_nil ?_
              all_goals (
                refine HQ_then ?_
                refine hK9 _ _ _ _ ?_; clear hK9 K9
                refine HC_cond rfl (fun h16 => ?_) (fun h16 => ?_)
                · try exact Bool.noConfusion h16
                  all_goals try simp only [decide_eq_true_eq, decide_eq_false_iff_not, beq_iff_eq, beq_eq_false_iff_ne, bne_iff_ne, bne_eq_false_iff_eq, Bool.not_eq_true', Bool.not_eq_false', ne_eq, Int.not_lt, Int.not_le, ge_iff_le, gt_iff_lt] at h16
                  all_goals (
                    refine HC_seq fun K17 hK17 => ?_
                    refine HC_region ?_
                    all_goals refine HL_r rfl rfl rfl rfl (R_move rfl) ?_
                    all_goals refine HL_r rfl rfl rfl rfl (R_assign rfl) ?_
                    all_goals refine HL_nil ?_
                    all_goals (
                      refine HQ_then ?_
                      refine hK17 _ _ _ _ ?_; clear hK17 K17
                      refine HC_ret ?_
                      refine HQ_thenR ?_; clear hK8 K8
                      refine HQ_post rfl rfl (.cons (res_tmp rfl) .nil) (fun w1 hs1 => ?_)
                      exact ⟨rfl, hs1.keep⟩
                      skip)
                    skip)
                · try exact Bool.noConfusion h16
                  all_goals try simp only [decide_eq_true_eq, decide_eq_false_iff_not, beq_iff_eq, beq_eq_false_iff_ne, bne_iff_ne, bne_eq_false_iff_eq, Bool.not_eq_true', Bool.not_eq_false', ne_eq, Int.not_lt, Int.not_le, ge_iff_le, gt_iff_lt] at h16
                  all_goals (
                    refine HC_skip ?_
                    refine HQ_then ?_
                    refine hK8 _ _ _ _ ?_; clear hK8 K8
                    refine HC_seq fun K18 hK18 => ?_
                    refine HC_region ?_
                    all_goals refine HL_r rfl rfl rfl rfl (R_move rfl) ?_
                    all_goals refine HL_r rfl rfl rfl rfl (R_move rfl) ?_
                    all_goals refine HL_r rfl rfl rfl rfl (R_loadArr (xs := s.cells) (n := 1) rfl (known_L (k := 0) rfl) rfl rfl rfl) ?_
                    all_goals refine HL_callRE rfl rfl rfl (enters_of Tryz.func38 (by kernel_rfl) rfl) (S_Migrate f g hs) (fun q hq => Or.inr hq) fun x => ?_
                    all_goals refine HL_perm List.perm_append_comm ?_
                    all_goals change HL _ _ ((41, .tuple #[x.s.val, .int .i64 x.err]) :: _) ((rs, _) :: x.L) _ _ _ _
                    all_goals refine HL_r rfl rfl rfl rfl (R_move rfl) ?_
                    all_goals refine HL_r rfl rfl rfl rfl (R_extract rfl rfl) ?_
                    all_goals refine HL_r rfl rfl rfl rfl (R_extract rfl rfl) ?_
                    all_goals refine HL_alloc (cs := #[_]) rfl rfl rfl rfl fun rx => ?_
                    all_goals refine HL_storeArr (k := 0) (n := 1) (ys := x.s.cells) rfl rfl rfl rfl rfl rfl rfl rfl rfl ?_
                    all_goals refine HL_r rfl rfl rfl rfl (R_assign rfl) ?_
                    all_goals refine HL_nil ?_
                    all_goals (
                      refine HQ_then ?_
                      refine hK18 _ _ _ _ ?_; clear hK18 K18
                      refine HC_seq fun K19 hK19 => ?_
                      refine HC_region ?_
                      all_goals refine HL_r rfl rfl rfl rfl (R_move rfl) ?_
                      all_goals refine HL_r rfl rfl rfl rfl (R_move rfl) ?_
                      all_goals refine HL_r rfl rfl rfl rfl (R_loadArr (xs := x.s.cells) (n := 1) rfl (known_L (k := 0) rfl) rfl rfl rfl) ?_
                      all_goals refine HL_callRE rfl rfl rfl (enters_of Tryz.func38 (by kernel_rfl) rfl) (S_Migrate (R := x.L ++ R) g h x.ok) (fun q hq => (List.mem_append.1 hq).elim (fun h => Or.inl (List.mem_cons_of_mem _ (List.mem_cons_of_mem _ h))) (fun hq => Or.inr hq)) fun y => ?_
                      all_goals refine HL_perm (perm_mid y.L [_, _] (x.L)) ?_
                      all_goals change HL _ _ ((48, .tuple #[y.s.val, .int .i64 y.err]) :: _) ((rx, _) :: (rs, _) :: (y.L ++ (x.L))) _ _ _ _
                      all_goals refine HL_r rfl rfl rfl rfl (R_move rfl) ?_
                      all_goals refine HL_r rfl rfl rfl rfl (R_extract rfl rfl) ?_
                      all_goals refine HL_r rfl rfl rfl rfl (R_extract rfl rfl) ?_
                      all_goals refine HL_alloc (cs := #[_]) rfl rfl rfl rfl fun ry => ?_
                      all_goals refine HL_storeArr (k := 0) (n := 1) (ys := y.s.cells) rfl rfl rfl rfl rfl rfl rfl rfl rfl ?_
                      all_goals refine HL_r rfl rfl rfl rfl (R_assign rfl) ?_
                      all_goals refine HL_nil ?_
                      all_goals (
                        refine HQ_then ?_
                        refine hK19 _ _ _ _ ?_; clear hK19 K19
                        refine HC_seq fun K20 hK20 => ?_
                        refine HC_region ?_
                        all_goals refine HL_r rfl rfl rfl rfl (R_move rfl) ?_
                        all_goals refine HL_r rfl rfl rfl rfl (R_move rfl) ?_
                        all_goals refine HL_r rfl rfl rfl rfl (R_loadArr (xs := s.cells) (n := 1) rfl (known_L (k := 2) rfl) rfl rfl rfl) ?_
                        all_goals refine HL_callRE rfl rfl rfl (enters_of Tryz.func38 (by kernel_rfl) rfl) (S_Migrate (R := y.L ++ (x.L ++ R)) f h (hs.mono fun q hq => List.mem_append_right _ (List.mem_append_right _ hq))) (fun q hq => (List.mem_append.1 hq).elim (fun h => Or.inl (List.mem_cons_of_mem _ (List.mem_cons_of_mem _ (List.mem_cons_of_mem _ (List.mem_append_left _ h))))) (fun hq => (List.mem_append.1 hq).elim (fun h => Or.inl (List.mem_cons_of_mem _ (List.mem_cons_of_mem _ (List.mem_cons_of_mem _ (List.mem_append_right _ h))))) (fun hq => Or.inr hq))) fun z => ?_
                        all_goals refine HL_perm (perm_mid z.L [_, _, _] (y.L ++ x.L)) ?_
                        all_goals change HL _ _ ((55, .tuple #[z.s.val, .int .i64 z.err]) :: _) ((ry, _) :: (rx, _) :: (rs, _) :: (z.L ++ (y.L ++ x.L))) _ _ _ _
                        all_goals refine HL_r rfl rfl rfl rfl (R_move rfl) ?_
                        all_goals refine HL_r rfl rfl rfl rfl (R_extract rfl rfl) ?_
                        all_goals refine HL_r rfl rfl rfl rfl (R_extract rfl rfl) ?_
                        all_goals refine HL_alloc (cs := #[_]) rfl rfl rfl rfl fun rz => ?_
                        all_goals refine HL_storeArr (k := 0) (n := 1) (ys := z.s.cells) rfl rfl rfl rfl rfl rfl rfl rfl rfl ?_
                        all_goals refine HL_r rfl rfl rfl rfl (R_assign rfl) ?_
                        all_goals refine HL_nil ?_
                        all_goals (
                          refine HQ_then ?_
                          refine hK20 _ _ _ _ ?_; clear hK20 K20
                          refine HC_seq fun K21 hK21 => ?_
                          refine HC_region ?_
                          all_goals refine HL_r rfl rfl rfl rfl (R_move rfl) ?_
                          all_goals refine HL_r rfl rfl rfl rfl (R_move rfl) ?_
                          all_goals refine HL_r rfl rfl rfl rfl (R_loadArr (xs := s.cells) (n := 1) rfl (known_L (k := 3) rfl) rfl rfl rfl) ?_
                          all_goals refine HL_callRE rfl rfl rfl (enters_of Tryz.func38 (by kernel_rfl) rfl) (S_Migrate (R := z.L ++ (y.L ++ (x.L ++ R))) f f (hs.mono fun q hq => List.mem_append_right _ (List.mem_append_right _ (List.mem_append_right _ hq)))) (fun q hq => (List.mem_append.1 hq).elim (fun h => Or.inl (List.mem_cons_of_mem _ (List.mem_cons_of_mem _ (List.mem_cons_of_mem _ (List.mem_cons_of_mem _ (List.mem_append_left _ h)))))) (fun hq => (List.mem_append.1 hq).elim (fun h => Or.inl (List.mem_cons_of_mem _ (List.mem_cons_of_mem _ (List.mem_cons_of_mem _ (List.mem_cons_of_mem _ (List.mem_append_right _ (List.mem_append_left _ h))))))) (fun hq => (List.mem_append.1 hq).elim (fun h => Or.inl (List.mem_cons_of_mem _ (List.mem_cons_of_mem _ (List.mem_cons_of_mem _ (List.mem_cons_of_mem _ (List.mem_append_right _ (List.mem_append_right _ h))))))) (fun hq => Or.inr hq)))) fun u => ?_
                          all_goals refine HL_perm (perm_mid u.L [_, _, _, _] (z.L ++ (y.L ++ x.L))) ?_
                          all_goals change HL _ _ ((62, .tuple #[u.s.val, .int .i64 u.err]) :: _) ((rz, _) :: (ry, _) :: (rx, _) :: (rs, _) :: (u.L ++ (z.L ++ (y.L ++ x.L)))) _ _ _ _
                          all_goals refine HL_r rfl rfl rfl rfl (R_move rfl) ?_
                          all_goals refine HL_r rfl rfl rfl rfl (R_extract rfl rfl) ?_
                          all_goals refine HL_r rfl rfl rfl rfl (R_extract rfl rfl) ?_
                          all_goals refine HL_alloc (cs := #[_]) rfl rfl rfl rfl fun ru => ?_
                          all_goals refine HL_storeArr (k := 0) (n := 1) (ys := u.s.cells) rfl rfl rfl rfl rfl rfl rfl rfl rfl ?_
                          all_goals refine HL_r rfl rfl rfl rfl (R_assign rfl) ?_
                          all_goals refine HL_nil ?_
                          all_goals (
                            refine HQ_then ?_
                            refine hK21 _ _ _ _ ?_; clear hK21 K21
                            refine HC_seq fun K22 hK22 => ?_
                            refine HC_seq fun K23 hK23 => ?_
                            obtain ⟨hp1, hp2, hp3⟩ := parts_res x y z (show f ≤ g by omega) (show g ≤ h by omega)
                            refine HC_region ?_
                            all_goals refine HL_r rfl rfl rfl rfl (R_move rfl) ?_
                            all_goals refine HL_r rfl rfl rfl rfl (R_pure rfl rfl rfl) ?_
                            all_goals refine HL_r rfl rfl rfl rfl (R_move rfl) ?_
                            all_goals (refine HL_case 67 rfl (fun hb24 => ?_) (fun hb24 => ?_) <;> (try simp only [decide_eq_true_eq, decide_eq_false_iff_not, beq_iff_eq, beq_eq_false_iff_ne, bne_iff_ne, bne_eq_false_iff_eq, Bool.not_eq_true', Bool.not_eq_false', ne_eq, Int.not_lt, Int.not_le, ge_iff_le, gt_iff_lt] at hb24) <;> first | (refine HL_r rfl rfl rfl rfl (R_loadArr (xs := u.s.cells) (n := 1) rfl (known_L (k := 0) rfl) rfl rfl rfl) ?_) | (refine HL_skip rfl rfl rfl ?_))
                            all_goals first
                              | (refine HL_r rfl rfl rfl rfl (R_loadArr (xs := s.cells) (n := 1) rfl (known_L (k := 4) rfl) rfl rfl rfl) ?_)
                              | (refine HL_skip rfl rfl rfl ?_)
                            all_goals first
                              | (have hus : u.s.er = s.er := (wr_er u).symm.trans (migE_self (by rw [← u.eq]; assumption)); refine HL_callR rfl rfl rfl (enters_of Tryz.func30 (by kernel_rfl) rfl) (S_Same (R := u.L ++ (z.L ++ (y.L ++ (x.L ++ R)))) u.ok (hs.mono fun q hq => List.mem_append_right _ (List.mem_append_right _ (List.mem_append_right _ (List.mem_append_right _ hq))))) (fun q hq => (List.mem_append.1 hq).elim (fun h => Or.inl (List.mem_cons_of_mem _ (List.mem_cons_of_mem _ (List.mem_cons_of_mem _ (List.mem_cons_of_mem _ (List.mem_cons_of_mem _ (List.mem_append_left _ h))))))) (fun hq => (List.mem_append.1 hq).elim (fun h => Or.inl (List.mem_cons_of_mem _ (List.mem_cons_of_mem _ (List.mem_cons_of_mem _ (List.mem_cons_of_mem _ (List.mem_cons_of_mem _ (List.mem_append_right _ (List.mem_append_left _ h)))))))) (fun hq => (List.mem_append.1 hq).elim (fun h => Or.inl (List.mem_cons_of_mem _ (List.mem_cons_of_mem _ (List.mem_cons_of_mem _ (List.mem_cons_of_mem _ (List.mem_cons_of_mem _ (List.mem_append_right _ (List.mem_append_right _ (List.mem_append_left _ h))))))))) (fun hq => (List.mem_append.1 hq).elim (fun h => Or.inl (List.mem_cons_of_mem _ (List.mem_cons_of_mem _ (List.mem_cons_of_mem _ (List.mem_cons_of_mem _ (List.mem_cons_of_mem _ (List.mem_append_right _ (List.mem_append_right _ (List.mem_append_right _ h))))))))) (fun hq => Or.inr hq))))) ?_; refine HL_as (as_bool (decide_eq_true hus)) ?_)
                              | (refine HL_skip rfl rfl rfl ?_)
                            all_goals first
                              | (refine HL_r rfl rfl rfl rfl (R_pure rfl rfl rfl) ?_)
                              | (refine HL_skip rfl rfl rfl ?_)
                            all_goals first
                              | (refine HL_r rfl rfl rfl rfl (R_pickT rfl rfl) ?_)
                              | (refine HL_r rfl rfl rfl rfl (R_pickF rfl rfl) ?_)
                            all_goals refine HL_nil ?_
                            all_goals (
                              refine HQ_then ?_
                              refine hK23 _ _ _ _ ?_; clear hK23 K23
                              refine HC_cond rfl (fun h28 => ?_) (fun h28 => ?_)
                              · try exact Bool.noConfusion h28
                                all_goals try simp only [decide_eq_true_eq, decide_eq_false_iff_not, beq_iff_eq, beq_eq_false_iff_ne, bne_iff_ne, bne_eq_false_iff_eq, Bool.not_eq_true', Bool.not_eq_false', ne_eq, Int.not_lt, Int.not_le, ge_iff_le, gt_iff_lt] at h28
                                all_goals (
                                  refine HC_seq fun K29 hK29 => ?_
                                  refine HC_region ?_
                                  all_goals refine HL_r rfl rfl rfl rfl (R_assign rfl) ?_
                                  all_goals refine HL_nil ?_
                                  all_goals (
                                    refine HQ_then ?_
                                    refine hK29 _ _ _ _ ?_; clear hK29 K29
                                    refine HC_ret ?_
                                    refine HQ_thenR ?_; clear hK22 K22
                                    refine HQ_post rfl rfl (.cons (res_tmp rfl) .nil) (fun w1 hs1 => ?_)
                                    exact ⟨rfl, hs1.keep⟩
                                    skip)
                                  skip)
                              · try exact Bool.noConfusion h28
                                all_goals try simp only [decide_eq_true_eq, decide_eq_false_iff_not, beq_iff_eq, beq_eq_false_iff_ne, bne_iff_ne, bne_eq_false_iff_eq, Bool.not_eq_true', Bool.not_eq_false', ne_eq, Int.not_lt, Int.not_le, ge_iff_le, gt_iff_lt] at h28
                                all_goals (
                                  refine HC_skip ?_
                                  refine HQ_then ?_
                                  refine hK22 _ _ _ _ ?_; clear hK22 K22
                                  refine HC_seq fun K30 hK30 => ?_
                                  refine HC_seq fun K31 hK31 => ?_
                                  refine HC_region ?_
                                  all_goals refine HL_r rfl rfl rfl rfl (R_move rfl) ?_
                                  all_goals refine HL_r rfl rfl rfl rfl (R_pure rfl rfl rfl) ?_
                                  all_goals refine HL_nil ?_
                                  all_goals (
                                    refine HQ_then ?_
                                    refine hK31 _ _ _ _ ?_; clear hK31 K31
                                    refine HC_cond rfl (fun h32 => ?_) (fun h32 => ?_)
                                    · try exact Bool.noConfusion h32
                                      all_goals try simp only [decide_eq_true_eq, decide_eq_false_iff_not, beq_iff_eq, beq_eq_false_iff_ne, bne_iff_ne, bne_eq_false_iff_eq, Bool.not_eq_true', Bool.not_eq_false', ne_eq, Int.not_lt, Int.not_le, ge_iff_le, gt_iff_lt] at h32
                                      all_goals (
                                        refine HC_seq fun K33 hK33 => ?_
                                        have hz := hp1 (by assumption)
                                        refine HC_region ?_
                                        all_goals refine HL_r rfl rfl rfl rfl (R_move rfl) ?_
                                        all_goals refine HL_r rfl rfl rfl rfl (R_move rfl) ?_
                                        all_goals (refine HL_r rfl rfl rfl rfl (R_move rfl) ?_)
                                        all_goals refine HL_r rfl rfl rfl rfl (R_pure rfl rfl rfl) ?_; refine HL_as (as_bool (show _ = true from ineT hz)) ?_
                                        all_goals (refine HL_r rfl rfl rfl rfl (R_pickT rfl rfl) ?_)
                                        all_goals refine HL_r rfl rfl rfl rfl (R_assign rfl) ?_
                                        all_goals refine HL_nil ?_
                                        all_goals (
                                          refine HQ_then ?_
                                          refine hK33 _ _ _ _ ?_; clear hK33 K33
                                          refine HC_ret ?_
                                          refine HQ_thenR ?_; clear hK30 K30
                                          refine HQ_post rfl rfl (.cons (res_tmp rfl) .nil) (fun w1 hs1 => ?_)
                                          exact ⟨rfl, hs1.keep⟩
                                          skip)
                                        skip)
                                    · try exact Bool.noConfusion h32
                                      all_goals try simp only [decide_eq_true_eq, decide_eq_false_iff_not, beq_iff_eq, beq_eq_false_iff_ne, bne_iff_ne, bne_eq_false_iff_eq, Bool.not_eq_true', Bool.not_eq_false', ne_eq, Int.not_lt, Int.not_le, ge_iff_le, gt_iff_lt] at h32
                                      all_goals (
                                        refine HC_skip ?_
                                        refine HQ_then ?_
                                        refine hK30 _ _ _ _ ?_; clear hK30 K30
                                        refine HC_seq fun K35 hK35 => ?_
                                        refine HC_seq fun K36 hK36 => ?_
                                        refine HC_region ?_
                                        all_goals refine HL_r rfl rfl rfl rfl (R_move rfl) ?_
                                        all_goals refine HL_r rfl rfl rfl rfl (R_pure rfl rfl rfl) ?_
                                        all_goals refine HL_nil ?_
                                        all_goals (
                                          refine HQ_then ?_
                                          refine hK36 _ _ _ _ ?_; clear hK36 K36
                                          refine HC_cond rfl (fun h37 => ?_) (fun h37 => ?_)
                                          · try exact Bool.noConfusion h37
                                            all_goals try simp only [decide_eq_true_eq, decide_eq_false_iff_not, beq_iff_eq, beq_eq_false_iff_ne, bne_iff_ne, bne_eq_false_iff_eq, Bool.not_eq_true', Bool.not_eq_false', ne_eq, Int.not_lt, Int.not_le, ge_iff_le, gt_iff_lt] at h37
                                            all_goals (
                                              refine HC_seq fun K38 hK38 => ?_
                                              have hp2 := hp2 (by assumption) (by assumption)
                                              refine HC_region ?_
                                              all_goals refine HL_r rfl rfl rfl rfl (R_move rfl) ?_
                                              all_goals refine HL_r rfl rfl rfl rfl (R_move rfl) ?_
                                              all_goals (refine HL_r rfl rfl rfl rfl (R_move rfl) ?_)
                                              all_goals (refine HL_r rfl rfl rfl rfl (R_move rfl) ?_)
                                              all_goals refine HL_r rfl rfl rfl rfl (R_pure rfl rfl rfl) ?_; refine HL_as (as_bool (show _ = true from ieqT hp2.1)) ?_
                                              all_goals (refine HL_r rfl rfl rfl rfl (R_pickT rfl rfl) ?_)
                                              all_goals refine HL_r rfl rfl rfl rfl (R_move rfl) ?_
                                              all_goals refine HL_r rfl rfl rfl rfl (R_loadArr (xs := z.s.cells) (n := 1) rfl (known_L (k := 1) rfl) rfl rfl rfl) ?_
                                              all_goals refine HL_r rfl rfl rfl rfl (R_loadArr (xs := s.cells) (n := 1) rfl (known_L (k := 4) rfl) rfl rfl rfl) ?_
                                              all_goals refine HL_callR rfl rfl rfl (enters_of Tryz.func30 (by kernel_rfl) rfl) (S_Same (R := u.L ++ (z.L ++ (y.L ++ (x.L ++ R)))) (z.ok.mono fun q hq => List.mem_append_right _ hq) (hs.mono fun q hq => List.mem_append_right _ (List.mem_append_right _ (List.mem_append_right _ (List.mem_append_right _ hq))))) (fun q hq => (List.mem_append.1 hq).elim (fun h => Or.inl (List.mem_cons_of_mem _ (List.mem_cons_of_mem _ (List.mem_cons_of_mem _ (List.mem_cons_of_mem _ (List.mem_cons_of_mem _ (List.mem_append_left _ h))))))) (fun hq => (List.mem_append.1 hq).elim (fun h => Or.inl (List.mem_cons_of_mem _ (List.mem_cons_of_mem _ (List.mem_cons_of_mem _ (List.mem_cons_of_mem _ (List.mem_cons_of_mem _ (List.mem_append_right _ (List.mem_append_left _ h)))))))) (fun hq => (List.mem_append.1 hq).elim (fun h => Or.inl (List.mem_cons_of_mem _ (List.mem_cons_of_mem _ (List.mem_cons_of_mem _ (List.mem_cons_of_mem _ (List.mem_cons_of_mem _ (List.mem_append_right _ (List.mem_append_right _ (List.mem_append_left _ h))))))))) (fun hq => (List.mem_append.1 hq).elim (fun h => Or.inl (List.mem_cons_of_mem _ (List.mem_cons_of_mem _ (List.mem_cons_of_mem _ (List.mem_cons_of_mem _ (List.mem_cons_of_mem _ (List.mem_append_right _ (List.mem_append_right _ (List.mem_append_right _ h))))))))) (fun hq => Or.inr hq))))) ?_; refine HL_as (as_bool (decide_eq_true hp2.2)) ?_
                                              all_goals (refine HL_r rfl rfl rfl rfl (R_pickT rfl rfl) ?_)
                                              all_goals refine HL_r rfl rfl rfl rfl (R_assign rfl) ?_
                                              all_goals refine HL_nil ?_
                                              all_goals (
                                                refine HQ_then ?_
                                                refine hK38 _ _ _ _ ?_; clear hK38 K38
                                                refine HC_ret ?_
                                                refine HQ_thenR ?_; clear hK35 K35
                                                refine HQ_post rfl rfl (.cons (res_tmp rfl) .nil) (fun w1 hs1 => ?_)
                                                exact ⟨rfl, hs1.keep⟩
                                                skip)
                                              skip)
                                          · try exact Bool.noConfusion h37
                                            all_goals try simp only [decide_eq_true_eq, decide_eq_false_iff_not, beq_iff_eq, beq_eq_false_iff_ne, bne_iff_ne, bne_eq_false_iff_eq, Bool.not_eq_true', Bool.not_eq_false', ne_eq, Int.not_lt, Int.not_le, ge_iff_le, gt_iff_lt] at h37
                                            all_goals (
                                              refine HC_skip ?_
                                              refine HQ_then ?_
                                              refine hK35 _ _ _ _ ?_; clear hK35 K35
                                              refine HC_seq fun K41 hK41 => ?_
                                              have hp3 := hp3 (by assumption) (by assumption)
                                              refine HC_region ?_
                                              all_goals refine HL_r rfl rfl rfl rfl (R_move rfl) ?_
                                              all_goals refine HL_r rfl rfl rfl rfl (R_move rfl) ?_
                                              all_goals (refine HL_r rfl rfl rfl rfl (R_move rfl) ?_)
                                              all_goals refine HL_r rfl rfl rfl rfl (R_pure rfl rfl rfl) ?_; refine HL_as (as_bool (show _ = true from ieqT hp3.1)) ?_
                                              all_goals (refine HL_r rfl rfl rfl rfl (R_pickT rfl rfl) ?_)
                                              all_goals refine HL_r rfl rfl rfl rfl (R_move rfl) ?_
                                              all_goals refine HL_r rfl rfl rfl rfl (R_loadArr (xs := y.s.cells) (n := 1) rfl (known_L (k := 2) rfl) rfl rfl rfl) ?_
                                              all_goals refine HL_r rfl rfl rfl rfl (R_loadArr (xs := z.s.cells) (n := 1) rfl (known_L (k := 1) rfl) rfl rfl rfl) ?_
                                              all_goals refine HL_callR rfl rfl rfl (enters_of Tryz.func30 (by kernel_rfl) rfl) (S_Same (R := u.L ++ (z.L ++ (y.L ++ (x.L ++ R)))) (y.ok.mono fun q hq => List.mem_append_right _ (List.mem_append_right _ hq)) (z.ok.mono fun q hq => List.mem_append_right _ hq)) (fun q hq => (List.mem_append.1 hq).elim (fun h => Or.inl (List.mem_cons_of_mem _ (List.mem_cons_of_mem _ (List.mem_cons_of_mem _ (List.mem_cons_of_mem _ (List.mem_cons_of_mem _ (List.mem_append_left _ h))))))) (fun hq => (List.mem_append.1 hq).elim (fun h => Or.inl (List.mem_cons_of_mem _ (List.mem_cons_of_mem _ (List.mem_cons_of_mem _ (List.mem_cons_of_mem _ (List.mem_cons_of_mem _ (List.mem_append_right _ (List.mem_append_left _ h)))))))) (fun hq => (List.mem_append.1 hq).elim (fun h => Or.inl (List.mem_cons_of_mem _ (List.mem_cons_of_mem _ (List.mem_cons_of_mem _ (List.mem_cons_of_mem _ (List.mem_cons_of_mem _ (List.mem_append_right _ (List.mem_append_right _ (List.mem_append_left _ h))))))))) (fun hq => (List.mem_append.1 hq).elim (fun h => Or.inl (List.mem_cons_of_mem _ (List.mem_cons_of_mem _ (List.mem_cons_of_mem _ (List.mem_cons_of_mem _ (List.mem_cons_of_mem _ (List.mem_append_right _ (List.mem_append_right _ (List.mem_append_right _ h))))))))) (fun hq => Or.inr hq))))) ?_; refine HL_as (as_bool (decide_eq_true hp3.2)) ?_
                                              all_goals (refine HL_r rfl rfl rfl rfl (R_pickT rfl rfl) ?_)
                                              all_goals refine HL_r rfl rfl rfl rfl (R_assign rfl) ?_
                                              all_goals refine HL_nil ?_
                                              all_goals (
                                                refine HQ_then ?_
                                                refine hK41 _ _ _ _ ?_; clear hK41 K41
                                                refine HC_ret ?_
                                                refine HQ_post rfl rfl (.cons (res_tmp rfl) .nil) (fun w1 hs1 => ?_)
                                                exact ⟨rfl, hs1.keep⟩
                                                skip)
                                              skip)
                                          skip)
                                        skip)
                                    skip)
                                  skip)
                              skip)
                            skip)
                          skip)
                        skip)
                      skip)
                    skip)
                skip)
              skip)
            skip)
        skip)
      skip)
    skip)
set_option maxRecDepth 10000 in
theorem L_MKeeps {R : List (Nat × Obj)} (f g : Int) {s : StL} (hs : s.In R) (a key : BS) : PureR Tryz.prog 10 [.int .i64 f, .int .i64 g, s.val, strV a, strV key].toArray (.bool true) R := by
  refine pureR_of_HC Tryz.func10 rfl rfl fun w => ?_
  refine HC_seq fun K1 hK1 => ?_
  refine HC_region ?_
  all_goals refine HL_box (cs := s.cells.toArray) rfl rfl rfl rfl fun rs => ?_
  all_goals refine HL_r rfl rfl rfl rfl (R_assign rfl) ?_
  all_goals refine HL_nil ?_
  all_goals (
    refine HQ_then ?_
    refine hK1 _ _ _ _ ?_; clear hK1 K1
    refine HC_seq fun K2 hK2 => ?_
    refine HC_region ?_
    all_goals refine HL_callR rfl rfl rfl (enters_of Tryz.func31 (by kernel_rfl) rfl) S_works24 (fun q hq => Or.inr hq) ?_
    all_goals refine HL_r rfl rfl rfl rfl (R_assign rfl) ?_
    all_goals refine HL_nil ?_
    all_goals (
      refine HQ_then ?_
      refine hK2 _ _ _ _ ?_; clear hK2 K2
      refine HC_seq fun K3 hK3 => ?_
      refine HC_seq fun K4 hK4 => ?_
      refine HC_region ?_
      all_goals refine HL_r rfl rfl rfl rfl (R_move rfl) ?_
      all_goals refine HL_r rfl rfl rfl rfl (R_pure rfl rfl rfl) ?_
      all_goals refine HL_nil ?_
      all_goals (
        refine HQ_then ?_
        refine hK4 _ _ _ _ ?_; clear hK4 K4
        refine HC_cond rfl (fun h5 => ?_) (fun h5 => ?_)
        · try exact Bool.noConfusion h5
          all_goals try simp only [decide_eq_true_eq, decide_eq_false_iff_not, beq_iff_eq, beq_eq_false_iff_ne, bne_iff_ne, bne_eq_false_iff_eq, Bool.not_eq_true', Bool.not_eq_false', ne_eq, Int.not_lt, Int.not_le, ge_iff_le, gt_iff_lt] at h5
          all_goals (
            refine HC_seq fun K6 hK6 => ?_
            refine HC_region ?_
            all_goals refine HL_r rfl rfl rfl rfl (R_assign rfl) ?_
            all_goals refine HL_nil ?_
            all_goals (
              refine HQ_then ?_
              refine hK6 _ _ _ _ ?_; clear hK6 K6
              refine HC_ret ?_
              refine HQ_thenR ?_; clear hK3 K3
              refine HQ_post rfl rfl (.cons (res_tmp rfl) .nil) (fun w1 hs1 => ?_)
              first
                | exact ⟨rfl, hs1.keep⟩
                | (exfalso; simp_all; done)
                | trace_state
              skip)
            skip)
        · try exact Bool.noConfusion h5
          all_goals try simp only [decide_eq_true_eq, decide_eq_false_iff_not, beq_iff_eq, beq_eq_false_iff_ne, bne_iff_ne, bne_eq_false_iff_eq, Bool.not_eq_true', Bool.not_eq_false', ne_eq, Int.not_lt, Int.not_le, ge_iff_le, gt_iff_lt] at h5
          all_goals (
            refine HC_skip ?_
            refine HQ_then ?_
            refine hK3 _ _ _ _ ?_; clear hK3 K3
            refine HC_seq fun K7 hK7 => ?_
            refine HC_region ?_
            all_goals refine HL_r rfl rfl rfl rfl (R_loadArr (xs := s.cells) (n := 1) rfl (known_L (k := 0) rfl) rfl rfl rfl) ?_
            all_goals refine HL_callR rfl rfl rfl (enters_of Tryz.func14 (by kernel_rfl) rfl) (S_Few hs) (fun q hq => Or.inr hq) ?_
            all_goals refine HL_r rfl rfl rfl rfl (R_assign rfl) ?_
            all_goals refine HL_nil ?_
            all_goals (
              refine HQ_then ?_
              refine hK7 _ _ _ _ ?_; clear hK7 K7
              refine HC_seq fun K8 hK8 => ?_
              refine HC_seq fun K9 hK9 => ?_
              refine HC_region ?_
              all_goals refine HL_r rfl rfl rfl rfl (R_move rfl) ?_
              all_goals refine HL_r rfl rfl rfl rfl (R_pure rfl rfl rfl) ?_
              all_goals refine HL_r rfl rfl rfl rfl (R_move rfl) ?_
              all_goals (refine HL_case 29 rfl (fun hb10 => ?_) (fun hb10 => ?_) <;> (try simp only [decide_eq_true_eq, decide_eq_false_iff_not, beq_iff_eq, beq_eq_false_iff_ne, bne_iff_ne, bne_eq_false_iff_eq, Bool.not_eq_true', Bool.not_eq_false', ne_eq, Int.not_lt, Int.not_le, ge_iff_le, gt_iff_lt] at hb10) <;> first | (refine HL_r rfl rfl rfl rfl (R_move rfl) ?_) | (refine HL_skip rfl rfl rfl ?_))
              all_goals first
                | (refine HL_r rfl rfl rfl rfl (R_lenBs rfl rfl) ?_)
                | (refine HL_skip rfl rfl rfl ?_)
              all_goals first
                | (refine HL_r rfl rfl rfl rfl (R_pure rfl rfl rfl) ?_)
                | (refine HL_skip rfl rfl rfl ?_)
              all_goals first
                | (refine HL_r rfl rfl rfl rfl (R_pickT rfl rfl) ?_)
                | (refine HL_r rfl rfl rfl rfl (R_pickF rfl rfl) ?_)
              all_goals refine HL_r rfl rfl rfl rfl (R_move rfl) ?_
              all_goals first
                | (refine HL_skip rfl rfl rfl ?_)
                | (refine HL_case 34 rfl (fun hb13 => ?_) (fun hb13 => ?_) <;> (try simp only [decide_eq_true_eq, decide_eq_false_iff_not, beq_iff_eq, beq_eq_false_iff_ne, bne_iff_ne, bne_eq_false_iff_eq, Bool.not_eq_true', Bool.not_eq_false', ne_eq, Int.not_lt, Int.not_le, ge_iff_le, gt_iff_lt] at hb13) <;> first | (refine HL_r rfl rfl rfl rfl (R_move rfl) ?_) | (refine HL_skip rfl rfl rfl ?_))
              all_goals first
                | (refine HL_r rfl rfl rfl rfl (R_lenBs rfl rfl) ?_)
                | (refine HL_skip rfl rfl rfl ?_)
              all_goals first
                | (refine HL_r rfl rfl rfl rfl (R_pure rfl rfl rfl) ?_)
                | (refine HL_skip rfl rfl rfl ?_)
              all_goals first
                | (refine HL_r rfl rfl rfl rfl (R_pickT rfl rfl) ?_)
                | (refine HL_r rfl rfl rfl rfl (R_pickF rfl rfl) ?_)
              all_goals refine HL_nil ?_
              all_goals (
                refine HQ_then ?_
                refine hK9 _ _ _ _ ?_; clear hK9 K9
                refine HC_cond rfl (fun h16 => ?_) (fun h16 => ?_)
                · try exact Bool.noConfusion h16
                  all_goals try simp only [decide_eq_true_eq, decide_eq_false_iff_not, beq_iff_eq, beq_eq_false_iff_ne, bne_iff_ne, bne_eq_false_iff_eq, Bool.not_eq_true', Bool.not_eq_false', ne_eq, Int.not_lt, Int.not_le, ge_iff_le, gt_iff_lt] at h16
                  all_goals (
                    refine HC_seq fun K17 hK17 => ?_
                    refine HC_region ?_
                    all_goals refine HL_r rfl rfl rfl rfl (R_move rfl) ?_
                    all_goals refine HL_r rfl rfl rfl rfl (R_assign rfl) ?_
                    all_goals refine HL_nil ?_
                    all_goals (
                      refine HQ_then ?_
                      refine hK17 _ _ _ _ ?_; clear hK17 K17
                      refine HC_ret ?_
                      refine HQ_thenR ?_; clear hK8 K8
                      refine HQ_post rfl rfl (.cons (res_tmp rfl) .nil) (fun w1 hs1 => ?_)
                      first
                        | exact ⟨rfl, hs1.keep⟩
                        | (exfalso; simp_all; done)
                        | trace_state
                      skip)
                    skip)
                · try exact Bool.noConfusion h16
                  all_goals try simp only [decide_eq_true_eq, decide_eq_false_iff_not, beq_iff_eq, beq_eq_false_iff_ne, bne_iff_ne, bne_eq_false_iff_eq, Bool.not_eq_true', Bool.not_eq_false', ne_eq, Int.not_lt, Int.not_le, ge_iff_le, gt_iff_lt] at h16
                  all_goals (
                    refine HC_skip ?_
                    refine HQ_then ?_
                    refine hK8 _ _ _ _ ?_; clear hK8 K8
                    refine HC_seq fun K18 hK18 => ?_
                    refine HC_region ?_
                    all_goals refine HL_r rfl rfl rfl rfl (R_move rfl) ?_
                    all_goals refine HL_r rfl rfl rfl rfl (R_move rfl) ?_
                    all_goals refine HL_r rfl rfl rfl rfl (R_loadArr (xs := s.cells) (n := 1) rfl (known_L (k := 0) rfl) rfl rfl rfl) ?_
                    all_goals refine HL_callRE rfl rfl rfl (enters_of Tryz.func38 (by kernel_rfl) rfl) (S_Migrate f g hs) (fun q hq => Or.inr hq) fun x => ?_
                    all_goals refine HL_perm List.perm_append_comm ?_
                    all_goals change HL _ _ ((44, .tuple #[x.s.val, .int .i64 x.err]) :: _) ((rs, _) :: x.L) _ _ _ _
                    all_goals refine HL_r rfl rfl rfl rfl (R_move rfl) ?_
                    all_goals refine HL_r rfl rfl rfl rfl (R_extract rfl rfl) ?_
                    all_goals refine HL_r rfl rfl rfl rfl (R_extract rfl rfl) ?_
                    all_goals refine HL_alloc (cs := #[_]) rfl rfl rfl rfl fun r1 => ?_
                    all_goals refine HL_storeArr (k := 0) (n := 1) (ys := x.s.cells) rfl rfl rfl rfl rfl rfl rfl rfl rfl ?_
                    all_goals refine HL_r rfl rfl rfl rfl (R_assign rfl) ?_
                    all_goals refine HL_nil ?_
                    all_goals (
                      refine HQ_then ?_
                      refine hK18 _ _ _ _ ?_; clear hK18 K18
                      refine HC_seq fun K19 hK19 => ?_
                      refine HC_seq fun K20 hK20 => ?_
                      refine HC_region ?_
                      all_goals refine HL_r rfl rfl rfl rfl (R_move rfl) ?_
                      all_goals refine HL_r rfl rfl rfl rfl (R_pure rfl rfl rfl) ?_
                      all_goals refine HL_nil ?_
                      all_goals (
                        refine HQ_then ?_
                        refine hK20 _ _ _ _ ?_; clear hK20 K20
                        refine HC_cond rfl (fun h21 => ?_) (fun h21 => ?_)
                        · try exact Bool.noConfusion h21
                          all_goals try simp only [decide_eq_true_eq, decide_eq_false_iff_not, beq_iff_eq, beq_eq_false_iff_ne, bne_iff_ne, bne_eq_false_iff_eq, Bool.not_eq_true', Bool.not_eq_false', ne_eq, Int.not_lt, Int.not_le, ge_iff_le, gt_iff_lt] at h21
                          all_goals (
                            refine HC_seq fun K22 hK22 => ?_
                            refine HC_region ?_
                            all_goals refine HL_r rfl rfl rfl rfl (R_move rfl) ?_
                            all_goals refine HL_r rfl rfl rfl rfl (R_assign rfl) ?_
                            all_goals refine HL_nil ?_
                            all_goals (
                              refine HQ_then ?_
                              refine hK22 _ _ _ _ ?_; clear hK22 K22
                              refine HC_ret ?_
                              refine HQ_thenR ?_; clear hK19 K19
                              refine HQ_post rfl rfl (.cons (res_tmp rfl) .nil) (fun w1 hs1 => ?_)
                              first
                                | exact ⟨rfl, hs1.keep⟩
                                | (exfalso; simp_all; done)
                                | trace_state
                              skip)
                            skip)
                        · try exact Bool.noConfusion h21
                          all_goals try simp only [decide_eq_true_eq, decide_eq_false_iff_not, beq_iff_eq, beq_eq_false_iff_ne, bne_iff_ne, bne_eq_false_iff_eq, Bool.not_eq_true', Bool.not_eq_false', ne_eq, Int.not_lt, Int.not_le, ge_iff_le, gt_iff_lt] at h21
                          all_goals (
                            refine HC_skip ?_
                            refine HQ_then ?_
                            refine hK19 _ _ _ _ ?_; clear hK19 K19
                            refine HC_seq fun K23 hK23 => ?_
                            have he : x.err = 0 := by assumption
                            have K : Stay s x.s a key := (mig_fits (wr_eq x he)).2.2.2.2.2.stay a key
                            obtain ⟨is, his⟩ : ∃ b, b = foundB s a := ⟨_, rfl⟩
                            obtain ⟨as_, has⟩ : ∃ b, b = foundB x.s a := ⟨_, rfl⟩
                            have hth : is = true → as_ = true := by rw [his, has]; exact K.there
                            refine HC_region ?_
                            all_goals refine HL_r rfl rfl rfl rfl (R_loadArr (xs := s.cells) (n := 1) rfl (known_L (k := 1) rfl) rfl rfl rfl) ?_
                            all_goals refine HL_r rfl rfl rfl rfl (R_move rfl) ?_
                            all_goals refine HL_callR rfl rfl rfl (enters_of Tryz.func40 (by kernel_rfl) rfl) (S_Find hs a) (fun q hq => Or.inr hq) ?_; refine HL_as (congrArg (fun z => Value.tuple #[(findL s a).val, .bool z]) his.symm) ?_
                            all_goals refine HL_r rfl rfl rfl rfl (R_move rfl) ?_
                            all_goals refine HL_r rfl rfl rfl rfl (R_extract rfl rfl) ?_
                            all_goals refine HL_r rfl rfl rfl rfl (R_extract rfl rfl) ?_
                            all_goals refine HL_alloc (cs := #[_, _, _, _, _, _, _, _]) rfl rfl rfl rfl fun r2 => ?_
                            all_goals refine HL_storeArr (k := 0) (n := 8) (ys := (findL s a).cells) rfl rfl rfl rfl rfl rfl rfl rfl rfl ?_
                            all_goals refine HL_r rfl rfl rfl rfl (R_assign rfl) ?_
                            all_goals refine HL_nil ?_
                            all_goals (
                              refine HQ_then ?_
                              refine hK23 _ _ _ _ ?_; clear hK23 K23
                              refine HC_seq fun K24 hK24 => ?_
                              refine HC_region ?_
                              all_goals refine HL_r rfl rfl rfl rfl (R_loadArr (xs := x.s.cells) (n := 1) rfl (known_L (k := 1) rfl) rfl rfl rfl) ?_
                              all_goals refine HL_r rfl rfl rfl rfl (R_move rfl) ?_
                              all_goals refine HL_callR rfl rfl rfl (enters_of Tryz.func40 (by kernel_rfl) rfl) (S_Find x.ok a) (fun q hq => (List.mem_append.1 hq).elim (fun h => Or.inl (List.mem_cons_of_mem _ (List.mem_cons_of_mem _ (List.mem_cons_of_mem _ h)))) (fun hq => Or.inr hq)) ?_; refine HL_as (congrArg (fun z => Value.tuple #[(findL x.s a).val, .bool z]) has.symm) ?_
                              all_goals refine HL_r rfl rfl rfl rfl (R_move rfl) ?_
                              all_goals refine HL_r rfl rfl rfl rfl (R_extract rfl rfl) ?_
                              all_goals refine HL_r rfl rfl rfl rfl (R_extract rfl rfl) ?_
                              all_goals refine HL_alloc (cs := #[_, _, _, _, _, _, _, _]) rfl rfl rfl rfl fun r3 => ?_
                              all_goals refine HL_storeArr (k := 0) (n := 8) (ys := (findL x.s a).cells) rfl rfl rfl rfl rfl rfl rfl rfl rfl ?_
                              all_goals refine HL_r rfl rfl rfl rfl (R_assign rfl) ?_
                              all_goals refine HL_nil ?_
                              all_goals (
                                refine HQ_then ?_
                                refine hK24 _ _ _ _ ?_; clear hK24 K24
                                refine HC_seq fun K25 hK25 => ?_
                                refine HC_seq fun K26 hK26 => ?_
                                refine HC_region ?_
                                all_goals refine HL_r rfl rfl rfl rfl (R_move rfl) ?_
                                all_goals refine HL_callP rfl rfl rfl (enters_of Tryz.func23 (by kernel_rfl) rfl) (P_Addr 0) ?_
                                all_goals refine HL_r rfl rfl rfl rfl (R_strNe rfl rfl) ?_
                                all_goals refine HL_r rfl rfl rfl rfl (R_move rfl) ?_
                                all_goals (refine HL_case 65 rfl (fun hb27 => ?_) (fun hb27 => ?_) <;> (try simp only [decide_eq_true_eq, decide_eq_false_iff_not, beq_iff_eq, beq_eq_false_iff_ne, bne_iff_ne, bne_eq_false_iff_eq, Bool.not_eq_true', Bool.not_eq_false', ne_eq, Int.not_lt, Int.not_le, ge_iff_le, gt_iff_lt] at hb27) <;> first | (refine HL_r rfl rfl rfl rfl (R_move rfl) ?_) | (refine HL_skip rfl rfl rfl ?_))
                                all_goals first
                                  | (refine HL_callP rfl rfl rfl (enters_of Tryz.func23 (by kernel_rfl) rfl) (P_Addr 1) ?_)
                                  | (refine HL_skip rfl rfl rfl ?_)
                                all_goals first
                                  | (refine HL_r rfl rfl rfl rfl (R_strNe rfl rfl) ?_)
                                  | (refine HL_skip rfl rfl rfl ?_)
                                all_goals first
                                  | (refine HL_r rfl rfl rfl rfl (R_pickT rfl rfl) ?_)
                                  | (refine HL_r rfl rfl rfl rfl (R_pickF rfl rfl) ?_)
                                all_goals refine HL_nil ?_
                                all_goals (
                                  refine HQ_then ?_
                                  refine hK26 _ _ _ _ ?_; clear hK26 K26
                                  refine HC_cond rfl (fun h30 => ?_) (fun h30 => ?_)
                                  · try exact Bool.noConfusion h30
                                    all_goals try simp only [decide_eq_true_eq, decide_eq_false_iff_not, beq_iff_eq, beq_eq_false_iff_ne, bne_iff_ne, bne_eq_false_iff_eq, Bool.not_eq_true', Bool.not_eq_false', ne_eq, Int.not_lt, Int.not_le, ge_iff_le, gt_iff_lt] at h30
                                    all_goals (
                                      refine HC_seq fun K31 hK31 => ?_
                                      have hoth := K.oth (by assumption) (by assumption)
                                      refine HC_region ?_
                                      all_goals refine HL_r rfl rfl rfl rfl (R_loadArr (xs := (findL s a).cells) (n := 8) rfl (known_L (k := 1) rfl) rfl rfl rfl) ?_
                                      all_goals refine HL_r rfl rfl rfl rfl (R_loadArr (xs := (findL x.s a).cells) (n := 8) rfl (known_L (k := 0) rfl) rfl rfl rfl) ?_
                                      all_goals refine HL_callR rfl rfl rfl (enters_of Tryz.func41 (by kernel_rfl) rfl) (S_SameAcct (R := x.L ++ R) ((find_in hs a).mono fun q hq => List.mem_append_right _ hq) (find_in x.ok a)) (fun q hq => (List.mem_append.1 hq).elim (fun h => Or.inl (List.mem_cons_of_mem _ (List.mem_cons_of_mem _ (List.mem_cons_of_mem _ (List.mem_cons_of_mem _ h))))) (fun hq => Or.inr hq)) ?_; refine HL_as (as_bool (decide_eq_true hoth.2)) ?_
                                      all_goals refine HL_r rfl rfl rfl rfl (R_assign rfl) ?_
                                      all_goals refine HL_nil ?_
                                      all_goals (
                                        refine HQ_then ?_
                                        refine hK31 _ _ _ _ ?_; clear hK31 K31
                                        refine HC_seq fun K32 hK32 => ?_
                                        refine HC_region ?_
                                        all_goals refine HL_r rfl rfl rfl rfl (R_move rfl) ?_
                                        all_goals refine HL_r rfl rfl rfl rfl (R_move rfl) ?_
                                        all_goals (refine HL_r rfl rfl rfl rfl (R_move rfl) ?_)
                                        all_goals (refine HL_r rfl rfl rfl rfl (R_move rfl) ?_)
                                        all_goals refine HL_r rfl rfl rfl rfl (R_pure rfl rfl rfl) ?_; refine HL_as (as_bool (show _ = true by rw [show is = as_ by rw [his, has]; exact hoth.1]; cases as_ <;> rfl)) ?_
                                        all_goals (refine HL_r rfl rfl rfl rfl (R_pickT rfl rfl) ?_)
                                        all_goals refine HL_r rfl rfl rfl rfl (R_move rfl) ?_
                                        all_goals (refine HL_r rfl rfl rfl rfl (R_move rfl) ?_)
                                        all_goals (refine HL_r rfl rfl rfl rfl (R_pickT rfl rfl) ?_)
                                        all_goals refine HL_r rfl rfl rfl rfl (R_assign rfl) ?_
                                        all_goals refine HL_nil ?_
                                        all_goals (
                                          refine HQ_then ?_
                                          refine hK32 _ _ _ _ ?_; clear hK32 K32
                                          refine HC_ret ?_
                                          refine HQ_thenR ?_; clear hK25 K25
                                          refine HQ_post rfl rfl (.cons (res_tmp rfl) .nil) (fun w1 hs1 => ?_)
                                          first
                                            | exact ⟨rfl, hs1.keep⟩
                                            | (exfalso; simp_all; done)
                                            | trace_state
                                          skip)
                                        skip)
                                      skip)
                                  · try exact Bool.noConfusion h30
                                    all_goals try simp only [decide_eq_true_eq, decide_eq_false_iff_not, beq_iff_eq, beq_eq_false_iff_ne, bne_iff_ne, bne_eq_false_iff_eq, Bool.not_eq_true', Bool.not_eq_false', ne_eq, Int.not_lt, Int.not_le, ge_iff_le, gt_iff_lt] at h30
                                    all_goals (
                                      refine HC_skip ?_
                                      refine HQ_then ?_
                                      refine hK25 _ _ _ _ ?_; clear hK25 K25
                                      refine HC_seq fun K36 hK36 => ?_
                                      refine HC_seq fun K37 hK37 => ?_
                                      refine HC_region ?_
                                      all_goals refine HL_r rfl rfl rfl rfl (R_move rfl) ?_
                                      all_goals refine HL_r rfl rfl rfl rfl (R_move rfl) ?_
                                      all_goals (refine HL_case 83 rfl (fun hb38 => ?_) (fun hb38 => ?_) <;> (try simp only [decide_eq_true_eq, decide_eq_false_iff_not, beq_iff_eq, beq_eq_false_iff_ne, bne_iff_ne, bne_eq_false_iff_eq, Bool.not_eq_true', Bool.not_eq_false', ne_eq, Int.not_lt, Int.not_le, ge_iff_le, gt_iff_lt] at hb38) <;> first | (refine HL_r rfl rfl rfl rfl (R_move rfl) ?_) | (refine HL_skip rfl rfl rfl ?_))
                                      all_goals first
                                        | (refine HL_r rfl rfl rfl rfl (R_pure rfl rfl rfl) ?_)
                                        | (refine HL_skip rfl rfl rfl ?_)
                                      all_goals first
                                        | (refine HL_r rfl rfl rfl rfl (R_pickT rfl rfl) ?_)
                                        | (refine HL_r rfl rfl rfl rfl (R_pickF rfl rfl) ?_)
                                      all_goals refine HL_r rfl rfl rfl rfl (R_move rfl) ?_
                                      all_goals first
                                        | (refine HL_r rfl rfl rfl rfl (R_fieldAddr rfl rfl (by first | (simp only [Nat.zero_add, Nat.reduceAdd, Nat.reduceMul, Nat.zero_mul, Nat.mul_one, Nat.add_zero]; exact rfl) | exact rfl)) ?_)
                                        | (refine HL_case 87 rfl (fun hb40 => ?_) (fun hb40 => ?_) <;> (try simp only [decide_eq_true_eq, decide_eq_false_iff_not, beq_iff_eq, beq_eq_false_iff_ne, bne_iff_ne, bne_eq_false_iff_eq, Bool.not_eq_true', Bool.not_eq_false', ne_eq, Int.not_lt, Int.not_le, ge_iff_le, gt_iff_lt] at hb40) <;> first | (refine HL_r rfl rfl rfl rfl (R_fieldAddr rfl rfl (by first | (simp only [Nat.zero_add, Nat.reduceAdd, Nat.reduceMul, Nat.zero_mul, Nat.mul_one, Nat.add_zero]; exact rfl) | exact rfl)) ?_) | (refine HL_skip rfl rfl rfl ?_))
                                      all_goals first
                                        | (refine HL_r rfl rfl rfl rfl (R_load rfl (known_L (k := 1) rfl) rfl rfl) ?_)
                                        | (refine HL_skip rfl rfl rfl ?_)
                                      all_goals first
                                        | (refine HL_r rfl rfl rfl rfl (R_fieldAddr rfl rfl (by first | (simp only [Nat.zero_add, Nat.reduceAdd, Nat.reduceMul, Nat.zero_mul, Nat.mul_one, Nat.add_zero]; exact rfl) | exact rfl)) ?_)
                                        | (refine HL_skip rfl rfl rfl ?_)
                                      all_goals first
                                        | (refine HL_r rfl rfl rfl rfl (R_load rfl (known_L (k := 0) rfl) rfl rfl) ?_)
                                        | (refine HL_skip rfl rfl rfl ?_)
                                      all_goals first
                                        | (refine HL_r rfl rfl rfl rfl (R_pure rfl rfl rfl) ?_; refine HL_as (as_bool (show _ = false from ineF (congrArg Int.ofNat K.nonce))) ?_)
                                        | (refine HL_skip rfl rfl rfl ?_)
                                      all_goals first
                                        | (refine HL_r rfl rfl rfl rfl (R_pickT rfl rfl) ?_)
                                        | (refine HL_r rfl rfl rfl rfl (R_pickF rfl rfl) ?_)
                                      all_goals refine HL_r rfl rfl rfl rfl (R_move rfl) ?_
                                      all_goals first
                                        | (refine HL_r rfl rfl rfl rfl (R_fieldAddr rfl rfl (by first | (simp only [Nat.zero_add, Nat.reduceAdd, Nat.reduceMul, Nat.zero_mul, Nat.mul_one, Nat.add_zero]; exact rfl) | exact rfl)) ?_)
                                        | (refine HL_skip rfl rfl rfl ?_)
                                      all_goals first
                                        | (refine HL_r rfl rfl rfl rfl (R_loadA (vs := [_, _, _, _]) rfl (known_L (k := 1) rfl) rfl rfl rfl rfl) ?_)
                                        | (refine HL_skip rfl rfl rfl ?_)
                                      all_goals first
                                        | (refine HL_r rfl rfl rfl rfl (R_fieldAddr rfl rfl (by first | (simp only [Nat.zero_add, Nat.reduceAdd, Nat.reduceMul, Nat.zero_mul, Nat.mul_one, Nat.add_zero]; exact rfl) | exact rfl)) ?_)
                                        | (refine HL_skip rfl rfl rfl ?_)
                                      all_goals first
                                        | (refine HL_r rfl rfl rfl rfl (R_loadA (vs := [_, _, _, _]) rfl (known_L (k := 0) rfl) rfl rfl rfl rfl) ?_)
                                        | (refine HL_skip rfl rfl rfl ?_)
                                      all_goals first
                                        | (refine HL_r rfl rfl rfl rfl (R_neArr rfl rfl rfl rfl rfl (by kernel_rfl) rfl rfl rfl rfl) ?_; refine HL_as (as_bool (show _ = false from (congrArg (fun b => !b) ((eqW _ _).trans (decide_eq_true K.bal))))) ?_)
                                        | (refine HL_skip rfl rfl rfl ?_)
                                      all_goals first
                                        | (refine HL_r rfl rfl rfl rfl (R_pickT rfl rfl) ?_)
                                        | (refine HL_r rfl rfl rfl rfl (R_pickF rfl rfl) ?_)
                                      all_goals refine HL_nil ?_
                                      all_goals (
                                        refine HQ_then ?_
                                        refine hK37 _ _ _ _ ?_; clear hK37 K37
                                        refine HC_cond rfl (fun h50 => ?_) (fun h50 => ?_)
                                        · try exact Bool.noConfusion h50
                                          all_goals try simp only [decide_eq_true_eq, decide_eq_false_iff_not, beq_iff_eq, beq_eq_false_iff_ne, bne_iff_ne, bne_eq_false_iff_eq, Bool.not_eq_true', Bool.not_eq_false', ne_eq, Int.not_lt, Int.not_le, ge_iff_le, gt_iff_lt] at h50
                                          all_goals (
                                            refine HC_seq fun K51 hK51 => ?_
                                            refine HC_region ?_
                                            all_goals exfalso; simp_all
                                            all_goals refine HL_nil ?_
                                            all_goals (
                                              refine HQ_then ?_
                                              refine hK51 _ _ _ _ ?_; clear hK51 K51
                                              refine HC_ret ?_
                                              refine HQ_thenR ?_; clear hK36 K36
                                              refine HQ_post rfl rfl (.cons (res_tmp rfl) .nil) (fun w1 hs1 => ?_)
                                              first
                                                | exact ⟨rfl, hs1.keep⟩
                                                | (exfalso; simp_all; done)
                                                | trace_state
                                              skip)
                                            skip)
                                        · try exact Bool.noConfusion h50
                                          all_goals try simp only [decide_eq_true_eq, decide_eq_false_iff_not, beq_iff_eq, beq_eq_false_iff_ne, bne_iff_ne, bne_eq_false_iff_eq, Bool.not_eq_true', Bool.not_eq_false', ne_eq, Int.not_lt, Int.not_le, ge_iff_le, gt_iff_lt] at h50
                                          all_goals (
                                            refine HC_skip ?_
                                            refine HQ_then ?_
                                            refine hK36 _ _ _ _ ?_; clear hK36 K36
                                            refine HC_seq fun K52 hK52 => ?_
                                            refine HC_region ?_
                                            all_goals refine HL_r rfl rfl rfl rfl (R_assign rfl) ?_
                                            all_goals refine HL_nil ?_
                                            all_goals (
                                              refine HQ_then ?_
                                              refine hK52 _ _ _ _ ?_; clear hK52 K52
                                              refine HC_seq fun K53 hK53 => ?_
                                              refine HC_seq fun K54 hK54 => ?_
                                              refine HC_region ?_
                                              all_goals refine HL_r rfl rfl rfl rfl (R_assign rfl) ?_
                                              all_goals refine HL_nil ?_
                                              all_goals (
                                                refine HQ_then ?_
                                                refine hK54 _ _ _ _ ?_; clear hK54 K54
                                                refine HC_block ?_
                                                have hlen : key.length = 32 := by omega
                                                refine HC_loop (σ := Nat) (fun i => i ≤ 31) (fun i => [(4, strV key), (11, .bool true), (15, ptV r2 0), (16, .bool is), (17, ptV r3 0), (18, .bool as_), (20, .bool (!lowB key i)), (21, .int .i64 (i : Int))]) (fun _ => (r3, .cells (findL x.s a).cells.toArray 55 (0, 0)) :: (r2, .cells (findL s a).cells.toArray 55 (0, 0)) :: (r1, .cells x.s.cells.toArray 24 (0, 0)) :: (rs, _) :: x.L) (fun _ _ _ => True) (fun i => 31 - i) 0 (by omega) (.cons rfl (.cons rfl (.cons rfl (.cons rfl (.cons rfl (.cons rfl (.cons rfl (.cons rfl .nil)))))))) (List.Sublist.refl _) (fun _ _ h => h) ?_
                                                intro i hi1
                                                refine HC_seq fun K55 hK55 => ?_
                                                refine HC_seq fun K56 hK56 => ?_
                                                refine HC_region ?_
                                                all_goals refine HL_r rfl rfl rfl rfl (R_move rfl) ?_
                                                all_goals refine HL_r rfl rfl rfl rfl (R_pure rfl rfl rfl) ?_
                                                all_goals refine HL_nil ?_
                                                all_goals (
                                                  refine HQ_then ?_
                                                  refine hK56 _ _ _ _ ?_; clear hK56 K56
                                                  refine HC_cond rfl (fun h57 => ?_) (fun h57 => ?_)
                                                  · try exact Bool.noConfusion h57
                                                    all_goals try simp only [decide_eq_true_eq, decide_eq_false_iff_not, beq_iff_eq, beq_eq_false_iff_ne, bne_iff_ne, bne_eq_false_iff_eq, Bool.not_eq_true', Bool.not_eq_false', ne_eq, Int.not_lt, Int.not_le, ge_iff_le, gt_iff_lt] at h57
                                                    all_goals (
                                                      refine HC_skip ?_
                                                      refine HQ_then ?_
                                                      refine hK55 _ _ _ _ ?_; clear hK55 K55
                                                      refine HC_seq fun K58 hK58 => ?_
                                                      refine HC_block ?_
                                                      refine HC_region ?_
                                                      all_goals refine HL_r rfl rfl rfl rfl (R_move rfl) ?_
                                                      all_goals refine HL_r rfl rfl rfl rfl (R_move rfl) ?_
                                                      all_goals (refine HL_case 106 rfl (fun hb59 => ?_) (fun hb59 => ?_) <;> (try simp only [decide_eq_true_eq, decide_eq_false_iff_not, beq_iff_eq, beq_eq_false_iff_ne, bne_iff_ne, bne_eq_false_iff_eq, Bool.not_eq_true', Bool.not_eq_false', ne_eq, Int.not_lt, Int.not_le, ge_iff_le, gt_iff_lt] at hb59) <;> first | (refine HL_r rfl rfl rfl rfl (R_move rfl) ?_) | (refine HL_skip rfl rfl rfl ?_))
                                                      all_goals first
                                                        | (refine HL_r rfl rfl rfl rfl (R_move rfl) ?_)
                                                        | (refine HL_skip rfl rfl rfl ?_)
                                                      all_goals first
                                                        | (refine HL_r rfl rfl rfl rfl (R_indexBs (j := i) (a := key) rfl rfl rfl rfl (by omega) rfl) ?_)
                                                        | (refine HL_skip rfl rfl rfl ?_)
                                                      all_goals first
                                                        | (refine HL_r rfl rfl rfl rfl (R_pure rfl rfl rfl) ?_; refine HL_as (as_bool (show _ = !decide ((key.getD i 0).toNat = 0) from congrArg (fun b => !b) (nz _))) ?_)
                                                        | (refine HL_skip rfl rfl rfl ?_)
                                                      all_goals first
                                                        | (refine HL_r rfl rfl rfl rfl (R_pickT rfl rfl) ?_)
                                                        | (refine HL_r rfl rfl rfl rfl (R_pickF rfl rfl) ?_)
                                                      all_goals refine HL_r rfl rfl rfl rfl (R_assign rfl) ?_
                                                      all_goals refine HL_nil ?_
                                                      all_goals (
                                                        refine HQ_blockN ?_
                                                        refine HQ_then ?_
                                                        refine hK58 _ _ _ _ ?_; clear hK58 K58
                                                        refine HC_region ?_
                                                        all_goals refine HL_r rfl rfl rfl rfl (R_move rfl) ?_
                                                        all_goals (refine HL_r rfl rfl rfl rfl (R_pure rfl rfl rfl) ?_; refine HL_wrap_i64 (by omega) (by omega) ?_)
                                                        all_goals refine HL_r rfl rfl rfl rfl (R_assign rfl) ?_
                                                        all_goals refine HL_nil ?_
                                                        all_goals (
                                                          refine HQ_then ?_
                                                          exact HQ_again (i + 1) (by omega) (by omega) (.cons rfl (.cons rfl (.cons rfl (.cons rfl (.cons rfl (.cons rfl (.cons (by first | rfl | (show some (Value.bool _) = some (Value.bool _); simp_all [lowB]; done) | trace_state) (.cons rfl .nil)))))))) (List.Sublist.refl _) (fun _ _ h => h)
                                                          skip)
                                                        skip)
                                                      skip)
                                                  · try exact Bool.noConfusion h57
                                                    all_goals try simp only [decide_eq_true_eq, decide_eq_false_iff_not, beq_iff_eq, beq_eq_false_iff_ne, bne_iff_ne, bne_eq_false_iff_eq, Bool.not_eq_true', Bool.not_eq_false', ne_eq, Int.not_lt, Int.not_le, ge_iff_le, gt_iff_lt] at h57
                                                    all_goals (
                                                      refine HC_exit ?_
                                                      refine HQ_thenE ?_; clear hK55 K55
                                                      refine HQ_thenE ?_
                                                      refine HQ_blockE ?_
                                                      refine HQ_then ?_
                                                      refine hK53 _ _ _ _ ?_; clear hK53 K53
                                                      refine HC_seq fun K63 hK63 => ?_
                                                      have hlen : key.length = 32 := by omega
                                                      obtain rfl : i = 31 := by omega
                                                      obtain ⟨n31, hn31⟩ : ∃ n : Int, n = ((key.getD 31 0).toNat : Int) := ⟨_, rfl⟩
                                                      refine HC_draw 20 (by kernel_rfl) (by kernel_rfl) ?_
                                                      all_goals refine HD_r rfl rfl rfl (R_move rfl) ?_
                                                      all_goals refine HD_r rfl rfl rfl (R_move rfl) ?_
                                                      all_goals (refine HD_r rfl rfl rfl (R_move rfl) ?_)
                                                      all_goals (refine HD_r rfl rfl rfl (R_pure rfl rfl rfl) ?_)
                                                      all_goals (refine HD_r rfl rfl rfl (R_move rfl) ?_)
                                                      all_goals (refine HD_case 116 rfl (fun hb67 => ?_) (fun hb67 => ?_) <;> (try simp only [decide_eq_true_eq, decide_eq_false_iff_not, beq_iff_eq, beq_eq_false_iff_ne, bne_iff_ne, bne_eq_false_iff_eq, Bool.not_eq_true', Bool.not_eq_false', ne_eq, Int.not_lt, Int.not_le, ge_iff_le, gt_iff_lt] at hb67) <;> first | (refine HD_r rfl rfl rfl (R_move rfl) ?_) | (refine HD_skip rfl rfl rfl ?_))
                                                      all_goals first
                                                        | (refine HD_r rfl rfl rfl (R_indexBs (j := 31) (a := key) rfl rfl rfl rfl (by omega) hn31.symm) ?_)
                                                        | (refine HD_skip rfl rfl rfl ?_)
                                                      all_goals first
                                                        | (refine HD_r rfl rfl rfl (R_pure rfl rfl rfl) ?_)
                                                        | (refine HD_skip rfl rfl rfl ?_)
                                                      all_goals first
                                                        | (refine HD_r rfl rfl rfl (R_pickT rfl rfl) ?_)
                                                        | (refine HD_r rfl rfl rfl (R_pickF rfl rfl) ?_)
                                                      all_goals (refine HD_r rfl rfl rfl (R_move rfl) ?_)
                                                      all_goals first
                                                        | (refine HD_r rfl rfl rfl (R_loadArr (xs := (findL s a).cells) (n := 8) rfl (known_L (k := 1) rfl) rfl rfl rfl) ?_)
                                                        | (refine HD_case 121 rfl (fun hb72 => ?_) (fun hb72 => ?_) <;> (try simp only [decide_eq_true_eq, decide_eq_false_iff_not, beq_iff_eq, beq_eq_false_iff_ne, bne_iff_ne, bne_eq_false_iff_eq, Bool.not_eq_true', Bool.not_eq_false', ne_eq, Int.not_lt, Int.not_le, ge_iff_le, gt_iff_lt] at hb72) <;> first | (refine HD_r rfl rfl rfl (R_loadArr (xs := (findL s a).cells) (n := 8) rfl (known_L (k := 1) rfl) rfl rfl rfl) ?_) | (refine HD_skip rfl rfl rfl ?_))
                                                      all_goals first
                                                        | (refine HD_r rfl rfl rfl (R_move rfl) ?_)
                                                        | (refine HD_skip rfl rfl rfl ?_)
                                                      all_goals first
                                                        | (refine HD_callR rfl rfl rfl (enters_of Tryz.func42 (by kernel_rfl) rfl) (S_Slot (find_in hs a) key) (fun q hq => Or.inr hq) ?_)
                                                        | (refine HD_skip rfl rfl rfl ?_)
                                                      all_goals first
                                                        | (refine HD_r rfl rfl rfl (R_loadArr (xs := (findL x.s a).cells) (n := 8) rfl (known_L (k := 0) rfl) rfl rfl rfl) ?_)
                                                        | (refine HD_skip rfl rfl rfl ?_)
                                                      all_goals first
                                                        | (refine HD_r rfl rfl rfl (R_move rfl) ?_)
                                                        | (refine HD_skip rfl rfl rfl ?_)
                                                      all_goals first
                                                        | (refine HD_callR rfl rfl rfl (enters_of Tryz.func42 (by kernel_rfl) rfl) (S_Slot (find_in x.ok a) key) (fun q hq => (List.mem_append.1 hq).elim (fun h => Or.inl (List.mem_cons_of_mem _ (List.mem_cons_of_mem _ (List.mem_cons_of_mem _ (List.mem_cons_of_mem _ h))))) (fun hq => Or.inr hq)) ?_)
                                                        | (refine HD_skip rfl rfl rfl ?_)
                                                      all_goals first
                                                        | (refine HD_r rfl rfl rfl (R_strEq (a := slotE (findL s a).er key) (b := slotE (findL x.s a).er key) rfl rfl) ?_; refine HD_as (as_bool (decide_eq_true (K.slot (fun h0 ht => (by obtain ⟨t1, t2, t3, t4⟩ := tabled_mine ht; first | (simp_all; done) | omega))))) ?_)
                                                        | (refine HD_skip rfl rfl rfl ?_)
                                                      all_goals first
                                                        | (refine HD_r rfl rfl rfl (R_pickT rfl rfl) ?_)
                                                        | (refine HD_r rfl rfl rfl (R_pickF rfl rfl) ?_)
                                                      all_goals (refine HD_r rfl rfl rfl (R_pickT rfl rfl) ?_)
                                                      all_goals refine HD_r rfl rfl rfl (R_assign rfl) ?_
                                                      all_goals refine HD_end ?_
                                                      all_goals refine HL_nil ?_
                                                      all_goals (
                                                        refine HQ_then ?_
                                                        refine hK63 _ _ _ _ ?_; clear hK63 K63
                                                        refine HC_ret ?_
                                                        refine HQ_post rfl rfl (.cons (res_tmp rfl) .nil) (fun w1 hs1 => ?_)
                                                        first
                                                          | exact ⟨rfl, hs1.keep⟩
                                                          | (exfalso; simp_all; done)
                                                          | trace_state
                                                        skip)
                                                      skip)
                                                  skip)
                                                skip)
                                              skip)
                                            skip)
                                        skip)
                                      skip)
                                  skip)
                                skip)
                              skip)
                            skip)
                        skip)
                      skip)
                    skip)
                skip)
              skip)
            skip)
        skip)
      skip)
    skip)
end Go.Proofs.YtnkmbkndpoghdaaGreat
