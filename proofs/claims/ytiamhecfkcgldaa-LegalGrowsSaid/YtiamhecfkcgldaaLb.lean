import Derived.Test.YtiamhecfkcgldaaLa
namespace Go.Proofs.Ytiamhecfkcgldaa
set_option linter.all false
open Go.SL Go.RowKit Go.Shelf
/-- A pair of numbers as a value. -/
def pairV (a b : Int) : Value := .agg [.int .i64 a, .int .i64 b].toArray
def isPair (v : Value) : Prop := ∃ a b, v = pairV a b
def numsOf : Value → List Int
  | .agg cs => cs.toList.map fun | .int _ n => n | _ => 0
  | _ => []
def pairEq (x y : Value) : Bool := decide (numsOf x = numsOf y)
theorem pairEq_mk (a b c d : Int) : pairEq (pairV a b) (pairV c d) = (a == c && b == d) := by
  unfold pairEq pairV numsOf
  by_cases h1 : a = c <;> by_cases h2 : b = d <;> simp [h1, h2]
theorem keyMsg : KeyL Try.prog 40 isPair pairEq where
  now := ⟨_, rfl, fun a b ⟨a1, a2, ha⟩ ⟨b1, b2, hb⟩ => by subst ha hb; exact .inl rfl⟩
  equal := by
    rintro _ _ w ⟨a, b, rfl⟩ ⟨c, d, rfl⟩
    rw [pairEq_mk]
    show (Op.equalIn (9999 + 1) _ (.agg _) (.agg _)).run _ _ = _
    rw [run_equalIn_struct w 9999 _ _ _ (by kernel_rfl) (by kernel_rfl)]
    simp [go_sem]
    by_cases h1 : a = c <;> by_cases h2 : b = d <;> simp [h1, h2]
  check := by
    rintro _ b w ⟨x, y, rfl⟩
    exact run_checkKey_ints (by kernel_rfl) (by simp) b 9998 w
def tableKV : List (Value × Value) :=
  [(pairV 1 0, pairV 0 5), (pairV 1 1, pairV 0 5), (pairV 1 2, pairV 0 5), (pairV 1 126, pairV 0 5), (pairV 1 4, pairV 5 5), (pairV 2 0, pairV 0 0), (pairV 2 1, pairV 1 1), (pairV 2 2, pairV 2 5),
   (pairV 3 0, pairV 0 5), (pairV 3 1, pairV 3 5), (pairV 4 0, pairV 0 5), (pairV 4 2, pairV 4 5), (pairV 5 0, pairV 0 4), (pairV 5 1, pairV 5 5)]
/-- What a table that was made holds. -/
def TabX : Type := { p : Nat × Array MapEntry // (p.2.toList.map kvOf).Perm tableKV ∧ p.2.toList.map (·.born) = List.range p.2.size }
set_option maxRecDepth 100000 in
theorem E_legal_table : PureE (α := TabX) Try.prog 17 [].toArray (fun x => .map (some x.1.1)) (fun x => [(x.1.1, .map x.1.2 x.1.2.size)]) := by
  refine pureE_of_HC Try.func17 rfl rfl fun w => ?_
  refine HC_seq fun K1 hK1 => ?_
  refine HC_region ?_
  all_goals refine HL_r rfl rfl rfl rfl (R_assign rfl) ?_
  all_goals refine HL_nil ?_
  all_goals (
    refine HQ_then ?_
    refine hK1 _ _ _ _ ?_; clear hK1 K1
    refine HC_seq fun K2 hK2 => ?_
    refine HC_mapLit (t := 37) 1 [(1, 2, .agg [.int .i64 1, .int .i64 0].toArray), (2, 3, .agg [.int .i64 0, .int .i64 5].toArray), (4, 4, .agg [.int .i64 1, .int .i64 1].toArray), (5, 5, .agg [.int .i64 0, .int .i64 5].toArray), (7, 6, .agg [.int .i64 1, .int .i64 2].toArray), (8, 7, .agg [.int .i64 0, .int .i64 5].toArray), (10, 8, .agg [.int .i64 1, .int .i64 126].toArray), (11, 9, .agg [.int .i64 0, .int .i64 5].toArray), (13, 10, .agg [.int .i64 1, .int .i64 4].toArray), (14, 11, .agg [.int .i64 5, .int .i64 5].toArray), (16, 12, .agg [.int .i64 2, .int .i64 0].toArray), (17, 13, .agg [.int .i64 0, .int .i64 0].toArray), (19, 14, .agg [.int .i64 2, .int .i64 1].toArray), (20, 15, .agg [.int .i64 1, .int .i64 1].toArray), (22, 16, .agg [.int .i64 2, .int .i64 2].toArray), (23, 17, .agg [.int .i64 2, .int .i64 5].toArray), (25, 18, .agg [.int .i64 3, .int .i64 0].toArray), (26, 19, .agg [.int .i64 0, .int .i64 5].toArray), (28, 20, .agg [.int .i64 3, .int .i64 1].toArray), (29, 21, .agg [.int .i64 3, .int .i64 5].toArray), (31, 22, .agg [.int .i64 4, .int .i64 0].toArray), (32, 23, .agg [.int .i64 0, .int .i64 5].toArray), (34, 24, .agg [.int .i64 4, .int .i64 2].toArray), (35, 25, .agg [.int .i64 4, .int .i64 5].toArray), (37, 26, .agg [.int .i64 5, .int .i64 0].toArray), (38, 27, .agg [.int .i64 0, .int .i64 4].toArray), (40, 28, .agg [.int .i64 5, .int .i64 1].toArray), (41, 29, .agg [.int .i64 5, .int .i64 5].toArray)] [(3, .agg [.int .i64 1, .int .i64 0].toArray, .agg [.int .i64 0, .int .i64 5].toArray), (6, .agg [.int .i64 1, .int .i64 1].toArray, .agg [.int .i64 0, .int .i64 5].toArray), (9, .agg [.int .i64 1, .int .i64 2].toArray, .agg [.int .i64 0, .int .i64 5].toArray), (12, .agg [.int .i64 1, .int .i64 126].toArray, .agg [.int .i64 0, .int .i64 5].toArray), (15, .agg [.int .i64 1, .int .i64 4].toArray, .agg [.int .i64 5, .int .i64 5].toArray), (18, .agg [.int .i64 2, .int .i64 0].toArray, .agg [.int .i64 0, .int .i64 0].toArray), (21, .agg [.int .i64 2, .int .i64 1].toArray, .agg [.int .i64 1, .int .i64 1].toArray), (24, .agg [.int .i64 2, .int .i64 2].toArray, .agg [.int .i64 2, .int .i64 5].toArray), (27, .agg [.int .i64 3, .int .i64 0].toArray, .agg [.int .i64 0, .int .i64 5].toArray), (30, .agg [.int .i64 3, .int .i64 1].toArray, .agg [.int .i64 3, .int .i64 5].toArray), (33, .agg [.int .i64 4, .int .i64 0].toArray, .agg [.int .i64 0, .int .i64 5].toArray), (36, .agg [.int .i64 4, .int .i64 2].toArray, .agg [.int .i64 4, .int .i64 5].toArray), (39, .agg [.int .i64 5, .int .i64 0].toArray, .agg [.int .i64 0, .int .i64 4].toArray), (42, .agg [.int .i64 5, .int .i64 1].toArray, .agg [.int .i64 5, .int .i64 5].toArray)] [(43, 30), (44, 0)] [] keyMsg rfl (by kernel_rfl) ?hops (by kernel_rfl) rfl (by decide) rfl (fun i v h => by cases h) (by decide) rfl (by simp only [List.forall_mem_cons]; exact ⟨⟨_, _, rfl⟩, ⟨_, _, rfl⟩, ⟨_, _, rfl⟩, ⟨_, _, rfl⟩, ⟨_, _, rfl⟩, ⟨_, _, rfl⟩, ⟨_, _, rfl⟩, ⟨_, _, rfl⟩, ⟨_, _, rfl⟩, ⟨_, _, rfl⟩, ⟨_, _, rfl⟩, ⟨_, _, rfl⟩, ⟨_, _, rfl⟩, ⟨_, _, rfl⟩, by simp⟩) (by decide) ?_
    case hops =>
      intro i o h
      match i, h with
      | 0, h => cases Option.some.inj h; exact MLit.mk
      | 1, h => cases Option.some.inj h; exact MLit.pure (s := 2) (v := .agg [.int .i64 1, .int .i64 0].toArray) (mem_nth (n := 0) rfl) rfl rfl rfl (R_build (r := [_, _]) rfl rfl)
      | 2, h => cases Option.some.inj h; exact MLit.pure (s := 3) (v := .agg [.int .i64 0, .int .i64 5].toArray) (mem_nth (n := 1) rfl) rfl rfl rfl (R_build (r := [_, _]) rfl rfl)
      | 3, h => cases Option.some.inj h; exact MLit.ins (j1 := 1) (j2 := 2) (k := .agg [.int .i64 1, .int .i64 0].toArray) (v := .agg [.int .i64 0, .int .i64 5].toArray) (mem_nth (n := 0) rfl) (mem_nth (n := 0) rfl) (mem_nth (n := 1) rfl) rfl rfl rfl
      | 4, h => cases Option.some.inj h; exact MLit.pure (s := 4) (v := .agg [.int .i64 1, .int .i64 1].toArray) (mem_nth (n := 2) rfl) rfl rfl rfl (R_build (r := [_, _]) rfl rfl)
      | 5, h => cases Option.some.inj h; exact MLit.pure (s := 5) (v := .agg [.int .i64 0, .int .i64 5].toArray) (mem_nth (n := 3) rfl) rfl rfl rfl (R_build (r := [_, _]) rfl rfl)
      | 6, h => cases Option.some.inj h; exact MLit.ins (j1 := 4) (j2 := 5) (k := .agg [.int .i64 1, .int .i64 1].toArray) (v := .agg [.int .i64 0, .int .i64 5].toArray) (mem_nth (n := 1) rfl) (mem_nth (n := 2) rfl) (mem_nth (n := 3) rfl) rfl rfl rfl
      | 7, h => cases Option.some.inj h; exact MLit.pure (s := 6) (v := .agg [.int .i64 1, .int .i64 2].toArray) (mem_nth (n := 4) rfl) rfl rfl rfl (R_build (r := [_, _]) rfl rfl)
      | 8, h => cases Option.some.inj h; exact MLit.pure (s := 7) (v := .agg [.int .i64 0, .int .i64 5].toArray) (mem_nth (n := 5) rfl) rfl rfl rfl (R_build (r := [_, _]) rfl rfl)
      | 9, h => cases Option.some.inj h; exact MLit.ins (j1 := 7) (j2 := 8) (k := .agg [.int .i64 1, .int .i64 2].toArray) (v := .agg [.int .i64 0, .int .i64 5].toArray) (mem_nth (n := 2) rfl) (mem_nth (n := 4) rfl) (mem_nth (n := 5) rfl) rfl rfl rfl
      | 10, h => cases Option.some.inj h; exact MLit.pure (s := 8) (v := .agg [.int .i64 1, .int .i64 126].toArray) (mem_nth (n := 6) rfl) rfl rfl rfl (R_build (r := [_, _]) rfl rfl)
      | 11, h => cases Option.some.inj h; exact MLit.pure (s := 9) (v := .agg [.int .i64 0, .int .i64 5].toArray) (mem_nth (n := 7) rfl) rfl rfl rfl (R_build (r := [_, _]) rfl rfl)
      | 12, h => cases Option.some.inj h; exact MLit.ins (j1 := 10) (j2 := 11) (k := .agg [.int .i64 1, .int .i64 126].toArray) (v := .agg [.int .i64 0, .int .i64 5].toArray) (mem_nth (n := 3) rfl) (mem_nth (n := 6) rfl) (mem_nth (n := 7) rfl) rfl rfl rfl
      | 13, h => cases Option.some.inj h; exact MLit.pure (s := 10) (v := .agg [.int .i64 1, .int .i64 4].toArray) (mem_nth (n := 8) rfl) rfl rfl rfl (R_build (r := [_, _]) rfl rfl)
      | 14, h => cases Option.some.inj h; exact MLit.pure (s := 11) (v := .agg [.int .i64 5, .int .i64 5].toArray) (mem_nth (n := 9) rfl) rfl rfl rfl (R_build (r := [_, _]) rfl rfl)
      | 15, h => cases Option.some.inj h; exact MLit.ins (j1 := 13) (j2 := 14) (k := .agg [.int .i64 1, .int .i64 4].toArray) (v := .agg [.int .i64 5, .int .i64 5].toArray) (mem_nth (n := 4) rfl) (mem_nth (n := 8) rfl) (mem_nth (n := 9) rfl) rfl rfl rfl
      | 16, h => cases Option.some.inj h; exact MLit.pure (s := 12) (v := .agg [.int .i64 2, .int .i64 0].toArray) (mem_nth (n := 10) rfl) rfl rfl rfl (R_build (r := [_, _]) rfl rfl)
      | 17, h => cases Option.some.inj h; exact MLit.pure (s := 13) (v := .agg [.int .i64 0, .int .i64 0].toArray) (mem_nth (n := 11) rfl) rfl rfl rfl (R_build (r := [_, _]) rfl rfl)
      | 18, h => cases Option.some.inj h; exact MLit.ins (j1 := 16) (j2 := 17) (k := .agg [.int .i64 2, .int .i64 0].toArray) (v := .agg [.int .i64 0, .int .i64 0].toArray) (mem_nth (n := 5) rfl) (mem_nth (n := 10) rfl) (mem_nth (n := 11) rfl) rfl rfl rfl
      | 19, h => cases Option.some.inj h; exact MLit.pure (s := 14) (v := .agg [.int .i64 2, .int .i64 1].toArray) (mem_nth (n := 12) rfl) rfl rfl rfl (R_build (r := [_, _]) rfl rfl)
      | 20, h => cases Option.some.inj h; exact MLit.pure (s := 15) (v := .agg [.int .i64 1, .int .i64 1].toArray) (mem_nth (n := 13) rfl) rfl rfl rfl (R_build (r := [_, _]) rfl rfl)
      | 21, h => cases Option.some.inj h; exact MLit.ins (j1 := 19) (j2 := 20) (k := .agg [.int .i64 2, .int .i64 1].toArray) (v := .agg [.int .i64 1, .int .i64 1].toArray) (mem_nth (n := 6) rfl) (mem_nth (n := 12) rfl) (mem_nth (n := 13) rfl) rfl rfl rfl
      | 22, h => cases Option.some.inj h; exact MLit.pure (s := 16) (v := .agg [.int .i64 2, .int .i64 2].toArray) (mem_nth (n := 14) rfl) rfl rfl rfl (R_build (r := [_, _]) rfl rfl)
      | 23, h => cases Option.some.inj h; exact MLit.pure (s := 17) (v := .agg [.int .i64 2, .int .i64 5].toArray) (mem_nth (n := 15) rfl) rfl rfl rfl (R_build (r := [_, _]) rfl rfl)
      | 24, h => cases Option.some.inj h; exact MLit.ins (j1 := 22) (j2 := 23) (k := .agg [.int .i64 2, .int .i64 2].toArray) (v := .agg [.int .i64 2, .int .i64 5].toArray) (mem_nth (n := 7) rfl) (mem_nth (n := 14) rfl) (mem_nth (n := 15) rfl) rfl rfl rfl
      | 25, h => cases Option.some.inj h; exact MLit.pure (s := 18) (v := .agg [.int .i64 3, .int .i64 0].toArray) (mem_nth (n := 16) rfl) rfl rfl rfl (R_build (r := [_, _]) rfl rfl)
      | 26, h => cases Option.some.inj h; exact MLit.pure (s := 19) (v := .agg [.int .i64 0, .int .i64 5].toArray) (mem_nth (n := 17) rfl) rfl rfl rfl (R_build (r := [_, _]) rfl rfl)
      | 27, h => cases Option.some.inj h; exact MLit.ins (j1 := 25) (j2 := 26) (k := .agg [.int .i64 3, .int .i64 0].toArray) (v := .agg [.int .i64 0, .int .i64 5].toArray) (mem_nth (n := 8) rfl) (mem_nth (n := 16) rfl) (mem_nth (n := 17) rfl) rfl rfl rfl
      | 28, h => cases Option.some.inj h; exact MLit.pure (s := 20) (v := .agg [.int .i64 3, .int .i64 1].toArray) (mem_nth (n := 18) rfl) rfl rfl rfl (R_build (r := [_, _]) rfl rfl)
      | 29, h => cases Option.some.inj h; exact MLit.pure (s := 21) (v := .agg [.int .i64 3, .int .i64 5].toArray) (mem_nth (n := 19) rfl) rfl rfl rfl (R_build (r := [_, _]) rfl rfl)
      | 30, h => cases Option.some.inj h; exact MLit.ins (j1 := 28) (j2 := 29) (k := .agg [.int .i64 3, .int .i64 1].toArray) (v := .agg [.int .i64 3, .int .i64 5].toArray) (mem_nth (n := 9) rfl) (mem_nth (n := 18) rfl) (mem_nth (n := 19) rfl) rfl rfl rfl
      | 31, h => cases Option.some.inj h; exact MLit.pure (s := 22) (v := .agg [.int .i64 4, .int .i64 0].toArray) (mem_nth (n := 20) rfl) rfl rfl rfl (R_build (r := [_, _]) rfl rfl)
      | 32, h => cases Option.some.inj h; exact MLit.pure (s := 23) (v := .agg [.int .i64 0, .int .i64 5].toArray) (mem_nth (n := 21) rfl) rfl rfl rfl (R_build (r := [_, _]) rfl rfl)
      | 33, h => cases Option.some.inj h; exact MLit.ins (j1 := 31) (j2 := 32) (k := .agg [.int .i64 4, .int .i64 0].toArray) (v := .agg [.int .i64 0, .int .i64 5].toArray) (mem_nth (n := 10) rfl) (mem_nth (n := 20) rfl) (mem_nth (n := 21) rfl) rfl rfl rfl
      | 34, h => cases Option.some.inj h; exact MLit.pure (s := 24) (v := .agg [.int .i64 4, .int .i64 2].toArray) (mem_nth (n := 22) rfl) rfl rfl rfl (R_build (r := [_, _]) rfl rfl)
      | 35, h => cases Option.some.inj h; exact MLit.pure (s := 25) (v := .agg [.int .i64 4, .int .i64 5].toArray) (mem_nth (n := 23) rfl) rfl rfl rfl (R_build (r := [_, _]) rfl rfl)
      | 36, h => cases Option.some.inj h; exact MLit.ins (j1 := 34) (j2 := 35) (k := .agg [.int .i64 4, .int .i64 2].toArray) (v := .agg [.int .i64 4, .int .i64 5].toArray) (mem_nth (n := 11) rfl) (mem_nth (n := 22) rfl) (mem_nth (n := 23) rfl) rfl rfl rfl
      | 37, h => cases Option.some.inj h; exact MLit.pure (s := 26) (v := .agg [.int .i64 5, .int .i64 0].toArray) (mem_nth (n := 24) rfl) rfl rfl rfl (R_build (r := [_, _]) rfl rfl)
      | 38, h => cases Option.some.inj h; exact MLit.pure (s := 27) (v := .agg [.int .i64 0, .int .i64 4].toArray) (mem_nth (n := 25) rfl) rfl rfl rfl (R_build (r := [_, _]) rfl rfl)
      | 39, h => cases Option.some.inj h; exact MLit.ins (j1 := 37) (j2 := 38) (k := .agg [.int .i64 5, .int .i64 0].toArray) (v := .agg [.int .i64 0, .int .i64 4].toArray) (mem_nth (n := 12) rfl) (mem_nth (n := 24) rfl) (mem_nth (n := 25) rfl) rfl rfl rfl
      | 40, h => cases Option.some.inj h; exact MLit.pure (s := 28) (v := .agg [.int .i64 5, .int .i64 1].toArray) (mem_nth (n := 26) rfl) rfl rfl rfl (R_build (r := [_, _]) rfl rfl)
      | 41, h => cases Option.some.inj h; exact MLit.pure (s := 29) (v := .agg [.int .i64 5, .int .i64 5].toArray) (mem_nth (n := 27) rfl) rfl rfl rfl (R_build (r := [_, _]) rfl rfl)
      | 42, h => cases Option.some.inj h; exact MLit.ins (j1 := 40) (j2 := 41) (k := .agg [.int .i64 5, .int .i64 1].toArray) (v := .agg [.int .i64 5, .int .i64 5].toArray) (mem_nth (n := 13) rfl) (mem_nth (n := 26) rfl) (mem_nth (n := 27) rfl) rfl rfl rfl
      | 43, h => cases Option.some.inj h; exact MLit.mv (s := 30) (x := 1) (mem_nth (n := 0) rfl) rfl rfl (Or.inl rfl) rfl (Or.inl rfl)
      | 44, h => cases Option.some.inj h; exact MLit.mv (s := 0) (x := 30) (mem_nth (n := 1) rfl) rfl rfl (Or.inr rfl) rfl (Or.inr ⟨43, mem_nth (n := 0) rfl, rfl⟩)
      | n + 45, h => simp at h
    intro mr mes hmes hborn
    refine HQ_then ?_
    refine hK2 _ _ _ _ ?_; clear hK2 K2
    refine HC_ret ?_
    refine HQ_post rfl rfl (.cons (res_tmp rfl) .nil) (fun w1 hs1 => ?_)
    exact ⟨⟨(mr, mes), hmes, hborn⟩, rfl, hs1⟩
    skip)
end Go.Proofs.Ytiamhecfkcgldaa
