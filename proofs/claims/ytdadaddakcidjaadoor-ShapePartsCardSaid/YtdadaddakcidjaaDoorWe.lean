import Derived.Test.YtdadaddakcidjaaDoorWd
import Derived.Laws.Externs
import Derived.Shelf.Spec.BitsCarry
namespace Go.Proofs.YtdadaddakcidjaaDoor
set_option linter.all false
open Go.SL Go.RowKit Go.Shelf
theorem car_sub : Car Tryd.prog 95 subF subG := by
  refine ⟨fun x y c w hc => ?_, fun x y c => Nat.mod_lt _ (by decide), fun x y c hx hy hc => ?_⟩
  · show (callFunc _ #[.int .u64 (x : Int), .int .u64 (y : Int), .int .u64 (c : Int)]).run _ _ = _
    rw [run_callFunc_extern Tryd.func95 (by kernel_rfl) (by kernel_rfl) (by kernel_rfl) (e := sub64Entry) (by kernel_rfl), run_sub64 x y c hc]
    rfl
  · unfold subG; split <;> omega
set_option maxRecDepth 10000 in
theorem P_word_Sub {a b : List Nat} (ha : WOk a) (hb : WOk b) : Pure Tryd.prog 85 [wV a, wV b].toArray (resW (subR a b)) := by
  refine pure_of_HC Tryd.func85 rfl rfl fun w => ?_
  refine HC_seq fun K1 hK1 => ?_
  refine HC_region ?_
  all_goals refine HL_box (cs := (a.map uV).toArray) rfl rfl rfl rfl fun r1 => ?_
  all_goals refine HL_box (cs := (b.map uV).toArray) rfl rfl rfl rfl fun r2 => ?_
  all_goals refine HL_alloc (cs := (zW.map uV).toArray) rfl rfl rfl rfl fun r3 => ?_
  all_goals refine HL_r rfl rfl rfl rfl (R_assign rfl) ?_
  all_goals refine HL_nil ?_
  all_goals (
    refine HQ_then ?_
    refine hK1 _ _ _ _ ?_; clear hK1 K1
    refine HC_seq fun K2 hK2 => ?_
    refine HC_region ?_
    all_goals refine HL_r rfl rfl rfl rfl (R_loadArr (xs := a.map uV) (n := 4) rfl (known_L (k := 2) rfl) rfl rfl (by rw [List.length_map, ha.1])) ?_
    all_goals refine HL_r rfl rfl rfl rfl (R_loadArr (xs := b.map uV) (n := 4) rfl (known_L (k := 1) rfl) rfl rfl (by rw [List.length_map, hb.1])) ?_
    all_goals refine HL_callP rfl rfl rfl (enters_of Tryd.func94 (by kernel_rfl) rfl) (P_carry car_sub ha hb) ?_
    all_goals refine HL_r rfl rfl rfl rfl (R_extract rfl rfl) ?_
    all_goals refine HL_r rfl rfl rfl rfl (R_extract rfl rfl) ?_
    all_goals refine HL_storeArr (k := 0) (n := 4) (ys := (subR a b).1.map uV) rfl rfl rfl rfl rfl (by rw [List.length_map]; exact crR_len) rfl (mapU_one _) rfl ?_
    all_goals refine HL_r rfl rfl rfl rfl (R_assign rfl) ?_
    all_goals refine HL_nil ?_
    all_goals (
      refine HQ_then ?_
      refine hK2 _ _ _ _ ?_; clear hK2 K2
      refine HC_ret ?_
      refine HQ_post rfl rfl (.cons (res_cellA (vs := (subR a b).1.map uV) rfl (known_L (k := 0) rfl) rfl (by rw [List.length_map, show (subR a b).1.length = 4 from crR_len]; rfl)) (.cons (res_tmp rfl) .nil)) (fun w1 hs1 => ?_)
      exact ⟨rfl, hs1.keep⟩
      skip)
    skip)
end Go.Proofs.YtdadaddakcidjaaDoor
