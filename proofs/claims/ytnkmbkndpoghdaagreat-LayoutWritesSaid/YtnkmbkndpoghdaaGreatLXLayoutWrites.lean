import Derived.Test.YtnkmbkndpoghdaaGreatRows
import Derived.Test.YtnkmbkndpoghdaaGreatLX
import Derived.ProofKit
import Derived.OpenShut
import Derived.ShutString
import Derived.ChangeOld
import Derived.Below
namespace Go.Proofs.YtnkmbkndpoghdaaGreat
set_option linter.all false
open Go.SL Go.ChangeShapes Go.WideShapes Go.ChangeAt Go.RowKit
open Go.ChangeMaps (open_string shut_string)
set_option maxRecDepth 100000 in
theorem liftedLayoutWrites (os : Os) (started : os.Started) (H : Type) (enc : TypeId × Value → H) :
    ReturnsInHanded {} Tryz.checked os 3 .any (Rows.layoutWritesSpec.pre6 enc Tryz.prog Tryz.f3 Rows.layoutWritesRow.domain false) (Rows.layoutWritesSpec.post enc Tryz.prog Tryz.f3 false true false false) := by
  refine returnsInHanded_of_change (C := Tryz.checked) (by kernel_rfl) started (by kernel_rfl) Tryz.func3
    (ChangeSpec.witness6 (enc := enc) (C := Tryz.checked) false ⟨#[], #[.int .i64 0, .agg #[.slice none 0 0], .agg #[.int .u64 0, .int .u64 0, .int .u64 0, .int .u64 0, .int .u64 0, .int .u64 0, .int .u64 0, .int .u64 0, .int .u64 0, .int .u64 0, .int .u64 0, .int .u64 0, .int .u64 0, .int .u64 0, .int .u64 0, .int .u64 0, .int .u64 0]], []⟩ 8 (by kernel_rfl) (by kernel_rfl) (by kernel_rfl) (by kernel_rfl)) ?_
  intro W base args ds gs before hval0 hW hcnd _
  have hval : ∀ (j : Nat) t v, Tryz.f3.params[j]? = some t → args[j]? = some v → Value.okWide Tryz.prog W .any base t v := hval0
  have hW2 := hW
  have hlt := hW.lt
  obtain ⟨p, q, hA0, hV, rfl, hfz, hnd⟩ := hW
  have hA : DataW.TrodAll enc Tryz.prog W 0 (fun _ => true) true Tryz.f3.params.toList args.toList ds p := hA0
  rw [Tryz.params3] at hA hval
  obtain ⟨v0, vs0, d0, ds0, p0, q0, hargs, rfl, rfl, h0, r0⟩ := trodAll_cons hA
  obtain ⟨v1, vs1, d1, ds1, p1, q1, rfl, rfl, rfl, h1, r1⟩ := trodAll_cons r0
  obtain ⟨v2, vs2, d2, ds2, p2, q2, rfl, rfl, rfl, h2, r2⟩ := trodAll_cons r1
  obtain ⟨rfl, rfl, rfl⟩ := trodAll_nil r2
  obtain rfl : args = #[v0, v1, v2] := by cases args; simp_all
  obtain ⟨rfl, rfl⟩ := trodVars_none hV
  obtain ⟨a0, rfl, rfl, rfl, w0⟩ := open_int Tryz.underlying3 (hval 0 3 v0 rfl rfl) h0
  have k1 := h1
  obtain ⟨a1, rfl, w1⟩ := open_st Tryz.underlying93 (by kernel_rfl) rfl rfl Tryz.underlying9 (by kernel_rfl) Tryz.underlying55 (by kernel_rfl) rfl rfl rfl rfl rfl Tryz.underlying25 (by kernel_rfl) Tryz.underlying27 (by kernel_rfl) Tryz.underlying25 (by kernel_rfl) Tryz.underlying53 (by kernel_rfl) Tryz.underlying24 (by kernel_rfl) rfl Tryz.underlying22 (by kernel_rfl) (hval 1 24 v1 rfl rfl) h1
  have k2 := h2
  obtain ⟨a2, rfl, w2⟩ := open_rec Tryz.underlying29 (by kernel_rfl) rfl rfl rfl rfl rfl rfl rfl rfl Tryz.underlying25 (by kernel_rfl) Tryz.underlying27 (by kernel_rfl) Tryz.underlying25 (by kernel_rfl) (hval 2 29 v2 rfl rfl) h2
  clear hA0 hval0
  refine ((L_Writes a0 w1 w2).run W (has_allB W)).mono fun e W2 ⟨he, hkeep⟩ => ?_
  have l1 : ∀ x ∈ p1, x.block < W.heap.size := fun x hx => hlt x (by simp [hx])
  have l2 : ∀ x ∈ p2, x.block < W.heap.size := fun x hx => hlt x (by simp [hx])
  subst he
  exact ⟨_, rfl, _, _, _, [], _, [], hW2, trodAll_mk1 (shut_bool Tryz.underlying4 _), (trodAll_cons_mk (shut_int Tryz.underlying3 w0) (trodAll_cons_mk (Below.trod (show Go.laidOutB Tryz.prog = true by kernel_rfl) (by kernel_rfl) (of_decide_eq_true (by kernel_rfl)) k1 hkeep.below l1) (trodAll_cons_mk (Below.trod (show Go.laidOutB Tryz.prog = true by kernel_rfl) (by kernel_rfl) (of_decide_eq_true (by kernel_rfl)) k2 hkeep.below l2) trodAll_mk0))), rfl, hkeep.below.frame _, fun h => by cases h⟩
/-- The statement. -/
theorem provedLayoutWrites : Rows.LayoutWritesSaid :=
  OpenClaim.holds_of_wide 3 Tryz.f3 rfl rfl rfl rfl rfl rfl rfl ⟨rfl, rfl, rfl, rfl, rfl⟩ rfl rfl rfl rfl rfl (by kernel_rfl) Tryz.func3 (by kernel_rfl)
    (of_decide_eq_true (by kernel_rfl)) (by unfold Func.isWrapper; first | (rw [if_pos (by decide +kernel)]; kernel_rfl) | (rw [if_neg (by decide +kernel)]; exact ⟨rfl, rfl⟩))
    (fun os started H enc _ => liftedLayoutWrites os started H enc)
end Go.Proofs.YtnkmbkndpoghdaaGreat
