import Derived.Test.YtckoepmdmhdepaaGreatDoorRows
import Derived.Test.YtckoepmdmhdepaaGreatDoorCards
import Derived.Test.YtckoepmdmhdepaaGreatDoorTie
import Derived.LaidMore
import Derived.Lay
import Derived.Stop.Joined
import Derived.SevenTiedAt
import Derived.Test.YtckoepmdmhdepaaGreatDoorZtSpans
namespace Go.Proofs.YtckoepmdmhdepaaGreatDoor
set_option linter.all false
open Go.SL Go.ChangeShapes Go.WideShapes Go.ChangeAt Go.RowKit
open Go.ChangeMaps (open_string shut_string)
set_option maxRecDepth 100000 in
theorem liftedTopSpans (os : Os) (started : os.Started) (H : Type) (enc : TypeId × Value → H) :
    ReturnsInHanded {} Tryz.checked os 3 .any (fun w args => (Rows.topSpansSpec.pre enc Tryz.prog Tryz.f3 Rows.topSpansRow.domain false w args ∧ laidMetH Tryz.prog Rows.topSpansRow.laid w) ∧ sizedMet enc Tryz.prog Tryz.f3 (OpenSpec.ofChange Rows.topSpansSpec) false w args)
      (Rows.topSpansSpec.post enc Tryz.prog Tryz.f3 false true false false) := by
  refine returnsInHanded_of_change_and (C := Tryz.checked) (X := fun w _ => laidMetH Tryz.prog Rows.topSpansRow.laid w) (fun _ _ _ hh h => h.of_heap hh) (by kernel_rfl) started (by kernel_rfl) Tryz.func3
    (ChangeSpec.witness_shaped (enc := enc) (C := Tryz.checked) (os := os) (X := fun w _ => laidMetH Tryz.prog Rows.topSpansRow.laid w) false (laidH Tryz.prog os Rows.topSpansRow.laid 417 156 0) #[.agg #[.int .u64 0, .int .u64 0, .string ⟨#[]⟩, .string ⟨#[]⟩, .slice none 0 0], .string ⟨#[]⟩, .int .u64 0] 8 (laidH_os _ _ _ _ _ _)
      (World.shaped_of_ZipB (by kernel_rfl) (by kernel_rfl)) (by kernel_rfl) (by kernel_rfl) (by kernel_rfl)
      (laidMetH_laidH _ (by kernel_rfl) (by kernel_rfl) (by kernel_rfl))) ?_
  intro W base args ds gs before hval0 hW hcnd _ hL _
  have hval : ∀ (j : Nat) t v, Tryz.f3.params[j]? = some t → args[j]? = some v → Value.okWide Tryz.prog W .any base t v := hval0
  have hW2 := hW
  have hlt := hW.lt
  obtain ⟨p, q, hA0, hV, rfl, hfz, hnd⟩ := hW
  have hA : DataW.TrodAll enc Tryz.prog W 0 (fun _ => true) true Tryz.f3.params.toList args.toList ds p := hA0
  rw [Tryz.params3] at hA hval
  obtain ⟨v0, vs0, d0, ds0, p0, q0, hargs, rfl, rfl, h0, r0⟩ := trodAll_cons hA
  obtain ⟨v1, vs1, d1, ds1, p1, q1, rfl, rfl, rfl, h1, r1⟩ := trodAll_cons r0
  obtain ⟨v2, vs2, d2, ds2, p2, q2, rfl, rfl, rfl, h2, r2⟩ := trodAll_cons r1
  obtain ⟨rfl, rfl, rfl⟩ := trodAll_nil r2
  obtain rfl : args = #[v0, v1, v2] := by cases args; simp_all
  obtain ⟨rfl, rfl⟩ := trodVars_none hV
  have k0 := h0
  obtain ⟨a0, rfl, w0⟩ := open_span ⟨Tryz.underlying22, (by kernel_rfl), Tryz.underlying3, (by kernel_rfl), Tryz.underlying9, (by kernel_rfl), Tryz.underlying29, (by kernel_rfl), Tryz.underlying22, (by kernel_rfl), Tryz.underlying4, (by kernel_rfl), Tryz.underlying37, (by kernel_rfl), Tryz.underlying175, (by kernel_rfl), rfl, rfl, Tryz.underlying30, (by kernel_rfl), Tryz.underlying177, (by kernel_rfl), rfl, rfl, rfl, rfl, rfl, rfl, Tryz.underlying31, (by kernel_rfl), Tryz.underlying33, (by kernel_rfl), rfl, rfl, rfl, rfl, rfl, rfl, rfl, rfl, rfl, rfl, rfl, rfl, rfl, rfl, rfl, rfl, rfl, rfl, Tryz.underlying45, (by kernel_rfl), Tryz.underlying47, (by kernel_rfl), rfl, rfl, Tryz.underlying23, (by kernel_rfl), Tryz.underlying25, (by kernel_rfl), rfl, rfl, rfl, rfl, rfl⟩ (hval 0 25 v0 rfl rfl) h0
  obtain ⟨a1, rfl, rfl, rfl, w1⟩ := open_string Tryz.underlying9 (hval 1 9 v1 rfl rfl) h1
  obtain ⟨a1, rfl⟩ : ∃ s, a1 = bs s := ⟨_, (bs_data a1).symm⟩
  obtain ⟨a2, rfl, rfl, rfl, w2⟩ := open_u64 Tryz.underlying22 (hval 2 22 v2 rfl rfl) h2
  clear hA0 hval0
  refine ((S_TopSpans w0).run W (has_allB W)).mono fun e W2 ⟨he, hkeep⟩ => ?_
  have l0 : ∀ x ∈ p0, x.block < W.heap.size := fun x hx => hlt x (by simp [hx])
  subst he
  exact ⟨_, rfl, _, _, _, [], _, [], hW2, trodAll_mk1 (shut_bool Tryz.underlying4 _), (trodAll_cons_mk (Below.trod (show Go.laidOutB Tryz.prog = true by kernel_rfl) (by kernel_rfl) (of_decide_eq_true (by kernel_rfl)) k0 hkeep.below l0) (trodAll_cons_mk (shut_string Tryz.underlying9 w1) (trodAll_cons_mk (shut_u64 Tryz.underlying22 w2) trodAll_mk0))), rfl, hkeep.below.frame _, fun h => by cases h⟩
end Go.Proofs.YtckoepmdmhdepaaGreatDoor
