import Derived.Test.YtckoepmdmhdepaaGreatDoorRows
import Derived.Test.YtckoepmdmhdepaaGreatDoorCards
import Derived.Test.YtckoepmdmhdepaaGreatDoorTie
import Derived.LaidMore
import Derived.Lay
import Derived.Stop.Joined
import Derived.SevenTiedAt
import Derived.Test.YtckoepmdmhdepaaGreatDoorZtStable
namespace Go.Proofs.YtckoepmdmhdepaaGreatDoor
set_option linter.all false
open Go.SL Go.ChangeShapes Go.WideShapes Go.ChangeAt Go.RowKit
open Go.ChangeMaps (open_string shut_string)
set_option maxRecDepth 100000 in
theorem liftedTopStable (os : Os) (started : os.Started) (H : Type) (enc : TypeId × Value → H) :
    ReturnsInHanded {} Tryz.checked os 4 .any (fun w args => (Rows.topStableSpec.pre enc Tryz.prog Tryz.f4 Rows.topStableRow.domain false w args ∧ laidMetH Tryz.prog Rows.topStableRow.laid w) ∧ sizedMet enc Tryz.prog Tryz.f4 (OpenSpec.ofChange Rows.topStableSpec) false w args)
      (Rows.topStableSpec.post enc Tryz.prog Tryz.f4 false true false false) := by
  refine returnsInHanded_of_change_and (C := Tryz.checked) (X := fun w _ => laidMetH Tryz.prog Rows.topStableRow.laid w) (fun _ _ _ hh h => h.of_heap hh) (by kernel_rfl) started (by kernel_rfl) Tryz.func4
    (ChangeSpec.witness_shaped (enc := enc) (C := Tryz.checked) (os := os) (X := fun w _ => laidMetH Tryz.prog Rows.topStableRow.laid w) false (laidH Tryz.prog os Rows.topStableRow.laid 417 156 0) #[.agg #[.slice none 0 0], .int .u64 0, .int .u64 0, .int .i64 0, .string ⟨#[]⟩, .int .u64 0] 8 (laidH_os _ _ _ _ _ _)
      (World.shaped_of_ZipB (by kernel_rfl) (by kernel_rfl)) (by kernel_rfl) (by kernel_rfl) (by kernel_rfl)
      (laidMetH_laidH _ (by kernel_rfl) (by kernel_rfl) (by kernel_rfl))) ?_
  intro W base args ds gs before hval0 hW hcnd _ hL _
  have hval : ∀ (j : Nat) t v, Tryz.f4.params[j]? = some t → args[j]? = some v → Value.okWide Tryz.prog W .any base t v := hval0
  have hW2 := hW
  have hlt := hW.lt
  obtain ⟨p, q, hA0, hV, rfl, hfz, hnd⟩ := hW
  have hA : DataW.TrodAll enc Tryz.prog W 0 (fun _ => true) true Tryz.f4.params.toList args.toList ds p := hA0
  rw [Tryz.params4] at hA hval
  obtain ⟨v0, vs0, d0, ds0, p0, q0, hargs, rfl, rfl, h0, r0⟩ := trodAll_cons hA
  obtain ⟨v1, vs1, d1, ds1, p1, q1, rfl, rfl, rfl, h1, r1⟩ := trodAll_cons r0
  obtain ⟨v2, vs2, d2, ds2, p2, q2, rfl, rfl, rfl, h2, r2⟩ := trodAll_cons r1
  obtain ⟨v3, vs3, d3, ds3, p3, q3, rfl, rfl, rfl, h3, r3⟩ := trodAll_cons r2
  obtain ⟨v4, vs4, d4, ds4, p4, q4, rfl, rfl, rfl, h4, r4⟩ := trodAll_cons r3
  obtain ⟨v5, vs5, d5, ds5, p5, q5, rfl, rfl, rfl, h5, r5⟩ := trodAll_cons r4
  obtain ⟨rfl, rfl, rfl⟩ := trodAll_nil r5
  obtain rfl : args = #[v0, v1, v2, v3, v4, v5] := by cases args; simp_all
  obtain ⟨rfl, rfl⟩ := trodVars_none hV
  have k0 := h0
  obtain ⟨a0, rfl, w0⟩ := open_sch Tryz.underlying22 (by kernel_rfl) Tryz.underlying57 (by kernel_rfl) Tryz.underlying59 (by kernel_rfl) rfl (hval 0 59 v0 rfl rfl) h0
  obtain ⟨a1, rfl, rfl, rfl, w1⟩ := open_u64 Tryz.underlying22 (hval 1 22 v1 rfl rfl) h1
  obtain ⟨a2, rfl, rfl, rfl, w2⟩ := open_u64 Tryz.underlying22 (hval 2 22 v2 rfl rfl) h2
  obtain ⟨a3, rfl, rfl, rfl, w3⟩ := open_int Tryz.underlying3 (hval 3 3 v3 rfl rfl) h3
  obtain ⟨a4, rfl, rfl, rfl, w4⟩ := open_string Tryz.underlying9 (hval 4 9 v4 rfl rfl) h4
  obtain ⟨a4, rfl⟩ : ∃ s, a4 = bs s := ⟨_, (bs_data a4).symm⟩
  obtain ⟨a5, rfl, rfl, rfl, w5⟩ := open_u64 Tryz.underlying22 (hval 5 22 v5 rfl rfl) h5
  obtain ⟨go, hgm, hgo⟩ := hold_laid hL (d := Rows.laid_errors_errorType) (List.mem_cons_of_mem _ List.mem_cons_self) rfl rfl
  clear hA0 hval0
  refine ((S_TopStable (t := a1) (u := a2) (n := a3) (ch := a5) ⟨hgo, hgm, w0.2, w0.1, w5⟩).run W (has_allB W)).mono fun e W2 ⟨he, hkeep⟩ => ?_
  have l0 : ∀ x ∈ p0, x.block < W.heap.size := fun x hx => hlt x (by simp [hx])
  subst he
  exact ⟨_, rfl, _, _, _, [], _, [], hW2, trodAll_mk1 (shut_bool Tryz.underlying4 _), (trodAll_cons_mk (Below.trod (show Go.laidOutB Tryz.prog = true by kernel_rfl) (by kernel_rfl) (of_decide_eq_true (by kernel_rfl)) k0 hkeep.below l0) (trodAll_cons_mk (shut_u64 Tryz.underlying22 w1) (trodAll_cons_mk (shut_u64 Tryz.underlying22 w2) (trodAll_cons_mk (shut_int Tryz.underlying3 w3) (trodAll_cons_mk (shut_string Tryz.underlying9 w4) (trodAll_cons_mk (shut_u64 Tryz.underlying22 w5) trodAll_mk0)))))), rfl, hkeep.below.frame _, fun h => by cases h⟩
end Go.Proofs.YtckoepmdmhdepaaGreatDoor
