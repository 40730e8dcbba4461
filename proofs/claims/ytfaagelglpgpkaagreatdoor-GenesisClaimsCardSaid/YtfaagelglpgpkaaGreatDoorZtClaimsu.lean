import Derived.Test.YtfaagelglpgpkaaGreatDoorRows
import Derived.Test.YtfaagelglpgpkaaGreatDoorCards
import Derived.Test.YtfaagelglpgpkaaGreatDoorTie
import Derived.LaidMore
import Derived.Lay
import Derived.Stop.Joined
import Derived.SevenTiedAt
import Derived.Test.YtfaagelglpgpkaaGreatDoorZtClaims
namespace Go.Proofs.YtfaagelglpgpkaaGreatDoor
set_option linter.all false
open Go.SL Go.ChangeShapes Go.WideShapes Go.ChangeAt Go.RowKit
open Go.ChangeMaps (open_string shut_string)
set_option maxRecDepth 100000 in
theorem liftedGenesisClaims (os : Os) (started : os.Started) (H : Type) (enc : TypeId × Value → H) :
    ReturnsInHanded {} Tryz.checked os 4 .any (fun w args => (Rows.genesisClaimsSpec.pre enc Tryz.prog Tryz.f4 Rows.genesisClaimsRow.domain false w args ∧ laidMetH Tryz.prog Rows.genesisClaimsRow.laid w) ∧ sizedMet enc Tryz.prog Tryz.f4 (OpenSpec.ofChange Rows.genesisClaimsSpec) false w args)
      (Rows.genesisClaimsSpec.post enc Tryz.prog Tryz.f4 false true false false) := by
  refine returnsInHanded_of_change_and (C := Tryz.checked) (X := fun w _ => laidMetH Tryz.prog Rows.genesisClaimsRow.laid w) (fun _ _ _ hh h => h.of_heap hh) (by kernel_rfl) started (by kernel_rfl) Tryz.func4
    (ChangeSpec.witness_shaped (enc := enc) (C := Tryz.checked) (os := os) (X := fun w _ => laidMetH Tryz.prog Rows.genesisClaimsRow.laid w) false (World.laidAll Tryz.prog os Rows.genesisClaimsRow.laid) #[.agg #[.slice none 0 0, .int .u64 0, .int .u64 0, .int .u64 0, .int .u64 0, .int .u64 0, .int .u64 0, .int .u64 0, .int .u64 0, .int .u64 0, .int .u64 0, .int .u64 0, .int .u64 0, .int .u64 0, .int .u64 0, .int .u64 0, .int .u64 0, .int .u64 0, .int .u64 0, .slice none 0 0]] 8 (World.laidAll_os _ _ _)
      (World.shaped_of_ZipB (by kernel_rfl) (by kernel_rfl)) (by kernel_rfl) (by kernel_rfl) (by kernel_rfl)
      (by rw [MakeChecks.laidMetH_plain _ _ _ (by kernel_rfl)]; exact laidMet_laidAll _ (by kernel_rfl) (by kernel_rfl))) ?_
  intro W base args ds gs before hval0 hW hcnd _ hL _
  have hval : ∀ (j : Nat) t v, Tryz.f4.params[j]? = some t → args[j]? = some v → Value.okWide Tryz.prog W .any base t v := hval0
  have hW2 := hW
  have hlt := hW.lt
  obtain ⟨p, q, hA0, hV, rfl, hfz, hnd⟩ := hW
  have hA : DataW.TrodAll enc Tryz.prog W 0 (fun _ => true) true Tryz.f4.params.toList args.toList ds p := hA0
  rw [Tryz.params4] at hA hval
  obtain ⟨v0, vs0, d0, ds0, p0, q0, hargs, rfl, rfl, h0, r0⟩ := trodAll_cons hA
  obtain ⟨rfl, rfl, rfl⟩ := trodAll_nil r0
  obtain rfl : args = #[v0] := by cases args; simp_all
  obtain ⟨rfl, rfl⟩ := trodVars_none hV
  have k0 := h0
  obtain ⟨a0, rfl, w0⟩ := open_gen Tryz.underlying97 (by kernel_rfl) rfl rfl Tryz.underlying9 (by kernel_rfl) Tryz.underlying48 (by kernel_rfl) rfl rfl rfl rfl rfl Tryz.underlying25 (by kernel_rfl) Tryz.underlying27 (by kernel_rfl) Tryz.underlying25 (by kernel_rfl) Tryz.underlying46 (by kernel_rfl) Tryz.underlying30 (by kernel_rfl) Tryz.underlying29 (by kernel_rfl) rfl rfl rfl rfl rfl rfl rfl rfl Tryz.underlying24 (by kernel_rfl) rfl Tryz.underlying22 (by kernel_rfl) Tryz.underlying32 (by kernel_rfl) rfl rfl rfl rfl (hval 0 32 v0 rfl rfl) h0
  clear hA0 hval0
  refine ((L_GenesisClaims w0).run W (has_allB W)).mono fun e W2 ⟨he, hkeep⟩ => ?_
  have l0 : ∀ x ∈ p0, x.block < W.heap.size := fun x hx => hlt x (by simp [hx])
  subst he
  exact ⟨_, rfl, _, _, _, [], _, [], hW2, trodAll_mk1 (shut_bool Tryz.underlying4 _), (trodAll_cons_mk (Below.trod (show Go.laidOutB Tryz.prog = true by kernel_rfl) (by kernel_rfl) (of_decide_eq_true (by kernel_rfl)) k0 hkeep.below l0) trodAll_mk0), rfl, hkeep.below.frame _, fun h => by cases h⟩
end Go.Proofs.YtfaagelglpgpkaaGreatDoor
