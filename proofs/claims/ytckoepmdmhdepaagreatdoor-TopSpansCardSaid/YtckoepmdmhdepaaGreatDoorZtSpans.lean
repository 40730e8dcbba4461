import Derived.Test.YtckoepmdmhdepaaGreatDoorZtSpansf
import Derived.Lay
import Derived.LaidHandle
set_option maxRecDepth 100000
namespace Go.Proofs.YtckoepmdmhdepaaGreatDoor
set_option linter.all false
open Go.SL Go.RowKit Go.Shelf
noncomputable def holdH (P : Program) (os : Os) (u ty k : Nat) : World :=
  let w0 := World.holding P os ⟨#[], #[], []⟩
  { w0 with heap := w0.heap.modify k fun
      | .cells _ t fr => .cells #[.iface u (.agg #[.pointer (some ⟨P.globals.size, ty, none⟩)])] t fr
      | o => o }
def W6 (l : List (String × DataW Unit)) : List (String × DataW Unit) := l.filter fun x => x.2.handleName?.isNone
noncomputable def laidH (P : Program) (os : Os) (l : List (String × DataW Unit)) (u ty k : Nat) : World := (holdH P os u ty k).layVars P (W6 l)
theorem laidH_os (P : Program) (os : Os) (l : List (String × DataW Unit)) (u ty k : Nat) : (laidH P os l u ty k).os = os := World.layVars_os _ _ _
theorem laidMetH_laidH {P : Program} {os : Os} {l : List (String × DataW Unit)} {u ty k : Nat} (args : Array Value)
  (hf : (holdH P os u ty k).layFits P (W6 l) [] = true) (hi : (holdH P os u ty k).layIfaces P (W6 l) (laidH P os l u ty k) = true)
  (hh : (l.filter fun x => x.2.handleName?.isSome).all (handleAtB P ((laidH P os l u ty k).forCall (fun _ _ => 0) ⟨#[], args, []⟩).memory) = true) :
  laidMetH P l ((laidH P os l u ty k).forCall (fun _ _ => 0) ⟨#[], args, []⟩).memory := by
 refine laidMetH_of_parts ?_ hh
 have e1 : ((W6 l).filter fun x => ((W6 l).map (·.1)).contains x.1) = W6 l := List.filter_eq_self.2 fun x hx => List.contains_iff_mem.2 (List.mem_map.2 ⟨x, hx, rfl⟩)
 have e2 : ((W6 l).filter fun x => !((W6 l).map (·.1)).contains x.1) = [] := List.filter_eq_nil_iff.2 fun x hx => by rw [List.contains_iff_mem.2 (List.mem_map.2 ⟨x, hx, rfl⟩)]; simp
 have h : laidMet P (W6 l) (laidH P os l u ty k) := laidMet_layVars (w0 := holdH P os u ty k) ((W6 l).map (·.1)) [] (by rw [e1]; rfl) (by rw [e1]; exact hf) (by rw [e1]; exact hi) (by rw [e2]; exact LaidIn.none)
 exact h.of_heap (by simp [World.memory, World.forCall, Input.heap])
end Go.Proofs.YtckoepmdmhdepaaGreatDoor
