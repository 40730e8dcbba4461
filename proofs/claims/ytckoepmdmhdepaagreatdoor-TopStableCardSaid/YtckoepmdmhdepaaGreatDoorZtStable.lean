import Derived.Test.YtckoepmdmhdepaaGreatDoorZtStableh
import Derived.LaidSub
open Go.Proofs.Tryz (prog)
set_option maxRecDepth 100000
namespace Go.Proofs.YtckoepmdmhdepaaGreatDoor
set_option linter.all false
open Go.SL Go.RowKit Go.Shelf
variable {v : Bool} {x : ItL} {cs : List Value} {m : MsgL} {f q r u : Nat} {go : Obj} {P : Program} {ps : String} {t : TxL} {ty : TypeId} {w : World}
section
variable {H : Type} {enc : TypeId × Value → H} {P : Program} {w : World} {base : Nat} {sp : Nat → Bool} {held : Bool}
theorem Jsd : ∀ l : List Nat, l.flatMap (fun n => [uV n]) = unC l
 | [] => rfl
 | x :: l => by rw [List.flatMap_cons, Jsd l]; rfl
theorem open_sch {r : Reach} {b0 tP tS tI : Nat} {fp : Array Field} {v : Value} {d : DataW H} {ps : List MemPlace} (hI : P.underlying tI = some (.int .u64)) (hIc : P.cellsOf tI = 1) (hS : P.underlying tS = some (.slice tI)) (hSc : P.cellsOf tS = 1) (hP : P.underlying tP = some (.struct fp)) (hPc : P.cellsOf tP = 1) (h0 : VM fp 0 = some (tS, 0))
  (hval : Value.okWide P w r b0 tP v) (hd : DataW.Trod enc P w base sp held tP v d ps) : ∃ q : List Nat × Pl, v = Jgi q.1.length q.2 ∧ Seg (Jkf w) q.1.length (unC q.1) q.2 ∧ q.1.length ≤ 9223372036854775807 := by
 obtain ⟨fuel, h⟩ := hd
 have hl := Jkk hP hPc h
 generalize hcs : v.cells.toList = cs at h hl
 match cs, hl with
 | [c0], _ =>
  obtain ⟨n0, y0, _, e0⟩ := Jfo hP h0 hSc h
  obtain ⟨l, p, ep, hsg, hlen, _⟩ := Jcv (f := fun n : Nat => [uV n]) (ok := fun n => VL n) m7 (fun _ => rfl) hS hIc (fun m hm cs x hx => Jm1 hI hx) e0
  obtain rfl : c0 = Km l.length p := by simpa using ep
  rw [Jsd] at hsg; exact ⟨(l, p), Jcw hP hval hcs, hsg, hlen⟩
end
theorem Jlx {ty : Nat} (h : ty < Tryz.prog.types.size) (hn : Tryz.prog.rowNamed ty [101, 114, 114, 111, 114] = true) : ty = 156 := by
 have hall : ((List.range Tryz.prog.types.size).all fun k => !Tryz.prog.rowNamed k [101, 114, 114, 111, 114] || k == 156) = true := by kernel_rfl
 have := List.all_eq_true.1 hall ty (List.mem_range.2 h)
 rw [hn] at this
 simpa using this
theorem hold_laid {l : List (String × DataW Unit)} (h : laidMetH prog l w) {d : DataW Unit} (hm : ("errors.errorType", d) ∈ l) (hn : d.handleName? = some [101, 114, 114, 111, 114]) (hf : d.funcsIn? = none) : ∃ go, (0, go) ∈ Jkf w ∧ VH go := by
 obtain ⟨_, h2⟩ := laidMetH_iff.1 h
 have h3 := h2 _ (List.mem_filter.2 ⟨hm, by simp only [hn]; rfl⟩)
 simp only [hf] at h3
 obtain ⟨name, u, ty, e1, e2, lt, rn, ev⟩ := h3
 rw [hn] at e1
 obtain rfl := (J' e1)
 have hu : (Tryz.prog.cutTypes.find? (·.1 == "internal/reflectlite.rtype")).map (·.2) = some 417 := by kernel_rfl
 rw [hu] at e2
 obtain rfl := (J' e2)
 obtain rfl := Jlx lt rn
 unfold World.var? at ev
 rw [show Tryz.prog.globalNamed "errors.errorType" = some 0 by kernel_rfl] at ev; simp only [Option.bind_some] at ev
 split at ev
 ·rename_i cs t fr hc
  obtain rfl := J' ev
  refine ⟨_, Jcn hc, fun w' hw' => ?_⟩
  have hg : Tryz.prog.globals.size = 4 := by kernel_rfl
  simp [World.cell?, hw', hV, typeHandle, hg]
 ·cases ev
end Go.Proofs.YtckoepmdmhdepaaGreatDoor
