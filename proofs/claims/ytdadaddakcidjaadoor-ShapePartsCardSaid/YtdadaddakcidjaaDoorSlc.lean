import Derived.Test.YtdadaddakcidjaaDoorSlb
import Derived.ProofKit
import Derived.OpenShut
import Derived.ShutString
import Derived.ChangeOld
import Derived.Below
/-! ### The arguments of a law: arrays -/
namespace Go.SL
set_option linter.all false
open Go Go.ChangeShapes Go.WideShapes Go.RowKit
section
variable {H : Type} {enc : TypeId × Value → H} {P : Program} {w : World} {base : Nat} {sp : Nat → Bool} {held : Bool}
theorem drop_one : ∀ (cs : List Value), (List.range cs.length).map (fun i => (cs.drop (i * 1)).take 1) = cs.map fun c => [c] := fun cs => by
  apply List.ext_getElem
  · simp
  · intro i h1 h2
    simp only [List.length_map, List.length_range] at h1
    simp only [List.getElem_map, List.getElem_range, Nat.mul_one]
    rw [List.drop_eq_getElem_cons h1]; rfl
theorem mapM_map_opt {α β γ : Type} (f : α → β) (g : β → Option γ) : ∀ l : List α, (l.map f).mapM g = l.mapM fun a => g (f a)
  | [] => rfl
  | a :: l => by simp [List.mapM_cons, mapM_map_opt f g l]
theorem trod_arr {fuel t e n : Nat} {cs : List Value} {x : DataW H × List MemPlace} (ht : P.underlying t = some (.array n e)) (hc : P.cellsOf t = n) (he : P.cellsOf e = 1) :
    DataW.trod enc P w base sp held (fuel + 1) t cs = some x ↔ cs.length = n ∧ ∃ xs, (cs.map fun c => [c]).mapM (DataW.trod enc P w base sp held fuel e) = some xs ∧ x = (.agg (xs.map (·.1)), xs.flatMap (·.2)) := by
  simp only [DataW.trod, ht, hc, he]
  constructor
  · intro h
    split at h
    · rename_i hl
      refine ⟨hl, ?_⟩
      rw [← mapM_map_opt (fun i => (cs.drop (i * 1)).take 1), ← hl, drop_one, Option.map_eq_some_iff] at h
      obtain ⟨xs, h1, h2⟩ := h
      exact ⟨xs, h1, h2.symm⟩
    · cases h
  · rintro ⟨hl, xs, h1, rfl⟩
    rw [if_pos hl, ← mapM_map_opt (fun i => (cs.drop (i * 1)).take 1), ← hl, drop_one, h1]; rfl
theorem mapM_open {α : Type} {V : α → Value} {D : α → DataW H} {ok : α → Prop} {g : List Value → Option (DataW H × List MemPlace)} (hg : ∀ c x, g [c] = some x → ∃ z, c = V z ∧ x = (D z, []) ∧ ok z) : ∀ (cs : List Value) (xs : List (DataW H × List MemPlace)), (cs.map fun c => [c]).mapM g = some xs →
    ∃ zs : List α, cs = zs.map V ∧ xs = zs.map (fun z => (D z, [])) ∧ ∀ z ∈ zs, ok z
  | [], xs, h => by simp at h; exact ⟨[], rfl, by simp [h], by simp⟩
  | c :: cs, xs, h => by
    simp only [List.map_cons, List.mapM_cons] at h
    cases h1 : g [c] with
    | none => simp [h1] at h
    | some x =>
      cases h2 : (cs.map fun c => [c]).mapM g with
      | none => simp [h1, h2] at h
      | some ys =>
        simp [h1, h2] at h
        subst h
        obtain ⟨z, e1, e2, e3⟩ := hg c x h1
        obtain ⟨zs, f1, f2, f3⟩ := mapM_open hg cs ys h2
        exact ⟨z :: zs, by simp [e1, f1], by simp [e2, f2], by simpa using ⟨e3, f3⟩⟩
theorem mapM_shut {α : Type} {V : α → Value} {D : α → DataW H} {g : List Value → Option (DataW H × List MemPlace)} : ∀ (zs : List α), (∀ z ∈ zs, g [V z] = some (D z, [])) → ((zs.map V).map fun c => [c]).mapM g = some (zs.map fun z => (D z, []))
  | [], _ => rfl
  | z :: zs, h => by
    simp only [List.map_cons, List.mapM_cons]
    rw [h z (by simp), mapM_shut zs fun y hy => h y (by simp [hy])]; rfl
theorem flat_nil {α : Type} {D : α → DataW H} (zs : List α) : (zs.map fun z => (D z, ([] : List MemPlace))).flatMap (·.2) = [] := by
  induction zs with
  | nil => rfl
  | cons z zs ih => simpa using ih
theorem open_arr {α : Type} {V : α → Value} {D : α → DataW H} {ok : α → Prop} {r : Reach} {b0 t e n : Nat} {v : Value} {d : DataW H} {ps : List MemPlace} (ht : P.underlying t = some (.array n e)) (hc : P.cellsOf t = n) (he : P.cellsOf e = 1)
    (hE : ∀ fuel c x, DataW.trod enc P w base sp held fuel e [c] = some x → ∃ z, c = V z ∧ x = (D z, []) ∧ ok z)
    (hval : Value.okWide P w r b0 t v) (hd : DataW.Trod enc P w base sp held t v d ps) :
    ∃ zs : List α, zs.length = n ∧ v = .agg (zs.map V).toArray ∧ d = .agg (zs.map D) ∧ ps = [] ∧ ∀ z ∈ zs, ok z := by
  simp only [Value.okWide, ht] at hval
  obtain ⟨cs, rfl, -, -⟩ := hval
  obtain ⟨fuel, hf⟩ := hd
  cases fuel with
  | zero => simp [DataW.trod] at hf
  | succ fuel =>
    obtain ⟨hl, xs, h1, h2⟩ := (trod_arr ht hc he).1 hf
    obtain ⟨zs, e1, e2, e3⟩ := mapM_open (hE fuel) _ _ h1
    simp only [Value.cells] at hl e1
    subst e2
    refine ⟨zs, by rw [← hl, e1]; simp, ?_, ?_, ?_, e3⟩
    · congr 1; apply Array.toList_inj.1; rw [e1]
    · have := (Prod.mk.injEq .. ▸ h2).1; rw [this]; simp
    · have := (Prod.mk.injEq .. ▸ h2).2; rw [this, flat_nil]
theorem shut_arr {α : Type} {V : α → Value} {D : α → DataW H} {t e n : Nat} (ht : P.underlying t = some (.array n e)) (hc : P.cellsOf t = n) (he : P.cellsOf e = 1) {zs : List α} (hl : zs.length = n)
    (hE : ∀ z ∈ zs, DataW.trod enc P w base sp held 1 e [V z] = some (D z, [])) : DataW.Trod enc P w base sp held t (.agg (zs.map V).toArray) (.agg (zs.map D)) [] :=
  ⟨2, (trod_arr ht hc he).2 ⟨by simp [Value.cells, hl], _, mapM_shut zs hE, by rw [flat_nil]; simp⟩⟩
theorem wf_u64 {z : Int} (h : (Lit.int .u64 z).wf = true) : 0 ≤ z ∧ z < 18446744073709551616 := by
  have h1 : (0 : Int) ≤ z ∧ z ≤ 18446744073709551615 := by simpa [Lit.wf, IntKind.min, IntKind.max, IntKind.signed, IntKind.bits] using h
  omega
theorem wf_u64_mk {n : Nat} (h : n < 18446744073709551616) : (Lit.int .u64 (n : Int)).wf = true := by
  have : (0 : Int) ≤ n ∧ (n : Int) ≤ 18446744073709551615 := by omega
  simpa [Lit.wf, IntKind.min, IntKind.max, IntKind.signed, IntKind.bits] using this
theorem open_u64 {r : Reach} {b0 : Nat} {t : TypeId} {v : Value} {d : DataW H} {ps : List MemPlace} (ht : P.underlying t = some (.int .u64)) (hval : Value.okWide P w r b0 t v) (hd : DataW.Trod enc P w base sp held t v d ps) :
    ∃ n : Nat, v = uV n ∧ d = .lit (.int .u64 (n : Int)) ∧ ps = [] ∧ n < 18446744073709551616 := by
  obtain ⟨z, rfl, rfl, rfl, hw⟩ := Go.ChangeShapes.open_int ht hval hd
  have := wf_u64 hw
  exact ⟨z.toNat, by unfold uV; congr 1; omega, by congr 2; omega, rfl, by omega⟩
theorem shut_u64 {t : TypeId} {n : Nat} (ht : P.underlying t = some (.int .u64)) (h : n < 18446744073709551616) : DataW.Trod enc P w base sp held t (uV n) (.lit (.int .u64 (n : Int))) [] :=
  Go.ChangeShapes.shut_int ht (wf_u64_mk h)
theorem open_word {r : Reach} {b0 t e : Nat} {v : Value} {d : DataW H} {ps : List MemPlace} (ht : P.underlying t = some (.array 4 e)) (hc : P.cellsOf t = 4) (he : P.cellsOf e = 1) (hu : P.underlying e = some (.int .u64))
    (hval : Value.okWide P w r b0 t v) (hd : DataW.Trod enc P w base sp held t v d ps) :
    ∃ l : List Nat, WOk l ∧ v = wV l ∧ d = .agg (l.map fun n : Nat => .lit (.int .u64 (n : Int))) ∧ ps = [] := by
  obtain ⟨zs, h1, h2, h3, h4, h5⟩ := open_arr (α := Nat) (V := uV) (D := fun n => .lit (.int .u64 (n : Int))) (ok := fun n => n < 18446744073709551616) ht hc he (fun fuel c x h => by
    obtain ⟨n, e1, e2, e3⟩ := DataW.trod_int hu h
    have := wf_u64 e3
    simp only [List.cons.injEq, and_true] at e1
    exact ⟨n.toNat, by rw [e1]; unfold uV; congr 1; omega, by rw [e2]; congr 3; omega, by omega⟩) hval hd
  exact ⟨zs, ⟨h1, h5⟩, h2, h3, h4⟩
theorem shut_word {t e : Nat} (ht : P.underlying t = some (.array 4 e)) (hc : P.cellsOf t = 4) (he : P.cellsOf e = 1) (hu : P.underlying e = some (.int .u64)) {l : List Nat} (hl : WOk l) :
    DataW.Trod enc P w base sp held t (wV l) (.agg (l.map fun n : Nat => .lit (.int .u64 (n : Int)))) [] :=
  shut_arr ht hc he hl.1 fun z hz => trod_int_mk 0 hu (wf_u64_mk (hl.2 z hz))
theorem open_strs_arr {r : Reach} {b0 t e n : Nat} {v : Value} {d : DataW H} {ps : List MemPlace} (ht : P.underlying t = some (.array n e)) (hc : P.cellsOf t = n) (he : P.cellsOf e = 1) (hu : P.underlying e = some .string)
    (hval : Value.okWide P w r b0 t v) (hd : DataW.Trod enc P w base sp held t v d ps) :
    ∃ p : List (List UInt8), (p.length = n ∧ ∀ x ∈ p, x.length ≤ maxLen) ∧ v = .agg (p.map fun s => .string (bs s)).toArray ∧ d = .agg (p.map fun s => .lit (.string s)) ∧ ps = [] := by
  obtain ⟨zs, h1, h2, h3, h4, h5⟩ := open_arr (α := List UInt8) (V := fun s => .string (bs s)) (D := fun s => .lit (.string s)) (ok := fun s => s.length ≤ maxLen) ht hc he (fun fuel c x h => by
    obtain ⟨s, e1, e2, e3⟩ := DataW.trod_string hu h
    simp only [List.cons.injEq, and_true] at e1
    exact ⟨s.data.toList, by rw [e1, bs_data], e2, by show s.data.toList.length ≤ maxLen; rw [Array.length_toList]; exact e3⟩) hval hd
  exact ⟨zs, ⟨h1, h5⟩, h2, h3, h4⟩
theorem shut_strs_arr {t e n : Nat} (ht : P.underlying t = some (.array n e)) (hc : P.cellsOf t = n) (he : P.cellsOf e = 1) (hu : P.underlying e = some .string) {p : List (List UInt8)} (hl : p.length = n ∧ ∀ x ∈ p, x.length ≤ maxLen) :
    DataW.Trod enc P w base sp held t (.agg (p.map fun s => .string (bs s)).toArray) (.agg (p.map fun s => .lit (.string s))) [] :=
  shut_arr ht hc he hl.1 fun z hz => by
    have h : (bs z).size ≤ maxLen := by rw [bs_size]; exact hl.2 z hz
    simp only [DataW.trod, hu]
    rw [if_pos h]; rfl
end
end Go.SL
