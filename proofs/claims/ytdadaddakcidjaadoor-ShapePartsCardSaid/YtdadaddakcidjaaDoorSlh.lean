import Derived.Test.YtdadaddakcidjaaDoorSlg
/-! ### The arguments of a law: rows, types, values -/
namespace Go.SL
set_option linter.all false
open Go Go.RowKit Go.Shelf Go.ChangeShapes Go.WideShapes
section
variable {H : Type} {enc : TypeId × Value → H} {P : Program} {w : World} {base : Nat} {sp : Nat → Bool} {held : Bool}
theorem cells_get {a : Addr} {m : Nat} {cs : List Value} (h : w.cells? base a m = some cs) : cs.length = m ∧ ∀ i, i < m → w.cell? (a.add i) = cs[i]? := by
  unfold World.cells? at h
  split at h
  · exact ⟨by simpa using mapM_some_length h, fun i hi => mapM_some_get h i i (by simp [hi])⟩
  · cases h
theorem cell_block {a : Addr} {v : Value} (h : w.cell? a = some v) : a.spot = none ∧ ∃ all e fr, w.heap[a.block]? = some (.cells all e fr) ∧ all[a.off]? = some v := by
  unfold World.cell? at h
  split at h
  · rename_i c e fr hc
    split at h
    · cases h
    · rename_i hs
      exact ⟨by simpa using hs, c, e, fr, hc, h⟩
  · cases h
theorem cells_take {b o m : Nat} {cs : List Value} {all : Array Value} {e : TypeId} {fr : Nat × Nat} (h : w.cells? base ⟨b, o, none⟩ m = some cs) (hb : w.heap[b]? = some (.cells all e fr)) : (all.toList.drop o).take m = cs := by
  obtain ⟨hl, hg⟩ := cells_get h
  apply List.ext_getElem?
  intro i
  rw [List.getElem?_take]
  split
  · rename_i hi
    rw [← hg i hi, add_none, List.getElem?_drop, Array.getElem?_toList]
    simp only [World.cell?, hb]
    rfl
  · rename_i hi
    rw [List.getElem?_eq_none (by omega)]
theorem cat_take {α : Type} {f : α → List Value} {m b : Nat} {all : Array Value} {e : TypeId} {fr : Nat × Nat} (hb : w.heap[b]? = some (.cells all e fr)) :
    ∀ (l : List α) (o : Nat), (∀ i x, l[i]? = some x → w.cells? base ⟨b, o + i * m, none⟩ m = some (f x)) → (all.toList.drop o).take (l.length * m) = l.flatMap f
  | [], o, _ => by simp
  | y :: l, o, h => by
    have h0 := cells_take (h 0 y rfl) hb
    have hr := cat_take hb l (o + m) (fun i x hx => by
      have := h (i + 1) x hx
      rwa [Nat.succ_mul, Nat.add_comm (i * m) m, ← Nat.add_assoc] at this)
    rw [Nat.zero_mul, Nat.add_zero] at h0
    rw [List.length_cons, Nat.succ_mul, Nat.add_comm, List.take_add, h0, List.drop_drop, hr, List.flatMap_cons]
theorem seg_of_cells {α : Type} {f : α → List Value} {m : Nat} (hm : 0 < m) (hf : ∀ x, (f x).length = m) {l : List α} {a : Addr} {cap : Nat} (hle : l.length ≤ cap) (h : ∀ i x, l[i]? = some x → w.cells? base (a.add (i * m)) m = some (f x)) :
    Seg (allB w) l.length (l.flatMap f) (some (a, cap)) := by
  refine ⟨hle, fun h0 => ?_⟩
  obtain ⟨y, hy⟩ : ∃ y, l[0]? = some y := ⟨_, List.getElem?_eq_getElem h0⟩
  have h1 := h 0 y hy
  rw [Nat.zero_mul] at h1
  have e0 : a.add 0 = a := by simp [Addr.add]
  rw [e0] at h1
  obtain ⟨hl, hg⟩ := cells_get h1
  have h2 := hg 0 hm
  rw [e0] at h2
  obtain ⟨v, hv⟩ : ∃ v, (f y)[0]? = some v := ⟨_, List.getElem?_eq_getElem (by omega)⟩
  rw [hv] at h2
  obtain ⟨hs, all, e, fr, hb, _⟩ := cell_block h2
  refine ⟨hs, all, e, fr, mem_allB hb, ?_⟩
  rw [cat_len hf]
  refine cat_take (base := base) hb l a.off fun i x hx => ?_
  have := h i x hx
  have e1 : a.add (i * m) = ⟨a.block, a.off + i * m, none⟩ := by
    obtain ⟨b, o, s⟩ := a
    have : s = none := hs
    subst this
    exact add_none _ _ _
  rwa [e1] at this
theorem choose_list {α : Type} {Q : Nat → α → Prop} : ∀ (n : Nat), (∀ i, i < n → ∃ x, Q i x) → ∃ l : List α, l.length = n ∧ ∀ i x, l[i]? = some x → Q i x
  | 0, _ => ⟨[], rfl, fun i x h => by simp at h⟩
  | n + 1, h => by
    obtain ⟨l, hl, hq⟩ := choose_list n (fun i hi => h i (by omega))
    obtain ⟨x, hx⟩ := h n (by omega)
    refine ⟨l ++ [x], by simp [hl], fun i y hy => ?_⟩
    rw [List.getElem?_append] at hy
    split at hy
    · exact hq i y hy
    · rename_i hi
      have hn : i = n := by
        have := (List.getElem?_eq_some_iff.1 hy).1
        simp at this; omega
      subst hn
      rw [hl, Nat.sub_self] at hy
      obtain rfl : x = y := by simpa using hy
      exact hx
/-- A slice is opened. -/
theorem open_row_of {α : Type} {f : α → List Value} {ok : α → Prop} {m t e fuel : Nat} {cs : List Value} {x : DataW H × List MemPlace} (hm : 0 < m) (hf : ∀ x, (f x).length = m) (ht : P.underlying t = some (.slice e)) (hc : P.cellsOf e = m)
    (hE : ∀ n, n < fuel → ∀ cs x, DataW.trod enc P w base sp held n e cs = some x → ∃ y, cs = f y ∧ ok y)
    (h : DataW.trod enc P w base sp held fuel t cs = some x) : ∃ (l : List α) (p : Pl), cs = [plV l.length p] ∧ Seg (allB w) l.length (l.flatMap f) p ∧ l.length ≤ 9223372036854775807 ∧ ∀ y ∈ l, ok y := by
  rcases DataW.trod_slice ht h with ⟨rfl, _⟩ | ⟨a, len, cap, elems, rest, n, hn, rfl, _, _, hlc, hcm, hlen, hel, _⟩
  · exact ⟨[], none, rfl, rfl, by simp, fun y hy => by simp at hy⟩
  · have hex : ∀ i, i < len → ∃ y, w.cells? base (a.add (i * m)) m = some (f y) ∧ ok y := by
      intro i hi
      have h1 := hel i hi
      rw [hc] at h1
      obtain ⟨z, hz⟩ : ∃ z, elems[i]? = some z := ⟨_, List.getElem?_eq_getElem (by omega)⟩
      rw [hz, Option.bind_eq_some_iff] at h1
      obtain ⟨cs1, h2, h3⟩ := h1
      obtain ⟨y, rfl, hy⟩ := hE n (by omega) _ _ h3
      exact ⟨y, h2, hy⟩
    obtain ⟨l, rfl, hq⟩ := choose_list len hex
    have hcap : cap ≤ 9223372036854775807 := by simpa [maxLen] using hcm
    refine ⟨l, some (a, cap), rfl, seg_of_cells hm hf hlc (fun i y hy => (hq i y hy).1), by omega, fun y hy => ?_⟩
    obtain ⟨i, hi, rfl⟩ := List.mem_iff_getElem.1 hy
    exact (hq i _ (List.getElem?_eq_getElem hi)).2
/-- A struct is opened, field by field. -/
theorem trod_field {t tf off m fuel i : Nat} {fs : Array Field} {cs : List Value} {x : DataW H × List MemPlace} (ht : P.underlying t = some (.struct fs)) (hi : (fs[i]?).map (fun f => (f.type, f.offset)) = some (tf, off)) (hm : P.cellsOf tf = m)
    (h : DataW.trod enc P w base sp held fuel t cs = some x) : ∃ n y, n < fuel ∧ DataW.trod enc P w base sp held n tf ((cs.drop off).take m) = some y := by
  obtain ⟨xs, n, rfl, _, _, hl, hg⟩ := DataW.trod_struct ht h
  obtain ⟨f, hf, he⟩ := Option.map_eq_some_iff.1 hi
  obtain ⟨rfl, rfl⟩ := Prod.mk.inj he
  have hi2 : i < xs.length := by rw [hl]; exact (Array.getElem?_eq_some_iff.1 hf).1
  subst hm
  exact ⟨n, xs[i], by omega, by rw [hg i f hf]; exact List.getElem?_eq_getElem hi2⟩
theorem trod_size {t m fuel : Nat} {fs : Array Field} {cs : List Value} {x : DataW H × List MemPlace} (ht : P.underlying t = some (.struct fs)) (hm : P.cellsOf t = m) (h : DataW.trod enc P w base sp held fuel t cs = some x) : cs.length = m := by
  obtain ⟨xs, n, rfl, _, hl, _, _⟩ := DataW.trod_struct ht h
  rw [hl, hm]
theorem trod_i64 {t fuel : Nat} {cs : List Value} {x : DataW H × List MemPlace} (ht : P.underlying t = some (.int .i64)) (h : DataW.trod enc P w base sp held fuel t cs = some x) : ∃ n, cs = [.int .i64 n] ∧ I64 n := by
  obtain ⟨n, rfl, _, hw⟩ := DataW.trod_int ht h
  exact ⟨n, rfl, bounds_i64 hw⟩
theorem trod_u64 {t fuel : Nat} {cs : List Value} {x : DataW H × List MemPlace} (ht : P.underlying t = some (.int .u64)) (h : DataW.trod enc P w base sp held fuel t cs = some x) : ∃ n : Nat, cs = [uV n] ∧ U64 n := by
  obtain ⟨n, rfl, _, hw⟩ := DataW.trod_int ht h
  have := bounds_u64 hw
  exact ⟨n.toNat, by unfold uV; congr 2; omega, by unfold U64; omega⟩
/-- An array of four words is opened. -/
theorem trod_w4 {t e fuel : Nat} {cs : List Value} {x : DataW H × List MemPlace} (ht : P.underlying t = some (.array 4 e)) (hc : P.cellsOf t = 4) (he : P.cellsOf e = 1) (hu : P.underlying e = some (.int .u64)) (h : DataW.trod enc P w base sp held fuel t cs = some x) :
    ∃ a b c d : Nat, cs = [uV a, uV b, uV c, uV d] ∧ U64 a ∧ U64 b ∧ U64 c ∧ U64 d := by
  cases fuel with
  | zero => simp [DataW.trod] at h
  | succ fuel =>
    obtain ⟨hl, xs, h1, _⟩ := (trod_arr ht hc he).1 h
    obtain ⟨zs, rfl, _, hz⟩ := mapM_open (V := uV) (D := fun n : Nat => .lit (.int .u64 (n : Int))) (ok := U64) (fun c x hx => by
      obtain ⟨n, h2, h3, h4⟩ := DataW.trod_int hu hx
      have h5 := bounds_u64 h4
      refine ⟨n.toNat, ?_, ?_, by unfold U64; omega⟩
      · rw [List.singleton_inj.1 h2]; unfold uV; congr 1; omega
      · rw [h3]; congr 3; omega) _ _ h1
    rw [List.length_map] at hl
    match zs, hl, hz with
    | [a, b, c, d], _, hz => exact ⟨a, b, c, d, rfl, hz a (by simp), hz b (by simp), hz c (by simp), hz d (by simp)⟩
theorem okWide_vals {t : Nat} {fs : Array Field} {r : Reach} {b0 : Nat} {v : Value} (ht : P.underlying t = some (.struct fs)) (h : Value.okWide P w r b0 t v) {cs : List Value} (hc : v.cells.toList = cs) : v = .agg cs.toArray := by
  obtain ⟨c1, rfl, _⟩ := okWide_struct ht h
  subst hc
  simp [Value.cells]
/-- A type. -/
theorem open_ty {tT tS tI fuel : Nat} {fs : Array Field} (ht : P.underlying tT = some (.struct fs)) (hT : P.cellsOf tT = 3) (h0 : (fs[0]?).map (fun f => (f.type, f.offset)) = some (tI, 0)) (h1 : (fs[1]?).map (fun f => (f.type, f.offset)) = some (tI, 1)) (h2 : (fs[2]?).map (fun f => (f.type, f.offset)) = some (tS, 2))
    (hI : P.underlying tI = some (.int .i64)) (hIc : P.cellsOf tI = 1) (hS : P.underlying tS = some (.slice tT)) (hSc : P.cellsOf tS = 1) :
    ∀ {cs : List Value} {x : DataW H × List MemPlace}, DataW.trod enc P w base sp held fuel tT cs = some x → ∃ T : Ty, cs = T.cells ∧ Ty.In (allB w) T := by
  induction fuel using Nat.strongRecOn with
  | _ fuel ih =>
    intro cs x h
    have hl := trod_size ht hT h
    match cs, hl with
    | [a, b, c], _ =>
      obtain ⟨n0, y0, _, e0⟩ := trod_field ht h0 hIc h
      obtain ⟨n1, y1, _, e1⟩ := trod_field ht h1 hIc h
      obtain ⟨n2, y2, l2, e2⟩ := trod_field ht h2 hSc h
      obtain ⟨k, ek, hk⟩ := trod_i64 hI e0
      obtain ⟨n, en, hn⟩ := trod_i64 hI e1
      obtain ⟨l, p, ep, hs, hlen, hok⟩ := open_row_of (f := Ty.cells) (ok := Ty.In (allB w)) (by decide) Ty.len hS hT (fun m hm cs x hx => ih m (by omega) hx) e2
      obtain rfl : a = .int .i64 k := by simpa using ek
      obtain rfl : b = .int .i64 n := by simpa using en
      obtain rfl : c = plV l.length p := by simpa using ep
      exact ⟨.mk k n p l, rfl, .mk hk hn hlen hs hok⟩
theorem bits_flat : ∀ lb : List Bool, lb.flatMap (fun x : Bool => [Value.bool x]) = bitsC lb
  | [] => rfl
  | b :: l => by rw [List.flatMap_cons, bits_flat l]; rfl
/-- A value. -/
theorem open_vl {tT tS tI tW tB tb tu fuel : Nat} {fs : Array Field} (ht : P.underlying tT = some (.struct fs)) (hT : P.cellsOf tT = 7) (h0 : (fs[0]?).map (fun f => (f.type, f.offset)) = some (tW, 0)) (h1 : (fs[1]?).map (fun f => (f.type, f.offset)) = some (tB, 4)) (h2 : (fs[2]?).map (fun f => (f.type, f.offset)) = some (tS, 5)) (h3 : (fs[3]?).map (fun f => (f.type, f.offset)) = some (tI, 6))
    (hI : P.underlying tI = some (.int .i64)) (hIc : P.cellsOf tI = 1) (hS : P.underlying tS = some (.slice tT)) (hSc : P.cellsOf tS = 1) (hB : P.underlying tB = some (.slice tb)) (hBc : P.cellsOf tB = 1) (hb : P.underlying tb = some .bool) (hbc : P.cellsOf tb = 1)
    (hW : P.underlying tW = some (.array 4 tu)) (hWc : P.cellsOf tW = 4) (hu : P.underlying tu = some (.int .u64)) (huc : P.cellsOf tu = 1) :
    ∀ {cs : List Value} {x : DataW H × List MemPlace}, DataW.trod enc P w base sp held fuel tT cs = some x → ∃ T : Vl, cs = T.cells ∧ Vl.In (allB w) T := by
  induction fuel using Nat.strongRecOn with
  | _ fuel ih =>
    intro cs x h
    have hl := trod_size ht hT h
    match cs, hl with
    | [a0, a1, a2, a3, b, c, d], _ =>
      obtain ⟨n0, y0, _, e0⟩ := trod_field ht h0 hWc h
      obtain ⟨n1, y1, _, e1⟩ := trod_field ht h1 hBc h
      obtain ⟨n2, y2, l2, e2⟩ := trod_field ht h2 hSc h
      obtain ⟨n3, y3, _, e3⟩ := trod_field ht h3 hIc h
      obtain ⟨w0, w1, w2, w3, ew, k0, k1, k2, k3⟩ := trod_w4 hW hWc huc hu e0
      obtain ⟨lb, pb, eb, hsb, hlb, _⟩ := open_row_of (f := fun x : Bool => [Value.bool x]) (ok := fun _ => True) (by decide) (fun _ => rfl) hB hbc (fun m hm cs x hx => by
        obtain ⟨z, rfl, _⟩ := DataW.trod_bool hb hx
        exact ⟨z, rfl, trivial⟩) e1
      obtain ⟨l, p, ep, hs, hlen, hok⟩ := open_row_of (f := Vl.cells) (ok := Vl.In (allB w)) (by decide) Vl.len hS hT (fun m hm cs x hx => ih m (by omega) hx) e2
      obtain ⟨n, en, hn⟩ := trod_i64 hI e3
      obtain ⟨rfl, rfl, rfl, rfl⟩ : a0 = uV w0 ∧ a1 = uV w1 ∧ a2 = uV w2 ∧ a3 = uV w3 := by simpa using ew
      obtain rfl : b = plV lb.length pb := by simpa using eb
      obtain rfl : c = plV l.length p := by simpa using ep
      obtain rfl : d = .int .i64 n := by simpa using en
      refine ⟨.mk w0 w1 w2 w3 lb pb l p n, rfl, .mk k0 k1 k2 k3 hlb ?_ hlen hs hn hok⟩
      have e : lb.flatMap (fun x : Bool => [Value.bool x]) = bitsC lb := bits_flat lb
      rwa [e] at hsb
theorem open_tyA {r : Reach} {b0 tT tS tI : Nat} {fs : Array Field} {v : Value} {d : DataW H} {ps : List MemPlace} (ht : P.underlying tT = some (.struct fs)) (hT : P.cellsOf tT = 3) (h0 : (fs[0]?).map (fun f => (f.type, f.offset)) = some (tI, 0)) (h1 : (fs[1]?).map (fun f => (f.type, f.offset)) = some (tI, 1)) (h2 : (fs[2]?).map (fun f => (f.type, f.offset)) = some (tS, 2))
    (hI : P.underlying tI = some (.int .i64)) (hIc : P.cellsOf tI = 1) (hS : P.underlying tS = some (.slice tT)) (hSc : P.cellsOf tS = 1) (hval : Value.okWide P w r b0 tT v) (hd : DataW.Trod enc P w base sp held tT v d ps) : ∃ T : Ty, v = T.val ∧ Ty.In (allB w) T := by
  obtain ⟨fuel, hf⟩ := hd
  obtain ⟨T, e, hin⟩ := open_ty ht hT h0 h1 h2 hI hIc hS hSc hf
  exact ⟨T, okWide_vals ht hval e, hin⟩
theorem open_vlA {r : Reach} {b0 tT tS tI tW tB tb tu : Nat} {fs : Array Field} {v : Value} {d : DataW H} {ps : List MemPlace} (ht : P.underlying tT = some (.struct fs)) (hT : P.cellsOf tT = 7) (h0 : (fs[0]?).map (fun f => (f.type, f.offset)) = some (tW, 0)) (h1 : (fs[1]?).map (fun f => (f.type, f.offset)) = some (tB, 4)) (h2 : (fs[2]?).map (fun f => (f.type, f.offset)) = some (tS, 5)) (h3 : (fs[3]?).map (fun f => (f.type, f.offset)) = some (tI, 6))
    (hI : P.underlying tI = some (.int .i64)) (hIc : P.cellsOf tI = 1) (hS : P.underlying tS = some (.slice tT)) (hSc : P.cellsOf tS = 1) (hB : P.underlying tB = some (.slice tb)) (hBc : P.cellsOf tB = 1) (hb : P.underlying tb = some .bool) (hbc : P.cellsOf tb = 1)
    (hW : P.underlying tW = some (.array 4 tu)) (hWc : P.cellsOf tW = 4) (hu : P.underlying tu = some (.int .u64)) (huc : P.cellsOf tu = 1) (hval : Value.okWide P w r b0 tT v) (hd : DataW.Trod enc P w base sp held tT v d ps) : ∃ T : Vl, v = T.val ∧ Vl.In (allB w) T := by
  obtain ⟨fuel, hf⟩ := hd
  obtain ⟨T, e, hin⟩ := open_vl ht hT h0 h1 h2 h3 hI hIc hS hSc hB hBc hb hbc hW hWc hu huc hf
  exact ⟨T, okWide_vals ht hval e, hin⟩
end
end Go.SL
