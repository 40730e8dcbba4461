import Derived.Test.YtnkmbkndpoghdaaGreatLXa
import Derived.Test.YtnkmbkndpoghdaaGreatProg
import Derived.Laws.Externs
import Derived.Shelf.Spec.BitsCarry
import Derived.Test.YtnkmbkndpoghdaaGreatShelf
import Derived.Laws.StructEq
/-! ### Records, accounts and states in the heap -/
namespace Go.SL
set_option linter.all false
open Go Go.RowKit Go.Shelf Go.ChangeShapes Go.WideShapes
open Go.Proofs (Enters enters_of)
abbrev strV (s : BS) : Value := .string (bs s)
structure W4.ok (w : W4) : Prop where
  a : U64 w.a
  b : U64 w.b
  c : U64 w.c
  d : U64 w.d
theorem W4.ok.wok {w : W4} (h : w.ok) : WOk w.l := ⟨rfl, fun x hx => by
  unfold W4.l at hx
  simp only [List.mem_cons, List.not_mem_nil, or_false] at hx
  rcases hx with rfl | rfl | rfl | rfl
  · exact h.a
  · exact h.b
  · exact h.c
  · exact h.d⟩
theorem W4.ok_of {l : List Nat} (h : WOk l) : (W4.of l).ok := by
  obtain ⟨h1, h2⟩ := h
  match l, h1 with
  | [a, b, c, d], _ => exact ⟨h2 a (by simp), h2 b (by simp), h2 c (by simp), h2 d (by simp)⟩
theorem u64_0 : U64 0 := by unfold U64; decide
theorem w40_ok : w40.ok := ⟨u64_0, u64_0, u64_0, u64_0⟩
/-! Records -/
structure Rec : Type where
  number : Nat
  time : Nat
  base : W4
  blob : W4
  overhead : W4
  scalar : Nat
  extra : Nat
  operator : Nat
deriving DecidableEq
def rec0 : Rec := ⟨0, 0, w40, w40, w40, 0, 0, 0⟩
def Rec.nats (r : Rec) : List Nat := [r.number, r.time, r.base.a, r.base.b, r.base.c, r.base.d, r.blob.a, r.blob.b, r.blob.c, r.blob.d, r.overhead.a, r.overhead.b, r.overhead.c, r.overhead.d, r.scalar, r.extra, r.operator]
def Rec.cells (r : Rec) : List Value := r.nats.map uV
def Rec.val (r : Rec) : Value := .agg r.cells.toArray
theorem Rec.len (r : Rec) : r.cells.length = 17 := rfl
theorem Rec.one (r : Rec) : r.cells.all oneB = true := rfl
structure Rec.ok (r : Rec) : Prop where
  number : U64 r.number
  time : U64 r.time
  base : r.base.ok
  blob : r.blob.ok
  overhead : r.overhead.ok
  scalar : U64 r.scalar
  extra : U64 r.extra
  operator : U64 r.operator
theorem rec0_ok : rec0.ok := ⟨u64_0, u64_0, w40_ok, w40_ok, w40_ok, u64_0, u64_0, u64_0⟩
/-! Slots, accounts, states -/
def slC (x : BS × BS) : List Value := [strV x.1, strV x.2]
theorem slC_len (x : BS × BS) : (slC x).length = 2 := rfl
theorem slC_one (x : BS × BS) : (slC x).all oneB = true := rfl
def sltV (x : BS × BS) : Value := .agg (slC x).toArray
def slsC (l : List (BS × BS)) : List Value := l.flatMap slC
abbrev maxS : Nat := 9223372036854775807
structure AcL : Type where
  addr : BS
  nonce : Nat
  bal : W4
  code : BS
  slots : List (BS × BS)
  p : Pl
def AcL.cells (a : AcL) : List Value := [strV a.addr, uV a.nonce, uV a.bal.a, uV a.bal.b, uV a.bal.c, uV a.bal.d, strV a.code, plV a.slots.length a.p]
def AcL.val (a : AcL) : Value := .agg a.cells.toArray
def AcL.er (a : AcL) : AcE := ⟨a.addr, a.nonce, a.bal, a.code, a.slots⟩
theorem AcL.len (a : AcL) : a.cells.length = 8 := rfl
theorem AcL.one (a : AcL) : a.cells.all oneB = true := rfl
structure AcL.In (R : List (Nat × Obj)) (a : AcL) : Prop where
  addr : a.addr.length ≤ maxS
  nonce : U64 a.nonce
  bal : a.bal.ok
  code : a.code.length ≤ maxS
  len : a.slots.length ≤ maxS
  seg : Seg R a.slots.length (slsC a.slots) a.p
  slots : ∀ x ∈ a.slots, x.1.length ≤ maxS ∧ x.2.length ≤ maxS
theorem AcL.In.mono {R R' : List (Nat × Obj)} {a : AcL} (h : a.In R) (hs : ∀ q ∈ R, q ∈ R') : a.In R' := ⟨h.addr, h.nonce, h.bal, h.code, h.len, h.seg.mono hs, h.slots⟩
def ac0L : AcL := ⟨[], 0, w40, [], [], none⟩
theorem ac0_in {R : List (Nat × Obj)} : ac0L.In R := ⟨Nat.zero_le _, u64_0, w40_ok, Nat.zero_le _, Nat.zero_le _, rfl, by simp [ac0L]⟩
def acsC (l : List AcL) : List Value := l.flatMap AcL.cells
structure StL : Type where
  accts : List AcL
  p : Pl
def StL.cells (s : StL) : List Value := [plV s.accts.length s.p]
def StL.val (s : StL) : Value := .agg s.cells.toArray
def StL.er (s : StL) : List AcE := s.accts.map AcL.er
theorem StL.er_len (s : StL) : s.er.length = s.accts.length := by simp [StL.er]
structure StL.In (R : List (Nat × Obj)) (s : StL) : Prop where
  len : s.accts.length ≤ maxS
  seg : Seg R s.accts.length (acsC s.accts) s.p
  accts : ∀ a ∈ s.accts, a.In R
theorem StL.In.mono {R R' : List (Nat × Obj)} {s : StL} (h : s.In R) (hs : ∀ q ∈ R, q ∈ R') : s.In R' := ⟨h.len, h.seg.mono hs, fun a ha => (h.accts a ha).mono hs⟩
def st0L : StL := ⟨[], none⟩
theorem st0_in {R : List (Nat × Obj)} : st0L.In R := ⟨Nat.zero_le _, rfl, by simp [st0L]⟩
theorem cat_cell {α : Type} {f : α → List Value} {m : Nat} (hf : ∀ x, (f x).length = m) {l : List α} {j k : Nat} {x : α} {v : Value} (h : l[j]? = some x) (hk : (f x)[k]? = some v) : (l.flatMap f)[j * m + k]? = some v := by
  have h1 := cat_get hf h
  have hlt : k < m := by have := (List.getElem?_eq_some_iff.1 hk).1; rwa [hf] at this
  rw [← h1, List.getElem?_take, if_pos hlt, List.getElem?_drop] at hk
  exact hk
section
variable {c : Cx} {l : List (Nat × Value)} {L : List (Nat × Obj)} {X : XP} {d : List Deferred} {i : Nat} {t : TypeId} {ps : String} {af : Array Edge} {gd : Option (Nat × Bool)} {ty : TypeId}
/-- An element is read whole. -/
theorem R_loadEl {α : Type} {f : α → List Value} {m : Nat} (hf : ∀ x, (f x).length = m) {x : Operand} {p : Pl} {R : List (Nat × Obj)} {xs : List α} {j : Nat} {y : α} (hR : ∀ q ∈ R, known c L q.1 q.2) (hx : evl l x = some (.pointer (some ⟨plB p, plO p + j * m, none⟩))) (hs : Seg R xs.length (xs.flatMap f) p) (hy : xs[j]? = some y) (ht : aggB c.P t = some true) (hm : szOf c.P t = some m) :
    RunsTo c d l L X ⟨some i, .load t x, ty, ps, af, gd⟩ (.agg (f y).toArray) :=
  R_loadPlA hR hx hs (get_pos hy) ht hm (cat_get hf hy) (hf y)
/-- A field of an element is read. -/
theorem R_loadEf {α : Type} {f : α → List Value} {m k : Nat} (hf : ∀ x, (f x).length = m) {x : Operand} {p : Pl} {R : List (Nat × Obj)} {xs : List α} {j : Nat} {y : α} {v : Value} (hR : ∀ q ∈ R, known c L q.1 q.2) (hx : evl l x = some (.pointer (some ⟨plB p, plO p + (j * m + k), none⟩))) (hs : Seg R xs.length (xs.flatMap f) p) (hy : xs[j]? = some y) (hv : (f y)[k]? = some v) (ht : aggB c.P t = some false) :
    RunsTo c d l L X ⟨some i, .load t x, ty, ps, af, gd⟩ v :=
  R_loadPl hR hx hs (get_pos hy) ht (cat_cell hf hy hv)
end
/-! ### The arguments of a law -/
section
variable {H : Type} {enc : TypeId × Value → H} {P : Program} {w : World} {base : Nat} {sp : Nat → Bool} {held : Bool}
theorem trod_str {t fuel : Nat} {cs : List Value} {x : DataW H × List MemPlace} (ht : P.underlying t = some .string) (h : DataW.trod enc P w base sp held fuel t cs = some x) : ∃ s : BS, cs = [strV s] ∧ s.length ≤ maxS := by
  obtain ⟨s, rfl, _, hl⟩ := DataW.trod_string ht h
  exact ⟨s.data.toList, by unfold strV; rw [bs_data], by rw [Array.length_toList]; exact hl⟩
theorem open_sl {tT tS fuel : Nat} {fs : Array Field} (ht : P.underlying tT = some (.struct fs)) (hT : P.cellsOf tT = 2) (h0 : (fs[0]?).map (fun f => (f.type, f.offset)) = some (tS, 0)) (h1 : (fs[1]?).map (fun f => (f.type, f.offset)) = some (tS, 1)) (hS : P.underlying tS = some .string) (hSc : P.cellsOf tS = 1)
    {cs : List Value} {x : DataW H × List MemPlace} (h : DataW.trod enc P w base sp held fuel tT cs = some x) : ∃ y : BS × BS, cs = slC y ∧ (y.1.length ≤ maxS ∧ y.2.length ≤ maxS) := by
  have hl := trod_size ht hT h
  match cs, hl with
  | [a, b], _ =>
    obtain ⟨n0, y0, _, e0⟩ := trod_field ht h0 hSc h
    obtain ⟨n1, y1, _, e1⟩ := trod_field ht h1 hSc h
    obtain ⟨k, ek, hk⟩ := trod_str hS e0
    obtain ⟨v, ev, hv⟩ := trod_str hS e1
    obtain rfl : a = strV k := by simpa using ek
    obtain rfl : b = strV v := by simpa using ev
    exact ⟨(k, v), rfl, hk, hv⟩
theorem open_ac {tA tT tS tL tW tu tI fuel : Nat} {fs fa : Array Field} (ht : P.underlying tT = some (.struct fs)) (hT : P.cellsOf tT = 2) (h0 : (fs[0]?).map (fun f => (f.type, f.offset)) = some (tS, 0)) (h1 : (fs[1]?).map (fun f => (f.type, f.offset)) = some (tS, 1)) (hS : P.underlying tS = some .string) (hSc : P.cellsOf tS = 1)
    (ha : P.underlying tA = some (.struct fa)) (hA : P.cellsOf tA = 8) (a0 : (fa[0]?).map (fun f => (f.type, f.offset)) = some (tS, 0)) (a1 : (fa[1]?).map (fun f => (f.type, f.offset)) = some (tI, 1)) (a2 : (fa[2]?).map (fun f => (f.type, f.offset)) = some (tW, 2)) (a3 : (fa[3]?).map (fun f => (f.type, f.offset)) = some (tS, 6)) (a4 : (fa[4]?).map (fun f => (f.type, f.offset)) = some (tL, 7))
    (hI : P.underlying tI = some (.int .u64)) (hIc : P.cellsOf tI = 1) (hW : P.underlying tW = some (.array 4 tu)) (hWc : P.cellsOf tW = 4) (hu : P.underlying tu = some (.int .u64)) (huc : P.cellsOf tu = 1) (hL : P.underlying tL = some (.slice tT)) (hLc : P.cellsOf tL = 1)
    {cs : List Value} {x : DataW H × List MemPlace} (h : DataW.trod enc P w base sp held fuel tA cs = some x) : ∃ a : AcL, cs = a.cells ∧ a.In (allB w) := by
  have hl := trod_size ha hA h
  match cs, hl with
  | [c0, c1, c2, c3, c4, c5, c6, c7], _ =>
    obtain ⟨n0, y0, _, e0⟩ := trod_field ha a0 hSc h
    obtain ⟨n1, y1, _, e1⟩ := trod_field ha a1 hIc h
    obtain ⟨n2, y2, _, e2⟩ := trod_field ha a2 hWc h
    obtain ⟨n3, y3, _, e3⟩ := trod_field ha a3 hSc h
    obtain ⟨n4, y4, _, e4⟩ := trod_field ha a4 hLc h
    obtain ⟨s, es, hs⟩ := trod_str hS e0
    obtain ⟨n, en, hn⟩ := trod_u64 hI e1
    obtain ⟨w0, w1, w2, w3, ew, k0, k1, k2, k3⟩ := trod_w4 hW hWc huc hu e2
    obtain ⟨cd, ec, hc⟩ := trod_str hS e3
    obtain ⟨l, p, ep, hsg, hlen, hok⟩ := open_row_of (f := slC) (ok := fun y => y.1.length ≤ maxS ∧ y.2.length ≤ maxS) (by decide) slC_len hL hT (fun m hm cs x hx => open_sl ht hT h0 h1 hS hSc hx) e4
    obtain rfl : c0 = strV s := by simpa using es
    obtain rfl : c1 = uV n := by simpa using en
    obtain ⟨rfl, rfl, rfl, rfl⟩ : c2 = uV w0 ∧ c3 = uV w1 ∧ c4 = uV w2 ∧ c5 = uV w3 := by simpa using ew
    obtain rfl : c6 = strV cd := by simpa using ec
    obtain rfl : c7 = plV l.length p := by simpa using ep
    exact ⟨⟨s, n, ⟨w0, w1, w2, w3⟩, cd, l, p⟩, rfl, ⟨hs, hn, ⟨k0, k1, k2, k3⟩, hc, hlen, hsg, hok⟩⟩
theorem open_st {tP tX tA tT tS tL tW tu tI : Nat} {fs fa fp : Array Field} (ht : P.underlying tT = some (.struct fs)) (hT : P.cellsOf tT = 2) (h0 : (fs[0]?).map (fun f => (f.type, f.offset)) = some (tS, 0)) (h1 : (fs[1]?).map (fun f => (f.type, f.offset)) = some (tS, 1)) (hS : P.underlying tS = some .string) (hSc : P.cellsOf tS = 1)
    (ha : P.underlying tA = some (.struct fa)) (hA : P.cellsOf tA = 8) (a0 : (fa[0]?).map (fun f => (f.type, f.offset)) = some (tS, 0)) (a1 : (fa[1]?).map (fun f => (f.type, f.offset)) = some (tI, 1)) (a2 : (fa[2]?).map (fun f => (f.type, f.offset)) = some (tW, 2)) (a3 : (fa[3]?).map (fun f => (f.type, f.offset)) = some (tS, 6)) (a4 : (fa[4]?).map (fun f => (f.type, f.offset)) = some (tL, 7))
    (hI : P.underlying tI = some (.int .u64)) (hIc : P.cellsOf tI = 1) (hW : P.underlying tW = some (.array 4 tu)) (hWc : P.cellsOf tW = 4) (hu : P.underlying tu = some (.int .u64)) (huc : P.cellsOf tu = 1) (hL : P.underlying tL = some (.slice tT)) (hLc : P.cellsOf tL = 1)
    (hp : P.underlying tP = some (.struct fp)) (hPc : P.cellsOf tP = 1) (p0 : (fp[0]?).map (fun f => (f.type, f.offset)) = some (tX, 0)) (hX : P.underlying tX = some (.slice tA)) (hXc : P.cellsOf tX = 1)
    {r : Reach} {b0 : Nat} {v : Value} {d : DataW H} {ps : List MemPlace} (hval : Value.okWide P w r b0 tP v) (hd : DataW.Trod enc P w base sp held tP v d ps) : ∃ s : StL, v = s.val ∧ s.In (allB w) := by
  obtain ⟨fuel, h⟩ := hd
  have hl := trod_size hp hPc h
  generalize hcs : v.cells.toList = cs at h hl
  match cs, hl with
  | [c0], _ =>
    obtain ⟨n0, y0, _, e0⟩ := trod_field hp p0 hXc h
    obtain ⟨l, p, ep, hsg, hlen, hok⟩ := open_row_of (f := AcL.cells) (ok := AcL.In (allB w)) (by decide) AcL.len hX hA (fun m hm cs x hx => open_ac ht hT h0 h1 hS hSc ha hA a0 a1 a2 a3 a4 hI hIc hW hWc hu huc hL hLc hx) e0
    obtain rfl : c0 = plV l.length p := by simpa using ep
    exact ⟨⟨l, p⟩, okWide_vals hp hval hcs, ⟨hlen, hsg, hok⟩⟩
theorem open_rec {tR tW tu tI : Nat} {fa : Array Field} (ha : P.underlying tR = some (.struct fa)) (hA : P.cellsOf tR = 17) (a0 : (fa[0]?).map (fun f => (f.type, f.offset)) = some (tI, 0)) (a1 : (fa[1]?).map (fun f => (f.type, f.offset)) = some (tI, 1)) (a2 : (fa[2]?).map (fun f => (f.type, f.offset)) = some (tW, 2)) (a3 : (fa[3]?).map (fun f => (f.type, f.offset)) = some (tW, 6)) (a4 : (fa[4]?).map (fun f => (f.type, f.offset)) = some (tW, 10))
    (a5 : (fa[5]?).map (fun f => (f.type, f.offset)) = some (tI, 14)) (a6 : (fa[6]?).map (fun f => (f.type, f.offset)) = some (tI, 15)) (a7 : (fa[7]?).map (fun f => (f.type, f.offset)) = some (tI, 16))
    (hI : P.underlying tI = some (.int .u64)) (hIc : P.cellsOf tI = 1) (hW : P.underlying tW = some (.array 4 tu)) (hWc : P.cellsOf tW = 4) (hu : P.underlying tu = some (.int .u64)) (huc : P.cellsOf tu = 1)
    {r : Reach} {b0 : Nat} {v : Value} {d : DataW H} {ps : List MemPlace} (hval : Value.okWide P w r b0 tR v) (hd : DataW.Trod enc P w base sp held tR v d ps) : ∃ s : Rec, v = s.val ∧ s.ok := by
  obtain ⟨fuel, h⟩ := hd
  have hl := trod_size ha hA h
  generalize hcs : v.cells.toList = cs at h hl
  match cs, hl with
  | [c0, c1, c2, c3, c4, c5, c6, c7, c8, c9, c10, c11, c12, c13, c14, c15, c16], _ =>
    obtain ⟨n0, y0, _, e0⟩ := trod_field ha a0 hIc h
    obtain ⟨n1, y1, _, e1⟩ := trod_field ha a1 hIc h
    obtain ⟨n2, y2, _, e2⟩ := trod_field ha a2 hWc h
    obtain ⟨n3, y3, _, e3⟩ := trod_field ha a3 hWc h
    obtain ⟨n4, y4, _, e4⟩ := trod_field ha a4 hWc h
    obtain ⟨n5, y5, _, e5⟩ := trod_field ha a5 hIc h
    obtain ⟨n6, y6, _, e6⟩ := trod_field ha a6 hIc h
    obtain ⟨n7, y7, _, e7⟩ := trod_field ha a7 hIc h
    obtain ⟨x0, f0, g0⟩ := trod_u64 hI e0
    obtain ⟨x1, f1, g1⟩ := trod_u64 hI e1
    obtain ⟨u0, u1, u2, u3, f2, k0, k1, k2, k3⟩ := trod_w4 hW hWc huc hu e2
    obtain ⟨v0, v1, v2, v3, f3, l0, l1, l2, l3⟩ := trod_w4 hW hWc huc hu e3
    obtain ⟨w0, w1, w2, w3, f4, m0, m1, m2, m3⟩ := trod_w4 hW hWc huc hu e4
    obtain ⟨x5, f5, g5⟩ := trod_u64 hI e5
    obtain ⟨x6, f6, g6⟩ := trod_u64 hI e6
    obtain ⟨x7, f7, g7⟩ := trod_u64 hI e7
    obtain rfl : c0 = uV x0 := by simpa using f0
    obtain rfl : c1 = uV x1 := by simpa using f1
    obtain ⟨rfl, rfl, rfl, rfl⟩ : c2 = uV u0 ∧ c3 = uV u1 ∧ c4 = uV u2 ∧ c5 = uV u3 := by simpa using f2
    obtain ⟨rfl, rfl, rfl, rfl⟩ : c6 = uV v0 ∧ c7 = uV v1 ∧ c8 = uV v2 ∧ c9 = uV v3 := by simpa using f3
    obtain ⟨rfl, rfl, rfl, rfl⟩ : c10 = uV w0 ∧ c11 = uV w1 ∧ c12 = uV w2 ∧ c13 = uV w3 := by simpa using f4
    obtain rfl : c14 = uV x5 := by simpa using f5
    obtain rfl : c15 = uV x6 := by simpa using f6
    obtain rfl : c16 = uV x7 := by simpa using f7
    exact ⟨⟨x0, x1, ⟨u0, u1, u2, u3⟩, ⟨v0, v1, v2, v3⟩, ⟨w0, w1, w2, w3⟩, x5, x6, x7⟩, okWide_vals ha hval hcs, ⟨g0, g1, ⟨k0, k1, k2, k3⟩, ⟨l0, l1, l2, l3⟩, ⟨m0, m1, m2, m3⟩, g5, g6, g7⟩⟩
end
end Go.SL
/-! ### Layouts in plain Lean -/
namespace Go.SL
set_option linter.all false
open Go Go.RowKit Go.Shelf
theorem be_unf {l : List Nat} (hl : WOk l) : unfW (beD l 32) = l := by
  have : unfW (beD l 32) = stW (dg l) 32 := stW_congr fun i hi => by
    have h := beD_get l (n := 32) (m := 31 - i) (by omega)
    have e : 32 - 1 - (31 - i) = i := by omega
    rw [e] at h
    rw [List.getD_eq_getElem?_getD, h, Option.getD_some, UInt8.toNat_ofNat', Nat.mod_eq_of_lt (dg_lt l i)]
  rw [this, st_dg hl]
def bW (w : W4) : BS := beD w.l 32
def uW (s : BS) : W4 := W4.of (unfR s).1
theorem unfR_wok (s : BS) : WOk (unfR s).1 := by
  unfold unfR; split
  · exact unfW_ok _
  · exact zW_ok
theorem uW_l (s : BS) : (uW s).l = (unfR s).1 := W4.of_l (unfR_wok s).1
theorem uW_ok (s : BS) : (uW s).ok := W4.ok_of (unfR_wok s)
theorem uW_b {w : W4} (h : w.ok) : uW (bW w) = w := by
  apply W4.l_inj
  rw [uW_l]
  unfold unfR bW
  rw [if_pos (beD_len _ _)]
  exact be_unf h.wok
theorem bW_inj {x y : W4} (hx : x.ok) (hy : y.ok) (h : bW x = bW y) : x = y := by rw [← uW_b hx, h, uW_b hy]
theorem none_b : noneB = bW w40 := by decide +kernel
def wN1 (n : Nat) : W4 := ⟨n, 0, 0, 0⟩
theorem wN1_ok {n : Nat} (h : U64 n) : (wN1 n).ok := ⟨h, u64_0, u64_0, u64_0⟩
def keyE (n : Nat) : BS := bW (wN1 n)
theorem keyE_inj {n m : Nat} (hn : U64 n) (hm : U64 m) (h : keyE n = keyE m) : n = m := by
  have := bW_inj (wN1_ok hn) (wN1_ok hm) h
  simpa [wN1] using this
/-! the table -/
def keyN : Nat → Nat
  | 0 => 0
  | 1 => 1
  | 2 => 5
  | 3 => 6
  | 4 => 3
  | 5 => 7
  | _ => 8
def hasE (f : Int) : Nat → Bool
  | 0 => true
  | 1 => true
  | 2 => decide (f ≤ 2)
  | 3 => decide (f ≤ 2)
  | 4 => decide (f ≥ 3)
  | 5 => decide (f ≥ 3)
  | _ => decide (f = 5)
def holdsE (r : Rec) : Nat → W4
  | 0 => ⟨r.number, r.time, 0, 0⟩
  | 1 => r.base
  | 2 => r.overhead
  | 3 => ⟨r.scalar, 0, 0, 0⟩
  | 4 => ⟨r.scalar, r.extra, 0, 0⟩
  | 5 => r.blob
  | _ => ⟨r.operator, 0, 0, 0⟩
def takeE (r : Rec) (w : W4) : Nat → Rec
  | 0 => { r with number := w.a, time := w.b }
  | 1 => { r with base := w }
  | 2 => { r with overhead := w }
  | 3 => { r with scalar := w.a }
  | 4 => { r with scalar := w.a, extra := w.b }
  | 5 => { r with blob := w }
  | _ => { r with operator := w.a }
theorem holds_ok {r : Rec} (h : r.ok) (i : Nat) : (holdsE r i).ok := by
  unfold holdsE
  split
  · exact ⟨h.number, h.time, u64_0, u64_0⟩
  · exact h.base
  · exact h.overhead
  · exact ⟨h.scalar, u64_0, u64_0, u64_0⟩
  · exact ⟨h.scalar, h.extra, u64_0, u64_0⟩
  · exact h.blob
  · exact ⟨h.operator, u64_0, u64_0, u64_0⟩
theorem take_ok {r : Rec} {w : W4} (h : r.ok) (hw : w.ok) (i : Nat) : (takeE r w i).ok := by
  obtain ⟨h1, h2, h3, h4, h5, h6, h7, h8⟩ := h
  unfold takeE
  split
  · exact ⟨hw.a, hw.b, h3, h4, h5, h6, h7, h8⟩
  · exact ⟨h1, h2, hw, h4, h5, h6, h7, h8⟩
  · exact ⟨h1, h2, h3, h4, hw, h6, h7, h8⟩
  · exact ⟨h1, h2, h3, h4, h5, hw.a, h7, h8⟩
  · exact ⟨h1, h2, h3, h4, h5, hw.a, hw.b, h8⟩
  · exact ⟨h1, h2, h3, hw, h5, h6, h7, h8⟩
  · exact ⟨h1, h2, h3, h4, h5, h6, h7, hw.a⟩
def foldE (f : Int) (g : Nat → W4) : List Nat → Rec → Rec
  | [], out => out
  | i :: l, out => foldE f g l (if hasE f i then takeE out (g i) i else out)
def tab : List Nat := [0, 1, 2, 3, 4, 5, 6]
def keptE (f : Int) (r : Rec) : Rec := foldE f (holdsE r) tab rec0
def readE (f : Int) (a : AcE) : Rec := foldE f (fun i => uW (slotE a (keyE (keyN i)))) tab rec0
theorem fold_ok {f : Int} {g : Nat → W4} (hg : ∀ i, (g i).ok) : ∀ (l : List Nat) {out : Rec}, out.ok → (foldE f g l out).ok
  | [], _, h => h
  | i :: l, out, h => by
    unfold foldE
    refine fold_ok hg l ?_
    split
    · exact take_ok h (hg i) i
    · exact h
theorem read_ok (f : Int) (a : AcE) : (readE f a).ok := fold_ok (fun _ => uW_ok _) tab rec0_ok
def Forked (f : Int) : Prop := 0 ≤ f ∧ f ≤ 5
instance (f : Int) : Decidable (Forked f) := inferInstanceAs (Decidable (_ ∧ _))
theorem forked_cases {f : Int} (h : Forked f) : f = 0 ∨ f = 1 ∨ f = 2 ∨ f = 3 ∨ f = 4 ∨ f = 5 := by unfold Forked at h; omega
def fitsB (f : Int) (r : Rec) : Bool := !((decide (f ≥ 3) && decide (r.overhead ≠ w40)) || (decide (f < 3) && (decide (r.extra ≠ 0) || decide (r.blob ≠ w40))) || (decide (f < 5) && decide (r.operator ≠ 0)))
def fitsE (f : Int) (r : Rec) : Int := if ¬ Forked f then 10 else if fitsB f r then 0 else 2
theorem kept_iff {f : Int} {r : Rec} (h : Forked f) : keptE f r = r ↔ fitsB f r = true := by
  obtain ⟨n, t, b, l, o, s, e, p⟩ := r
  rcases forked_cases h with rfl | rfl | rfl | rfl | rfl | rfl <;>
    (simp [keptE, foldE, tab, hasE, takeE, holdsE, fitsB, rec0]; try (constructor <;> (intro h; simp_all <;> omega)))
/-! codes, addresses -/
def addrE (which : Int) : BS := if which < 0 ∨ which > 1 then [] else 66 :: (List.replicate 18 0 ++ [UInt8.ofNat (1 + which).toNat])
def cOne : BS := [111, 110, 101]
def cTwo : BS := [116, 119, 111]
def cThree : BS := [116, 104, 114, 101, 101]
def cFive : BS := [102, 105, 118, 101]
def cFee : BS := [102, 101, 101]
def codeE (f which : Int) : BS × Bool := if which = 1 then (if f ≥ 2 then (cFee, true) else ([], false)) else if f = 0 then (cOne, true) else if f ≤ 2 then (cTwo, true) else if f ≤ 4 then (cThree, true) else (cFive, true)
def codeR (f which : Int) : BS × Bool × Int := if ¬ Forked f then ([], false, 10) else if which < 0 ∨ which > 1 then ([], false, 1) else ((codeE f which).1, (codeE f which).2, 0)
def A0 : BS := addrE 0
def A1 : BS := addrE 1
theorem A01 : A0 ≠ A1 := by decide +kernel
theorem code0 (f : Int) : (codeE f 0).2 = true := by unfold codeE; rw [if_neg (by decide)]; (repeat' split) <;> rfl
theorem code_len (f which : Int) : (codeE f which).1.length ≤ 512 := by unfold codeE; (repeat' split) <;> decide
/-! ### Setting -/
theorem with_sorted {l : List (BS × BS)} {k v : BS} (h : Sorted Prod.fst l) : Sorted Prod.fst (withE l k v) := by
  unfold withE; split
  · exact del_sorted h
  · exact ins_sorted h
theorem with_look {l : List (BS × BS)} {k v j : BS} (h : Sorted Prod.fst l) : lookL Prod.fst j (withE l k v) = if k = j then (if v = noneB then none else some (k, v)) else lookL Prod.fst j l := by
  unfold withE
  by_cases hv : v = noneB
  · rw [if_pos hv, if_pos hv, del_look]
  · rw [if_neg hv, if_neg hv, ins_look h]
theorem with_mem {l : List (BS × BS)} {k v : BS} {x : BS × BS} (h : x ∈ withE l k v) : (x = (k, v) ∧ v ≠ noneB) ∨ x ∈ l := by
  unfold withE at h
  split at h
  · exact .inr (del_mem h)
  · rename_i hv; exact (ins_mem h).imp (fun h => ⟨h, hv⟩) id
theorem set_ok {a : AcE} {k v : BS} (h : (setE a k v).2 = 0) : lkE a = 0 ∧ k.length = 32 ∧ v.length = 32 ∧ (withE a.slots k v).length ≤ 16 ∧ setE a k v = ({ a with slots := withE a.slots k v }, 0) := by
  unfold setE at h ⊢
  split at h
  · rename_i h1; exact absurd h h1
  rename_i h1
  split at h
  · cases h
  rename_i h2
  split at h
  · cases h
  rename_i h3
  rw [if_neg h1, if_neg h2, if_neg h3]
  exact ⟨Decidable.not_not.1 h1, by omega, by omega, by omega, rfl⟩
theorem set_of {a : AcE} {k v : BS} (h1 : lkE a = 0) (h2 : k.length = 32) (h3 : v.length = 32) (h4 : (withE a.slots k v).length ≤ 16) : setE a k v = ({ a with slots := withE a.slots k v }, 0) := by
  unfold setE
  rw [if_neg (by omega), if_neg (by omega), if_neg (by omega)]
theorem with_lk {a : AcE} {k v : BS} (h1 : lkE a = 0) (h2 : k.length = 32) (h3 : v.length = 32) (h4 : (withE a.slots k v).length ≤ 16) : lkE { a with slots := withE a.slots k v } = 0 := by
  obtain ⟨g1, g2, g3, g4, g5⟩ := look_ok h1
  refine look_of g1 (fun x hx => ?_) (with_sorted g3) g4 h4
  rcases with_mem hx with ⟨rfl, hv⟩ | hx
  · exact ⟨h2, h3, hv⟩
  · exact g2 x hx
theorem slot_with {a : AcE} {k v j : BS} (h : Sorted Prod.fst a.slots) : slotE { a with slots := withE a.slots k v } j = if k = j then v else slotE a j := by
  unfold slotE
  simp only
  rw [with_look h]
  by_cases hk : k = j
  · rw [if_pos hk, if_pos hk]
    by_cases hv : v = noneB
    · rw [if_pos hv]; exact hv.symm
    · rw [if_neg hv]
  · rw [if_neg hk, if_neg hk]
def setRows : AcE → List (BS × BS) → AcE × Int
  | a, [] => (a, 0)
  | a, x :: l => if (setE a x.1 x.2).2 ≠ 0 then setE a x.1 x.2 else setRows (setE a x.1 x.2).1 l
structure RowsOk (a b : AcE) (l : List (BS × BS)) : Prop where
  lk : lkE b = 0
  addr : b.addr = a.addr
  nonce : b.nonce = a.nonce
  bal : b.bal = a.bal
  code : b.code = a.code
  at_ : ∀ x ∈ l, slotE b x.1 = x.2
  off : ∀ k, (∀ x ∈ l, x.1 ≠ k) → slotE b k = slotE a k
theorem rows_ok : ∀ {l : List (BS × BS)} {a : AcE}, (setRows a l).2 = 0 → lkE a = 0 → (l.Pairwise fun x y => x.1 ≠ y.1) → RowsOk a (setRows a l).1 l
  | [], a, _, h, _ => ⟨h, rfl, rfl, rfl, rfl, by simp, fun _ _ => rfl⟩
  | x :: l, a, h, hl, hd => by
    unfold setRows at h ⊢
    split at h
    · rename_i h1; exact absurd h h1
    rename_i h1
    rw [if_neg h1]
    obtain ⟨g1, g2, g3, g4, g5⟩ := set_ok (Decidable.not_not.1 h1)
    rw [g5] at h ⊢
    obtain ⟨d1, d2⟩ := List.pairwise_cons.1 hd
    have hs := (look_ok hl).2.2.1
    obtain ⟨i1, i2, i3, i4, i5, i6, i7⟩ := rows_ok h (with_lk g1 g2 g3 g4) d2
    refine ⟨i1, i2, i3, i4, i5, fun y hy => ?_, fun k hk => ?_⟩
    · rcases List.mem_cons.1 hy with rfl | hy
      · rw [i7 _ fun z hz => (d1 z hz).symm, slot_with hs, if_pos rfl]
      · exact i6 y hy
    · rw [i7 _ fun z hz => hk z (List.mem_cons_of_mem _ hz), slot_with hs, if_neg (hk x List.mem_cons_self)]
theorem slot_mem {a : AcE} (h : lkE a = 0) {x : BS × BS} (hx : x ∈ a.slots) : slotE a x.1 = x.2 ∧ x.2 ≠ noneB := by
  obtain ⟨_, g2, g3, _⟩ := look_ok h
  unfold slotE
  rw [lookL_mem g3 hx]
  exact ⟨rfl, (g2 x hx).2.2⟩
theorem mem_slot {a : AcE} {k : BS} (h : slotE a k ≠ noneB) : (k, slotE a k) ∈ a.slots := by
  unfold slotE at h ⊢
  cases hl : lookL Prod.fst k a.slots with
  | none => rw [hl] at h; exact absurd rfl h
  | some x =>
    obtain ⟨h1, h2⟩ := lookL_key hl
    simp only
    rw [← h1]; exact h2
theorem sub_len {α : Type} {kf : α → BS} : ∀ {m l : List α}, Sorted kf m → Sorted kf l → (∀ y ∈ l, y ∈ m) → l.length ≤ m.length
  | [], [], _, _, _ => Nat.le_refl _
  | [], y :: l, _, _, h => absurd (h y List.mem_cons_self) (by simp)
  | z :: m, [], _, _, _ => Nat.zero_le _
  | z :: m, y :: l, hm, hl, h => by
    obtain ⟨m1, m2⟩ := List.pairwise_cons.1 hm
    obtain ⟨l1, l2⟩ := List.pairwise_cons.1 hl
    rcases List.mem_cons.1 (h y List.mem_cons_self) with e | hy
    · rw [e] at l1
      have := sub_len (m := m) (l := l) m2 l2 fun x hx => by
        rcases List.mem_cons.1 (h x (List.mem_cons_of_mem _ hx)) with rfl | hx2
        · have := l1 _ hx; rw [bl_irr] at this; cases this
        · exact hx2
      simp only [List.length_cons]; omega
    · have := sub_len (m := m) (l := y :: l) m2 hl fun x hx => by
        rcases List.mem_cons.1 (h x hx) with rfl | hx2
        · have a1 := m1 y hy
          rcases List.mem_cons.1 hx with rfl | hx3
          · rw [bl_irr] at a1; cases a1
          · have := bl_trans a1 (l1 _ hx3); rw [bl_irr] at this; cases this
        · exact hx2
      simp only [List.length_cons] at this ⊢; omega
/-- What stands, or will stand, may be set. -/
theorem fill {a : AcE} (ha : lkE a = 0) : ∀ (l : List (BS × BS)) (x : AcE), lkE x = 0 → (∀ k, slotE x k = slotE a k ∨ slotE x k = noneB) → (∀ p ∈ l, p.1.length = 32 ∧ p.2.length = 32 ∧ (p.2 = slotE a p.1 ∨ p.2 = noneB)) → (setRows x l).2 = 0
  | [], _, _, _, _ => rfl
  | p :: l, x, hx, hs, hp => by
    obtain ⟨p1, p2, p3⟩ := hp p List.mem_cons_self
    have hsx := (look_ok hx).2.2.1
    have hlen : (withE x.slots p.1 p.2).length ≤ 16 := by
      refine Nat.le_trans (sub_len (kf := Prod.fst) (look_ok ha).2.2.1 (with_sorted hsx) fun y hy => ?_) (look_ok ha).2.2.2.2
      have hne : y.2 ≠ noneB ∧ y.2 = slotE a y.1 := by
        rcases with_mem hy with ⟨rfl, hv⟩ | hy
        · exact ⟨hv, p3.resolve_right hv⟩
        · obtain ⟨e1, e2⟩ := slot_mem hx hy
          refine ⟨e2, ?_⟩
          rcases hs y.1 with h | h
          · rw [← e1, h]
          · rw [← e1] at e2; exact absurd h e2
      have h3 := mem_slot (a := a) (k := y.1) (by rw [← hne.2]; exact hne.1)
      rw [← hne.2] at h3
      exact h3
    unfold setRows
    rw [set_of hx p1 p2 hlen, if_neg (by simp)]
    refine fill ha l _ (with_lk hx p1 p2 hlen) (fun k => ?_) fun q hq => hp q (List.mem_cons_of_mem _ hq)
    rw [slot_with hsx]
    split
    · rename_i e; subst e; exact p3
    · exact hs k
theorem find_ok {s : List AcE} (hs : chkS s = 0) {k : BS} {a : AcE} (h : findS s k = some a) : a.addr = k ∧ lkE a = 0 := by
  obtain ⟨h1, h2⟩ := lookL_key h
  exact ⟨h1, (chk_ok.1 hs).2.1 a h2⟩
theorem put_ok {s : List AcE} {a : AcE} (h : (putS s a).2 = 0) : chkS s = 0 ∧ lkE a = 0 ∧ putS s a = (insL AcE.addr a s, 0) ∧ chkS (insL AcE.addr a s) = 0 ∧ ∀ k, findS (insL AcE.addr a s) k = if a.addr = k then some a else findS s k := by
  unfold putS at h ⊢
  split at h
  · rename_i h1; exact absurd h h1
  rename_i h1
  split at h
  · rename_i h2; exact absurd h h2
  rename_i h2
  split at h
  · cases h
  rename_i h3
  rw [if_neg h1, if_neg h2, if_neg h3]
  have h1 := Decidable.not_not.1 h1
  have h2 := Decidable.not_not.1 h2
  obtain ⟨c1, c2, c3⟩ := chk_ok.1 h1
  refine ⟨h1, h2, rfl, chk_ok.2 ⟨by omega, fun x hx => ?_, ins_sorted c3⟩, fun k => ins_look c3⟩
  rcases ins_mem hx with rfl | hx
  · exact h2
  · exact c2 x hx
/-! ### Writing, reading, what is left -/
def rowW (f : Int) (r : Rec) (i : Nat) : BS × BS := (keyE (keyN i), if hasE f i then bW (holdsE r i) else noneB)
def rowsW (f : Int) (r : Rec) : List (BS × BS) := tab.map (rowW f r)
def Tabled (k : BS) : Prop := ∃ i ∈ tab, keyE (keyN i) = k
def codedE (f which : Int) (a : AcE) (r : Rec) : AcE × Int := if which = 1 then ({ a with code := (codeE f 1).1 }, 0) else setRows { a with code := (codeE f which).1 } (rowsW f r)
def oldE (t : List AcE) (which : Int) : AcE := { (findS t (addrE which)).getD ac0 with addr := addrE which }
def changeL (f : Int) (s0 : List AcE) (go : Int → AcE → AcE × Int) : List Int → List AcE → List AcE × Int
  | [], t => (t, 0)
  | w :: ws, t => if (codeE f w).2 = false then changeL f s0 go ws t else
      if (go w (oldE t w)).2 ≠ 0 then (s0, (go w (oldE t w)).2) else if (putS t (go w (oldE t w)).1).2 ≠ 0 then (s0, (putS t (go w (oldE t w)).1).2) else changeL f s0 go ws (putS t (go w (oldE t w)).1).1
def changeE (f : Int) (s : List AcE) (go : Int → AcE → AcE × Int) : List AcE × Int := changeL f s go [0, 1] s
def writeE (f : Int) (s : List AcE) (r : Rec) : List AcE × Int := if fitsE f r ≠ 0 then (s, fitsE f r) else if chkS s ≠ 0 then (s, chkS s) else changeE f s fun w a => codedE f w a r
def wrongE (f : Int) (s : List AcE) (w : Int) : Bool := (codeE f w).2 && decide (((findS s (addrE w)).getD ac0).code ≠ (codeE f w).1)
def lackE (f : Int) (s : List AcE) (w : Int) : Bool := (codeE f w).2 && (findS s (addrE w)).isNone
def tableB (f : Int) (a : AcE) (r : Rec) : List Nat → Bool
  | [] => true
  | i :: l => decide (slotE a (keyE (keyN i)) = (rowW f r i).2) && tableB f a r l
def checkE (f : Int) (s : List AcE) : Int := if ¬ Forked f then 10 else if chkS s ≠ 0 then chkS s else if lackE f s 0 || lackE f s 1 then 12 else if wrongE f s 0 || wrongE f s 1 then 2 else
  if tableB f ((findS s A0).getD ac0) (readE f ((findS s A0).getD ac0)) tab then 0 else 8
def readS (f : Int) (s : List AcE) : Rec × Int := if checkE f s ≠ 0 then (rec0, checkE f s) else (readE f ((findS s A0).getD ac0), 0)
theorem tab_lt {i : Nat} (h : i ∈ tab) : i < 7 := by simp [tab] at h; omega
theorem keyN_u (i : Nat) : U64 (keyN i) := by unfold U64 keyN; (repeat' split) <;> omega
theorem rowsW_d (f : Int) (r : Rec) : (rowsW f r).Pairwise fun x y => x.1 ≠ y.1 := by
  unfold rowsW
  rw [List.pairwise_map]
  have : tab.Pairwise (fun i j => keyN i ≠ keyN j) := by decide
  refine this.imp fun h e => h (keyE_inj (keyN_u _) (keyN_u _) e)
theorem rowsW_off {f : Int} {r : Rec} {k : BS} (h : ¬ Tabled k) : ∀ x ∈ rowsW f r, x.1 ≠ k := fun x hx e => by
  obtain ⟨i, hi, rfl⟩ := List.mem_map.1 hx
  exact h ⟨i, hi, e⟩
theorem table_iff {f : Int} {a : AcE} {r : Rec} : ∀ {l : List Nat}, tableB f a r l = true ↔ ∀ i ∈ l, slotE a (keyE (keyN i)) = (rowW f r i).2
  | [] => by simp [tableB]
  | i :: l => by rw [tableB, Bool.and_eq_true, decide_eq_true_eq, table_iff]; simp
theorem old_lk {s : List AcE} (hs : chkS s = 0) {w : Int} (hw : (addrE w).length = 20) {c : BS} (hc : c.length ≤ 512) : lkE { oldE s w with code := c } = 0 := by
  unfold oldE
  cases h : findS s (addrE w) with
  | none => exact look_of hw (by simp [ac0]) (by simp [ac0]) hc (by simp [ac0])
  | some a =>
    obtain ⟨g1, g2, g3, g4, g5⟩ := look_ok (find_ok hs h).2
    exact look_of hw g2 g3 hc g5
theorem old_some {s : List AcE} (hs : chkS s = 0) {w : Int} {a : AcE} (h : findS s (addrE w) = some a) : oldE s w = a := by
  unfold oldE
  rw [h]
  obtain ⟨h1, _⟩ := find_ok hs h
  cases a
  simp only at h1
  simp [h1]
theorem old_congr {s t : List AcE} (h : findS s A1 = findS t A1) : oldE s 1 = oldE t 1 := by unfold oldE; rw [show addrE 1 = A1 from rfl, h]
/-- What a change comes to. -/
theorem change_ok {f : Int} {s t : List AcE} {go : Int → AcE → AcE × Int} (h : changeE f s go = (t, 0)) (hs : chkS s = 0) (h0 : (codeE f 0).2 = true) (ha : ∀ w a, (go w a).2 = 0 → (go w a).1.addr = a.addr) :
    ∃ b0, go 0 (oldE s 0) = (b0, 0) ∧ chkS t = 0 ∧ findS t A0 = some b0 ∧ (∀ k, k ≠ A0 → k ≠ A1 → findS t k = findS s k) ∧
      (if (codeE f 1).2 = true then ∃ b1, go 1 (oldE s 1) = (b1, 0) ∧ findS t A1 = some b1 else findS t A1 = findS s A1) := by
  unfold changeE changeL at h
  rw [if_neg (by rw [h0]; simp)] at h
  split at h
  · rename_i h1; exact absurd (Prod.mk.inj h).2 h1
  rename_i h1
  split at h
  · rename_i h2; exact absurd (Prod.mk.inj h).2 h2
  rename_i h2
  have h1 := Decidable.not_not.1 h1
  obtain ⟨p1, p2, p3, p4, p5⟩ := put_ok (Decidable.not_not.1 h2)
  rw [p3] at h
  have e0 := ha 0 (oldE s 0) h1
  have e0' : (go 0 (oldE s 0)).1.addr = A0 := e0
  rw [e0'] at p5
  have hold1 : oldE (insL AcE.addr (go 0 (oldE s 0)).1 s) 1 = oldE s 1 := by
    exact old_congr (by rw [p5, if_neg A01])
  refine ⟨(go 0 (oldE s 0)).1, Prod.ext rfl h1, ?_⟩
  unfold changeL at h
  split at h
  · rename_i h3
    unfold changeL at h
    obtain ⟨rfl, _⟩ := Prod.mk.inj h
    refine ⟨p4, by rw [p5, if_pos rfl], fun k k0 k1 => by rw [p5, if_neg (Ne.symm k0)], ?_⟩
    rw [if_neg (by rw [h3]; simp), p5, if_neg A01]
  · rename_i h3
    rw [hold1] at h
    split at h
    · rename_i h4; exact absurd (Prod.mk.inj h).2 h4
    rename_i h4
    split at h
    · rename_i h5; exact absurd (Prod.mk.inj h).2 h5
    rename_i h5
    have h4 := Decidable.not_not.1 h4
    obtain ⟨q1, q2, q3, q4, q5⟩ := put_ok (Decidable.not_not.1 h5)
    rw [q3] at h
    unfold changeL at h
    obtain ⟨rfl, _⟩ := Prod.mk.inj h
    have e1' : (go 1 (oldE s 1)).1.addr = A1 := ha 1 (oldE s 1) h4
    rw [e1'] at q5
    refine ⟨q4, by rw [q5, if_neg (Ne.symm A01), p5, if_pos rfl], fun k k0 k1 => by rw [q5, if_neg (Ne.symm k1), p5, if_neg (Ne.symm k0)], ?_⟩
    rw [if_pos (by simpa using h3)]
    exact ⟨_, Prod.ext rfl h4, by rw [q5, if_pos rfl]⟩
theorem rows_addr : ∀ (l : List (BS × BS)) (a : AcE), (setRows a l).1.addr = a.addr
  | [], _ => rfl
  | x :: l, a => by
    unfold setRows
    have e : (setE a x.1 x.2).1.addr = a.addr := by unfold setE; (repeat' split) <;> rfl
    split
    · exact e
    · rw [rows_addr l, e]
theorem coded_addr {f : Int} {r : Rec} (w : Int) (a : AcE) : (codedE f w a r).1.addr = a.addr := by
  unfold codedE; split
  · rfl
  · rw [rows_addr]
theorem fits_ok {f : Int} {r : Rec} (h : fitsE f r = 0) : Forked f ∧ fitsB f r = true := by
  unfold fitsE at h
  split at h
  · cases h
  · rename_i h1
    split at h
    · rename_i h2; exact ⟨Decidable.not_not.1 h1, h2⟩
    · cases h
theorem fits_of {f : Int} {r : Rec} (h1 : Forked f) (h2 : fitsB f r = true) : fitsE f r = 0 := by
  unfold fitsE; rw [if_neg (by simpa using h1), if_pos h2]
structure Wrote (f : Int) (s t : List AcE) (r : Rec) : Prop where
  forked : Forked f
  fits : fitsB f r = true
  old : chkS s = 0
  new : chkS t = 0
  acct : ∃ b0, findS t A0 = some b0 ∧ lkE b0 = 0 ∧ b0.addr = A0 ∧ b0.nonce = (oldE s 0).nonce ∧ b0.bal = (oldE s 0).bal ∧ b0.code = (codeE f 0).1 ∧ (∀ i ∈ tab, slotE b0 (keyE (keyN i)) = (rowW f r i).2) ∧ ∀ k, ¬ Tabled k → slotE b0 k = slotE (oldE s 0) k
  others : ∀ k, k ≠ A0 → k ≠ A1 → findS t k = findS s k
  fee : if (codeE f 1).2 = true then findS t A1 = some { oldE s 1 with code := (codeE f 1).1 } else findS t A1 = findS s A1
theorem wrote {f : Int} {s t : List AcE} {r : Rec} (h : writeE f s r = (t, 0)) : Wrote f s t r := by
  unfold writeE at h
  split at h
  · rename_i h1; exact absurd (Prod.mk.inj h).2 h1
  rename_i h1
  split at h
  · rename_i h2; exact absurd (Prod.mk.inj h).2 h2
  rename_i h2
  have h2 := Decidable.not_not.1 h2
  obtain ⟨g1, g2⟩ := fits_ok (Decidable.not_not.1 h1)
  obtain ⟨b0, c1, c2, c3, c4, c5⟩ := change_ok h h2 (code0 f) fun w a _ => coded_addr w a
  refine ⟨g1, g2, h2, c2, ⟨b0, c3, ?_⟩, c4, ?_⟩
  · unfold codedE at c1
    rw [if_neg (by decide)] at c1
    have hl := old_lk h2 (w := 0) rfl (code_len f 0)
    have hr := rows_ok (l := rowsW f r) (a := { oldE s 0 with code := (codeE f 0).1 }) (by rw [c1]) hl (rowsW_d f r)
    rw [c1] at hr
    obtain ⟨r1, r2, r3, r4, r5, r6, r7⟩ := hr
    exact ⟨r1, r2, r3, r4, r5, fun i hi => r6 (rowW f r i) (List.mem_map.2 ⟨i, hi, rfl⟩), fun k hk => r7 k (rowsW_off hk)⟩
  · split
    · rename_i hf
      rw [if_pos hf] at c5
      obtain ⟨b1, e1, e2⟩ := c5
      unfold codedE at e1
      rw [if_pos rfl] at e1
      rw [e2, ← (Prod.mk.inj e1).1]
    · rename_i hf
      rw [if_neg hf] at c5
      exact c5
end Go.SL
/-! ### The laws of layouts and of migrations, in plain Lean -/
namespace Go.SL
set_option linter.all false
open Go Go.RowKit Go.Shelf
def acct0 (s : List AcE) (k : BS) : AcE := (findS s k).getD ac0
theorem fold_congr {f : Int} {g g' : Nat → W4} : ∀ {l : List Nat} {out : Rec}, (∀ i ∈ l, hasE f i = true → g i = g' i) → foldE f g l out = foldE f g' l out
  | [], _, _ => rfl
  | i :: l, out, h => by
    unfold foldE
    have e : (if hasE f i then takeE out (g i) i else out) = if hasE f i then takeE out (g' i) i else out := by
      by_cases hi : hasE f i = true
      · rw [if_pos hi, if_pos hi, h i List.mem_cons_self hi]
      · rw [if_neg hi, if_neg hi]
    rw [e]
    exact fold_congr fun j hj => h j (List.mem_cons_of_mem _ hj)
theorem read_back {f : Int} {a : AcE} {r : Rec} (hf : Forked f) (hr : r.ok) (hb : fitsB f r = true) (h : ∀ i ∈ tab, slotE a (keyE (keyN i)) = (rowW f r i).2) : readE f a = r := by
  have e : readE f a = keptE f r := fold_congr fun i hi hh => by
    rw [h i hi]
    unfold rowW
    simp only
    rw [if_pos hh]
    exact uW_b (holds_ok hr i)
  rw [e]
  exact (kept_iff hf).2 hb
structure Checked (f : Int) (s : List AcE) (a : AcE) : Prop where
  forked : Forked f
  st : chkS s = 0
  at0 : findS s A0 = some a
  code : a.code = (codeE f 0).1
  rows : ∀ i ∈ tab, slotE a (keyE (keyN i)) = (rowW f (readE f a) i).2
  fee : (codeE f 1).2 = true → ∃ b, findS s A1 = some b ∧ b.code = (codeE f 1).1
theorem check_ok {f : Int} {s : List AcE} : checkE f s = 0 ↔ ∃ a, Checked f s a := by
  unfold checkE
  constructor
  · intro h
    split at h
    · cases h
    rename_i h1
    split at h
    · rename_i h2; exact absurd h h2
    rename_i h2
    split at h
    · cases h
    rename_i h3
    split at h
    · cases h
    rename_i h4
    split at h
    · rename_i h5
      simp only [lackE, wrongE, code0, Bool.true_and, Bool.or_eq_true, not_or, Bool.not_eq_true, Bool.and_eq_false_iff, decide_eq_false_iff_not, Decidable.not_not] at h3 h4
      have ha : ∃ a, findS s A0 = some a := by
        have := h3.1
        cases hx : findS s (addrE 0) with
        | none => rw [hx] at this; cases this
        | some a => exact ⟨a, hx⟩
      obtain ⟨a, ha⟩ := ha
      have e : (findS s A0).getD ac0 = a := by rw [ha]; rfl
      rw [e] at h5
      refine ⟨a, Decidable.not_not.1 h1, Decidable.not_not.1 h2, ha, ?_, table_iff.1 h5, fun hf => ?_⟩
      · have := h4.1
        rw [show addrE 0 = A0 from rfl, e] at this
        exact this
      · rcases h3.2 with h | h
        · rw [hf] at h; cases h
        rcases h4.2 with h' | h'
        · rw [hf] at h'; cases h'
        cases hx : findS s (addrE 1) with
        | none => rw [hx] at h; cases h
        | some b => rw [hx] at h'; exact ⟨b, hx, h'⟩
    · cases h
  · rintro ⟨a, h1, h2, h3, h4, h5, h6⟩
    have h3' : findS s (addrE 0) = some a := h3
    have e : (findS s A0).getD ac0 = a := by rw [h3]; rfl
    have hl : (lackE f s 0 || lackE f s 1) = false := by
      unfold lackE
      rw [h3']
      cases hc : (codeE f 1).2
      · simp
      · obtain ⟨b, hb, _⟩ := h6 hc
        rw [show addrE 1 = A1 from rfl, hb]; simp
    have hw : (wrongE f s 0 || wrongE f s 1) = false := by
      unfold wrongE
      rw [h3']
      cases hc : (codeE f 1).2
      · simp [h4]
      · obtain ⟨b, hb, hb2⟩ := h6 hc
        rw [show addrE 1 = A1 from rfl, hb]; simp [h4, hb2]
    rw [if_neg (by simpa using h1), if_neg (by simpa using h2), hl, hw, e, if_pos (table_iff.2 h5)]
    simp
theorem Checked.read {f : Int} {s : List AcE} {a : AcE} (h : Checked f s a) : readS f s = (readE f a, 0) := by
  unfold readS
  rw [if_neg (by rw [check_ok.2 ⟨a, h⟩]; simp), h.at0]; rfl
/-- WHAT IS WRITTEN IS READ. -/
theorem Wrote.checked {f : Int} {s t : List AcE} {r : Rec} (h : Wrote f s t r) (hr : r.ok) : ∃ a, Checked f t a ∧ readE f a = r := by
  obtain ⟨h1, h2, h3, h4, ⟨b0, c1, c2, c3, c4, c5, c6, c7, c8⟩, h6, h7⟩ := h
  have e := read_back h1 hr h2 c7
  refine ⟨b0, ⟨h1, h4, c1, c6, by rw [e]; exact c7, fun hf => ?_⟩, e⟩
  rw [if_pos hf] at h7
  exact ⟨_, h7, rfl⟩
theorem back {f : Int} {s t : List AcE} {r : Rec} (hr : r.ok) (h : writeE f s r = (t, 0)) : checkE f t = 0 ∧ readS f t = (r, 0) ∧ fitsE f r = 0 := by
  have hw := wrote h
  obtain ⟨a, ha, he⟩ := hw.checked hr
  exact ⟨check_ok.2 ⟨a, ha⟩, by rw [ha.read, he], fits_of hw.forked hw.fits⟩
theorem Checked.lk {f : Int} {s : List AcE} {a : AcE} (h : Checked f s a) : lkE a = 0 := (find_ok h.st h.at0).2
theorem Checked.addr {f : Int} {s : List AcE} {a : AcE} (h : Checked f s a) : a.addr = A0 := (find_ok h.st h.at0).1
theorem Checked.old {f : Int} {s : List AcE} {a : AcE} (h : Checked f s a) : oldE s 0 = a := old_some h.st h.at0
/-- What stays. -/
structure Kept (s t : List AcE) : Prop where
  others : ∀ k, k ≠ A0 → k ≠ A1 → findS t k = findS s k
  there : ∀ k, (findS s k).isSome = true → (findS t k).isSome = true
  nonce : ∀ k, (acct0 t k).nonce = (acct0 s k).nonce
  bal : ∀ k, (acct0 t k).bal = (acct0 s k).bal
  slot : ∀ k j, (k = A0 → ¬ Tabled j) → slotE (acct0 t k) j = slotE (acct0 s k) j
theorem Kept.refl (s : List AcE) : Kept s s := ⟨fun _ _ _ => rfl, fun _ h => h, fun _ => rfl, fun _ => rfl, fun _ _ _ => rfl⟩
theorem Kept.trans {s t u : List AcE} (h : Kept s t) (k : Kept t u) : Kept s u :=
  ⟨fun x a b => (k.others x a b).trans (h.others x a b), fun x hx => k.there x (h.there x hx), fun x => (k.nonce x).trans (h.nonce x), fun x => (k.bal x).trans (h.bal x), fun x j hj => (k.slot x j hj).trans (h.slot x j hj)⟩
def Way (f g : Int) : Prop := 0 ≤ f ∧ f ≤ g ∧ g ≤ 5
instance (f g : Int) : Decidable (Way f g) := inferInstanceAs (Decidable (_ ∧ _))
end Go.SL
/-! ### Rules for rows of structs: parts of known rows, clones; places in rows that rise -/
namespace Go.SL
set_option linter.all false
open Go Go.RowKit Go.Shelf
open Go.Proofs (Enters enters_of)
def plS (sz a : Nat) : Pl → Pl
  | none => none
  | some (⟨b, o, s⟩, cap) => some (⟨b, if cap = a then o else o + a * sz, s⟩, cap - a)
theorem Seg.slice {R : List (Nat × Obj)} {n sz a b : Nat} {cs : List Value} {p : Pl} (h : Seg R n cs p) (hl : cs.length = n * sz) (hab : a < b) (hb : b ≤ n) : Seg R (b - a) ((cs.drop (a * sz)).take ((b - a) * sz)) (plS sz a p) := by
  cases p with
  | none => have h : n = 0 := h; omega
  | some q =>
    obtain ⟨⟨r, o, s⟩, cap⟩ := q
    obtain ⟨h1, h2⟩ := h
    obtain ⟨h3, all, e, fr, h4, h5⟩ := h2 (by omega)
    have hne : ¬ cap = a := by omega
    simp only [plS, if_neg hne]
    have hlen : ((cs.drop (a * sz)).take ((b - a) * sz)).length = (b - a) * sz := by
      rw [List.length_take, List.length_drop, hl, ← Nat.sub_mul]
      exact Nat.min_eq_left (Nat.mul_le_mul_right _ (by omega))
    refine ⟨by omega, fun _ => ⟨h3, all, e, fr, h4, ?_⟩⟩
    rw [hlen]
    exact take_sub h5 rfl hlen
section
variable {c : Cx} {l : List (Nat × Value)} {L : List (Nat × Obj)} {X : XP} {Q : Exit → Act → World → Prop} {d : List Deferred}
variable {ops : Array Oper} {rest : List Oper} {i : Nat} {v : Value} {t : TypeId} {ps : String} {af : Array Edge} {gd : Option (Nat × Bool)} {ty t2 : TypeId}
theorem R_slicePl {x lo hi : Operand} {p : Pl} {R : List (Nat × Obj)} {cs : List Value} {n e sz a b : Nat} {ka kb : IntKind} {za zb : Int} (hx : evl l x = some (plV n p)) (hs : Seg R n cs p) (hlo : evl l lo = some (.int ka za)) (hhi : evl l hi = some (.int kb zb)) (ea : za = (a : Int)) (eb : zb = (b : Int)) (ht : sliceOf c.P t = some e) (hz : szOf c.P e = some sz) (hab : a < b) (hb : b ≤ n) {m : Nat} (hm : b - a = m) :
    RunsTo c d l L X ⟨some i, .slice t x (some lo) (some hi) none, ty, ps, af, gd⟩ (plV m (plS sz a p)) := by
  subst ea eb hm
  cases p with
  | none => have h : n = 0 := hs; omega
  | some q =>
    obtain ⟨⟨r, o, s⟩, cap⟩ := q
    obtain ⟨h1, h2⟩ := hs
    have h3 : s = none := (h2 (by omega)).1
    subst h3
    exact R_sliceSl (kl := some a) (kh := some b) (km := none) hx ht hz ⟨_, hlo⟩ ⟨_, hhi⟩ trivial rfl rfl rfl (by omega) (by show b ≤ cap; omega) (Nat.le_refl _) (fun h => by cases h) rfl
theorem R_strGe {x y : Operand} {a b : List UInt8} (hx : evl l x = some (.string (bs a))) (hy : evl l y = some (.string (bs b))) :
    RunsTo c d l L X ⟨some i, .binOp .geq t x y t2, ty, ps, af, gd⟩ (.bool (!Op.bytesLess a b)) := fun a' w hf _ => by
  simp only [execOp]
  rw [hf.eval hx, hf.eval hy]
  simp only [binOp, eqGuard, Op.stringOp, Sem.run_bind, bs_toList]
  rfl
theorem R_strGt {x y : Operand} {a b : List UInt8} (hx : evl l x = some (.string (bs a))) (hy : evl l y = some (.string (bs b))) :
    RunsTo c d l L X ⟨some i, .binOp .gtr t x y t2, ty, ps, af, gd⟩ (.bool (Op.bytesLess b a)) := fun a' w hf _ => by
  simp only [execOp]
  rw [hf.eval hx, hf.eval hy]
  have e : (!(Op.bytesLess a b || decide (a = b))) = Op.bytesLess b a := by
    rcases bl_tri a b with h | h | h
    · subst h; rw [bl_irr]; simp
    · rw [h, bl_asym h]; simp
    · rw [h, bl_asym h]; simp [(bl_ne h).symm]
  rw [← e]
  have e2 : (a == b) = decide (a = b) := by by_cases h : a = b <;> simp [h]
  rw [← e2]
  simp only [binOp, eqGuard, Op.stringOp, Sem.run_bind, bs_toList]
  rfl
/-- 'append(s)' of nothing. -/
theorem HL_append0 {x y : Operand} {e sz n cap : Nat} {a : Option Addr} {r2 : Option Addr} {c2 : Nat} (hg : goes l ops ⟨some i, .call ⟨.builtin .append, #[x, y], #[t, t]⟩, ty, ps, af, gd⟩ = some true) (hi : Nat.ble (i + 1) c.n = true)
    (hx : evl l x = some (.slice a n cap)) (hy : evl l y = some (.slice r2 0 c2)) (ht : sliceOf c.P t = some e) (hs : szOf c.P e = some sz) (hle : n ≤ cap)
    (h : HL c d ((i, .slice a n cap) :: l) L X ops rest Q) : HL c d l L X ops (⟨some i, .call ⟨.builtin .append, #[x, y], #[t, t]⟩, ty, ps, af, gd⟩ :: rest) Q := by
  obtain ⟨inf, hinf, hs'⟩ : ∃ inf, c.P.info? e = some inf ∧ inf.size = sz := by
    unfold szOf at hs
    cases hq : c.P.info? e with
    | none => simp [hq] at hs
    | some inf => simp only [hq, Option.some.injEq] at hs; exact ⟨inf, rfl, hs⟩
  refine HL_r hg rfl rfl hi (fun a' w hf _ => ?_) h
  have ex := hf.eval hx
  have ey := hf.eval hy
  have hl : ∀ (q : Addr), (loadCells q 0).run c.P w = .ok #[] w := fun q => by simpa using run_loadCells_list (P := c.P) w q [] (by simp)
  cases r2 <;> cases a <;> simp [execOp, resolve, Sem.run_bind, ex, ey, Result.andThen, invoke, builtin, Builtin.append_, run_und (und_slice ht), sizeOf, typeInfo, hinf, Builtin.lenOf, hle, Builtin.firstCells, hl, storeCells]
theorem R_capSl {x : Operand} {p : Option Addr} {n cap : Nat} {e : TypeId} (hx : evl l x = some (.slice p n cap)) (ht : sliceOf c.P t = some e) :
    RunsTo c d l L X ⟨some i, .call ⟨.builtin .cap, #[x], #[t]⟩, ty, ps, af, gd⟩ (.int .i64 cap) := fun a w hf _ => by
  have ex := hf.eval hx
  simp [execOp, resolve, Sem.run_bind, ex, Result.andThen, invoke, builtin, Builtin.cap_, run_und (und_slice ht), goInt]
/-- The test whether a known row shares memory with one of one's own: it does not. -/
theorem R_overlapsR {x y f : Operand} {e sz k r1 r2 o1 o2 n1 c1 n2 c2 : Nat} {fn : Func} {g : FuncId} {at_ : Array TypeId} {cs1 cs2 : Array Value} {e1 e2 tR : TypeId}
    (hf : evl l f = some (.func (.func g) #[] #[])) (hx : evl l x = some (.slice (some ⟨r1, o1, none⟩) n1 c1)) (hy : evl l y = some (.slice (some ⟨r2, o2, none⟩) n2 c2)) (hk1 : (r1, Obj.cells cs1 e1 (0, 0)) ∈ c.R) (hk2 : L[k]? = some (r2, .cells cs2 e2 (0, 0)))
    (ht : sliceOf c.P t = some e) (hs : szOf c.P e = some sz) (h0 : 0 < cs2.size) (hF : c.P.funcs[g]? = some fn) (hn1 : (fn.name == "runtime.NumGoroutine") = false) (hb : fn.body.isNone = true) (hn2 : Extern.findNext fn = none) (he : Extern.find fn = some (Extern.SlicesOverlaps.overlaps #[t, t] #[tR])) :
    RunsTo c d l L X ⟨some i, .call ⟨.value f, #[x, y], at_⟩, ty, ps, af, gd⟩ (.bool false) := fun a w hfr hst =>
  R_overlaps hf hx hy (hst.apart hk2 _ hk1) (Or.inr hk1) (known_L hk2) ht hs h0 hF hn1 hb hn2 he a w hfr hst
/-- 'S{}'. -/
theorem HL_buildSlice0 {e sz : Nat} (hg : goes l ops ⟨some i, .buildSlice t 0 #[], ty, ps, af, gd⟩ = some true) (hi : Nat.ble (i + 1) c.n = true) (ht : sliceOf c.P t = some e) (hs : szOf c.P e = some sz)
    (h : ∀ q, HL c d ((i, .slice (some ⟨q, 0, none⟩) 0 0) :: l) ((q, .cells #[] e (0, 0)) :: L) X ops rest Q) : HL c d l L X ops (⟨some i, .buildSlice t 0 #[], ty, ps, af, gd⟩ :: rest) Q := by
  refine HL_runE (V := fun q => .slice (some ⟨q, 0, none⟩) 0 0) (L' := fun q => (q, .cells #[] e (0, 0)) :: L) (X' := fun _ => X) hg rfl rfl hi (fun a w hfr hst => ⟨w.heap.size, w.alloc (.cells #[] e), ?_, hst.alloc _⟩) h
  simp [execOp, Instr.buildSlice, Sem.run_bind, run_und (und_slice ht), run_sz hs, Result.andThen, Instr.fill, newRow]
  rw [show Array.range 0 = (#[] : Array Nat) from by decide]
  simp
/-- 'append(S{}, s...)'. -/
theorem HL_clone {x y : Operand} {k r e sz b n : Nat} {z : Value} {q : Addr × Nat} {cs : List Value} {R L0 : List (Nat × Obj)}
    (hg : goes l ops ⟨some i, .call ⟨.builtin .append, #[x, y], #[t, t]⟩, ty, ps, af, gd⟩ = some true) (hi : Nat.ble (i + 1) c.n = true) (hx : evl l x = some (.slice (some ⟨r, 0, none⟩) 0 0)) (hk : L[k]? = some (r, .cells #[] e (0, 0))) (hL : L.eraseIdx k = L0)
    (hy : evl l y = some (plV n (some q))) (hs : Seg R n cs (some q)) (hR : ∀ q ∈ R, known c L q.1 q.2) (ht : sliceOf c.P t = some e) (hz : zeroOf c.P e = some z) (hsz : szOf c.P e = some sz) (hb : byOf c.P e = some b) (hzs : z.cells.size = sz) (h0 : 0 < sz)
    (hcs : cs.length = n * sz) (hone : cs.all oneB = true) (h63 : n ≤ 9223372036854775807) (h47 : n * b ≤ 140737488355328)
    (h : ∀ row, rowOk sz n cs row → HL c d ((i, rowV n row) :: l) (rowL e cs row ++ L0) X ops rest Q) : HL c d l L X ops (⟨some i, .call ⟨.builtin .append, #[x, y], #[t, t]⟩, ty, ps, af, gd⟩ :: rest) Q := by
  obtain ⟨⟨r2, o2, s2⟩, cap⟩ := q
  obtain ⟨hs1, hs2⟩ := hs
  by_cases hn : n = 0
  · subst hn
    have hc0 : cs = [] := List.length_eq_zero_iff.1 (by rw [hcs, Nat.zero_mul])
    subst hc0
    refine HL_append0 hg hi hx hy ht hsz (Nat.le_refl _) ?_
    refine HL_perm ?_ (h (some (r, 0, [])) ⟨by simp, by simp⟩)
    have h1 := (List.getElem?_eq_some_iff.1 hk)
    have := set_perm h1.1 (r, Obj.cells #[] e (0, 0))
    rw [hL, ← h1.2, List.set_getElem_self, h1.2] at this
    exact this
  · obtain ⟨h3, all, e', fr, h4, h5⟩ := hs2 (by omega)
    have h3 : s2 = none := h3
    subst h3
    rw [hcs] at h5
    refine HL_append hg hi hx hy (hR _ h4) ht hz hsz hb hzs h0 h5 hcs hone (by omega) (SlOwn.own (n := 0) (cap := 0) (xs := []) hk (by simp) (by simp) (by simp) hL) (by omega) (by rw [Nat.zero_add]; exact h47) fun r' cap' spare hsp => ?_
    have := h (some (r', cap', spare)) ⟨hcs, by rw [Nat.zero_add] at hsp; exact hsp⟩
    simpa [rowV, rowL] using this
end
/-! ### Places -/
def idxI {α : Type} (pr : α → Bool) (xs : List α) : Int := match xs.findIdx? pr with
  | some i => (i : Int)
  | none => -1
theorem idx_none {α : Type} {pr : α → Bool} {xs : List α} (h : ∀ (j : Nat) x, xs[j]? = some x → pr x = false) : idxI pr xs = -1 := by
  unfold idxI
  have : xs.findIdx? pr = none := by
    rw [List.findIdx?_eq_none_iff]
    intro x hx
    obtain ⟨j, hj, rfl⟩ := List.mem_iff_getElem.1 hx
    simpa using h j _ (List.getElem?_eq_getElem hj)
  rw [this]
theorem idx_some {α : Type} {pr : α → Bool} {xs : List α} {i : Nat} {x : α} (hx : xs[i]? = some x) (hp : pr x = true) (h : ∀ j, j < i → ∀ y, xs[j]? = some y → pr y = false) : idxI pr xs = (i : Int) := by
  unfold idxI
  obtain ⟨h1, h2⟩ := List.getElem?_eq_some_iff.1 hx
  have : xs.findIdx? pr = some i := by
    rw [List.findIdx?_eq_some_iff_getElem]
    exact ⟨h1, by rw [h2]; exact hp, fun j hj => by simpa using h j hj _ (List.getElem?_eq_getElem (by omega))⟩
  rw [this]
theorem idx_any {α : Type} {pr : α → Bool} {xs : List α} : decide (idxI pr xs ≥ 0) = xs.any pr := by
  unfold idxI
  cases h : xs.findIdx? pr with
  | none =>
    rw [List.findIdx?_eq_none_iff] at h
    have : xs.any pr = false := by rw [List.any_eq_false]; intro x hx; simpa using h x hx
    rw [this]; rfl
  | some i =>
    rw [List.findIdx?_eq_some_iff_getElem] at h
    obtain ⟨h1, h2, _⟩ := h
    have : xs.any pr = true := List.any_eq_true.2 ⟨xs[i], List.getElem_mem _, h2⟩
    rw [this]; simp
theorem idx_find {α : Type} {pr : α → Bool} {xs : List α} : (idxI pr xs < 0 ∧ xs.find? pr = none) ∨ ∃ (i : Nat) (x : α), idxI pr xs = (i : Int) ∧ xs[i]? = some x ∧ xs.find? pr = some x := by
  unfold idxI
  cases h : xs.findIdx? pr with
  | none =>
    rw [List.findIdx?_eq_none_iff] at h
    exact .inl ⟨by simp, by rw [List.find?_eq_none]; intro x hx; simpa using h x hx⟩
  | some i =>
    rw [List.findIdx?_eq_some_iff_getElem] at h
    obtain ⟨h1, h2, h3⟩ := h
    refine .inr ⟨i, xs[i], rfl, List.getElem?_eq_getElem h1, ?_⟩
    rw [List.find?_eq_some_iff_getElem]
    exact ⟨h2, i, h1, rfl, fun j hj => by simpa using h3 j hj⟩
theorem idx_hit {α : Type} {pr : α → Bool} {xs : List α} (h : 0 ≤ idxI pr xs) : ∃ (i : Nat) (x : α), idxI pr xs = (i : Int) ∧ xs[i]? = some x ∧ xs.find? pr = some x := by
  rcases idx_find (pr := pr) (xs := xs) with ⟨h1, _⟩ | h1
  · omega
  · exact h1
theorem idx_miss {α : Type} {pr : α → Bool} {xs : List α} (h : idxI pr xs < 0) : xs.find? pr = none := by
  rcases idx_find (pr := pr) (xs := xs) with ⟨_, h1⟩ | ⟨i, x, h1, _⟩
  · exact h1
  · omega
section
variable {α : Type} {kf : α → BS}
def cmpI (a b : BS) : Int := if Op.bytesLess a b then -1 else if Op.bytesLess b a then 1 else 0
theorem cmp_neg (a b : BS) : decide (cmpI a b < 0) = Op.bytesLess a b := by
  unfold cmpI
  cases Op.bytesLess a b
  · cases Op.bytesLess b a <;> rfl
  · rfl
theorem cmp_zero (a b : BS) : (cmpI a b == 0) = decide (a = b) := by
  unfold cmpI
  rcases bl_tri a b with h | h | h
  · subst h; rw [bl_irr]; simp
  · rw [h]; simp [bl_ne h]
  · rw [h, bl_asym h]; simp [(bl_ne h).symm]
def loL (kf : α → BS) (k : BS) (xs : List α) : Nat := (xs.takeWhile fun x => Op.bytesLess (kf x) k).length
def thereL (kf : α → BS) (k : BS) (xs : List α) : Bool := match xs[loL kf k xs]? with
  | some x => decide (kf x = k)
  | none => false
theorem lo_le (k : BS) (xs : List α) : loL kf k xs ≤ xs.length := by
  unfold loL
  have := (List.takeWhile_prefix (p := fun x => Op.bytesLess (kf x) k) (l := xs)).length_le
  exact this
theorem lo_eq {k : BS} : ∀ {xs : List α} {i : Nat}, i ≤ xs.length → (∀ q y, q < i → xs[q]? = some y → Op.bytesLess (kf y) k = true) → (∀ y, xs[i]? = some y → Op.bytesLess (kf y) k = false) → i = loL kf k xs
  | [], i, h, _, _ => by simp [loL] at h ⊢; exact h
  | x :: xs, 0, _, _, h2 => by
    have := h2 x rfl
    simp [loL, List.takeWhile_cons, this]
  | x :: xs, i + 1, h, h1, h2 => by
    have h0 := h1 0 x (by omega) rfl
    have := lo_eq (xs := xs) (i := i) (by simpa using h) (fun q y hq hy => h1 (q + 1) y (by omega) hy) (fun y hy => h2 y hy)
    unfold loL at this ⊢
    rw [List.takeWhile_cons, h0]
    simp only [if_true, List.length_cons]
    omega
theorem lo_lt {k : BS} : ∀ {xs : List α} {q : Nat} {y : α}, q < loL kf k xs → xs[q]? = some y → Op.bytesLess (kf y) k = true
  | [], q, y, h, _ => by simp [loL] at h
  | x :: xs, q, y, h, hy => by
    unfold loL at h
    rw [List.takeWhile_cons] at h
    split at h
    · rename_i hx
      cases q with
      | zero => obtain rfl : x = y := by simpa using hy
                exact hx
      | succ q => exact lo_lt (xs := xs) (q := q) (by simpa [loL] using h) (by simpa using hy)
    · simp at h
theorem lo_ge {k : BS} : ∀ {xs : List α} {q : Nat} {y : α}, Sorted kf xs → loL kf k xs ≤ q → xs[q]? = some y → Op.bytesLess (kf y) k = false
  | [], q, y, _, _, hy => by simp at hy
  | x :: xs, q, y, hs, h, hy => by
    obtain ⟨s1, s2⟩ := List.pairwise_cons.1 hs
    unfold loL at h
    rw [List.takeWhile_cons] at h
    split at h
    · cases q with
      | zero => simp at h
      | succ q => exact lo_ge (xs := xs) (q := q) s2 (by simpa [loL] using h) (by simpa using hy)
    · rename_i hx
      have hx : Op.bytesLess (kf x) k = false := by simpa using hx
      cases q with
      | zero => obtain rfl : x = y := by simpa using hy
                exact hx
      | succ q =>
        have hm : y ∈ xs := List.mem_of_getElem? (by simpa using hy)
        cases hyk : Op.bytesLess (kf y) k
        · rfl
        · rw [bl_trans (s1 y hm) hyk] at hx; cases hx
theorem below_of {k : BS} {xs : List α} (hs : Sorted kf xs) {h : Nat} {x : α} (hx : xs[h]? = some x) (hb : Op.bytesLess (kf x) k = true) : ∀ q y, q < h + 1 → xs[q]? = some y → Op.bytesLess (kf y) k = true := fun q y hq hy => by
  rcases Nat.lt_succ_iff_lt_or_eq.1 hq with hq | rfl
  · have hp := List.pairwise_iff_getElem.1 hs q h (List.getElem?_eq_some_iff.1 hy).1 (List.getElem?_eq_some_iff.1 hx).1 hq
    rw [(List.getElem?_eq_some_iff.1 hy).2, (List.getElem?_eq_some_iff.1 hx).2] at hp
    exact bl_trans hp hb
  · rw [hx] at hy; cases hy; exact hb
theorem above_of {k : BS} {xs : List α} (hs : Sorted kf xs) {h : Nat} {x : α} (hx : xs[h]? = some x) (hb : Op.bytesLess (kf x) k = false) : ∀ q y, h ≤ q → xs[q]? = some y → Op.bytesLess (kf y) k = false := fun q y hq hy => by
  rcases Nat.lt_or_eq_of_le hq with hq | rfl
  · have hp := List.pairwise_iff_getElem.1 hs h q (List.getElem?_eq_some_iff.1 hx).1 (List.getElem?_eq_some_iff.1 hy).1 hq
    rw [(List.getElem?_eq_some_iff.1 hy).2, (List.getElem?_eq_some_iff.1 hx).2] at hp
    cases hyk : Op.bytesLess (kf y) k
    · rfl
    · rw [bl_trans hp hyk] at hb; cases hb
  · rw [hx] at hy; cases hy; exact hb
theorem there_in {k : BS} {xs : List α} {x : α} (h : xs[loL kf k xs]? = some x) : thereL kf k xs = decide (kf x = k) := by unfold thereL; rw [h]
theorem there_out {k : BS} {xs : List α} (h : xs.length ≤ loL kf k xs) : thereL kf k xs = false := by unfold thereL; rw [List.getElem?_eq_none h]
/-- A row, with one at its place. -/
theorem ins_lo {x : α} {xs : List α} (hs : Sorted kf xs) : insL kf x xs = if thereL kf (kf x) xs = true then xs.set (loL kf (kf x) xs) x else xs.take (loL kf (kf x) xs) ++ x :: xs.drop (loL kf (kf x) xs) := by
  obtain ⟨i, hi⟩ : ∃ i, i = loL kf (kf x) xs := ⟨_, rfl⟩
  have hle : i ≤ xs.length := hi ▸ lo_le _ _
  have h := ins_at (kf := kf) (x := x) (p := xs.take i) (q := xs.drop i) (fun y hy => by
    obtain ⟨j, e⟩ := List.mem_iff_getElem?.1 hy
    have hj := (List.getElem?_eq_some_iff.1 e).1
    rw [List.length_take] at hj
    rw [List.getElem?_take, if_pos (by omega)] at e
    exact lo_lt (by omega) e) (fun y hy => by
    obtain ⟨j, e⟩ := List.mem_iff_getElem?.1 hy
    rw [List.getElem?_drop] at e
    exact lo_ge hs (by omega) e)
  rw [List.take_append_drop] at h
  rw [h]
  unfold thereL
  rw [← hi]
  by_cases hlt : i < xs.length
  · rw [List.getElem?_eq_getElem hlt, List.drop_eq_getElem_cons hlt]
    simp only [decide_eq_true_eq]
    split
    · rw [List.set_eq_take_append_cons_drop, if_pos hlt]
    · rfl
  · rw [List.getElem?_eq_none (by omega), List.drop_of_length_le (by omega)]
    simp
end
def fV (f : FuncId) : Value := .func (.func f) #[] #[]
theorem rises_yes {α : Type} {kf : α → BS} : ∀ {xs : List α}, (∀ (j : Nat) x y, xs[j]? = some x → xs[j + 1]? = some y → Op.bytesLess (kf x) (kf y) = true) → risesB kf xs = true
  | [], _ => rfl
  | [_], _ => rfl
  | x :: y :: xs, h => by
    rw [risesB, h 0 x y rfl rfl, Bool.true_and]
    exact rises_yes fun j u v hu hv => h (j + 1) u v (by simpa using hu) (by simpa using hv)
theorem rises_no {α : Type} {kf : α → BS} : ∀ {xs : List α} {j : Nat} {x y : α}, xs[j]? = some x → xs[j + 1]? = some y → Op.bytesLess (kf x) (kf y) = false → risesB kf xs = false
  | [], _, _, _, h, _, _ => by simp at h
  | [_], _, _, _, _, h, _ => by simp at h
  | a :: b :: xs, 0, x, y, hx, hy, h => by
    obtain rfl : a = x := by simpa using hx
    obtain rfl : b = y := by simpa using hy
    rw [risesB, h, Bool.false_and]
  | a :: b :: xs, j + 1, x, y, hx, hy, h => by
    rw [risesB, rises_no (xs := b :: xs) (j := j) (by simpa using hx) (by simpa using hy) h, Bool.and_false]
theorem cat_one {α : Type} {f : α → List Value} (h : ∀ x, (f x).all oneB = true) : ∀ l : List α, (l.flatMap f).all oneB = true
  | [] => rfl
  | x :: l => by rw [List.flatMap_cons, List.all_append, h, cat_one h l]; rfl
theorem cut {l : List Value} {a : Nat} (h : a ≤ l.length) : ∃ x y, l = x ++ y ∧ x.length = a := ⟨l.take a, l.drop a, (List.take_append_drop ..).symm, by rw [List.length_take]; omega⟩
theorem there_lt {α : Type} {kf : α → BS} {k : BS} {xs : List α} (h : thereL kf k xs = true) : loL kf k xs < xs.length := by
  rcases Nat.lt_or_ge (loL kf k xs) xs.length with h1 | h1
  · exact h1
  · rw [there_out h1] at h; cases h
theorem row_some {sz n : Nat} {xs : List Value} {row : Row} (h : rowOk sz n xs row) (hn : 0 < n) : ∃ r cap sp, row = some (r, cap, sp) := by
  cases row with
  | none => have := h.1; omega
  | some q => obtain ⟨r, cap, sp⟩ := q; exact ⟨r, cap, sp, rfl⟩
/-- A part of a list of cells is written anew. -/
theorem splice {P M S V : List Value} {o n : Nat} (ho : P.length = o) (hn : M.length = n) : (P ++ (M ++ S)).take o ++ V ++ (P ++ (M ++ S)).drop (o + n) = P ++ (V ++ S) := by
  subst ho hn
  rw [List.take_left' rfl, ← List.drop_drop, List.drop_left' rfl, List.drop_left' rfl, List.append_assoc]
theorem cat_set {α : Type} {f : α → List Value} {m : Nat} (hf : ∀ x, (f x).length = m) {xs : List α} {j : Nat} (hj : j < xs.length) (y : α) (sp : List Value) :
    (xs.flatMap f ++ sp).take (j * m) ++ f y ++ (xs.flatMap f ++ sp).drop (j * m + m) = (xs.set j y).flatMap f ++ sp := by
  have e : xs = xs.take j ++ xs[j] :: xs.drop (j + 1) := by rw [← List.drop_eq_getElem_cons hj, List.take_append_drop]
  have e1 : xs.flatMap f ++ sp = (xs.take j).flatMap f ++ (f xs[j] ++ ((xs.drop (j + 1)).flatMap f ++ sp)) := by
    rw [show xs.flatMap f = (xs.take j ++ xs[j] :: xs.drop (j + 1)).flatMap f from congrArg (List.flatMap f) e, List.flatMap_append, List.flatMap_cons, List.append_assoc, List.append_assoc]
  have e2 : (xs.set j y).flatMap f ++ sp = (xs.take j).flatMap f ++ (f y ++ ((xs.drop (j + 1)).flatMap f ++ sp)) := by
    rw [List.set_eq_take_append_cons_drop, if_pos hj]
    simp [List.flatMap_append, List.flatMap_cons]
  rw [e1, e2]
  exact splice (by rw [cat_len hf, List.length_take]; congr 1; omega) (hf _)
theorem Pure.toR {P : Program} {f : FuncId} {args : Array Value} {v : Value} {R : List (Nat × Obj)} (h : Pure P f args v) : PureR P f args v R := ⟨fun w _ => h.run w⟩
theorem two_cells {α : Type} {f : α → List Value} {m : Nat} (hf : ∀ x, (f x).length = m) {xs : List α} {i : Nat} {x y : α} (hx : xs[i]? = some x) (hy : xs[i + 1]? = some y) : ((xs.flatMap f).drop (i * m)).take (2 * m) = [x, y].flatMap f := by
  have h1 := cat_get hf hx
  have h2 := cat_get hf hy
  rw [show 2 * m = m + m by omega, List.take_add, h1, List.drop_drop, show i * m + m = (i + 1) * m by rw [Nat.succ_mul], h2]
  simp
/-! Found ones, where they lie. -/
def findL (s : StL) (k : BS) : AcL := (s.accts.find? fun a => decide (a.addr = k)).getD ac0L
def foundB (s : StL) (k : BS) : Bool := (s.accts.find? fun a => decide (a.addr = k)).isSome
theorem find_map {l : List AcL} {k : BS} : lookL AcE.addr k (l.map AcL.er) = (l.find? fun a => decide (a.addr = k)).map AcL.er := by
  induction l with
  | nil => rfl
  | cons a l ih =>
    rw [List.map_cons, lookL_cons, ih, List.find?_cons]
    by_cases h : a.addr = k
    · rw [if_pos (show a.er.addr = k from h), decide_eq_true h]; rfl
    · rw [if_neg (show ¬ a.er.addr = k from h), decide_eq_false h]
theorem found_eq (s : StL) (k : BS) : foundB s k = (findS s.er k).isSome := by
  unfold foundB findS StL.er
  rw [find_map]
  cases s.accts.find? fun a => decide (a.addr = k) <;> rfl
theorem find_er (s : StL) (k : BS) : (findL s k).er = (findS s.er k).getD ac0 := by
  unfold findL findS StL.er
  rw [find_map]
  cases s.accts.find? fun a => decide (a.addr = k) <;> rfl
theorem find_in {R : List (Nat × Obj)} {s : StL} (h : s.In R) (k : BS) : (findL s k).In R := by
  unfold findL
  cases hx : s.accts.find? fun a => decide (a.addr = k) with
  | none => exact ac0_in
  | some a => exact h.accts a (List.mem_of_find?_eq_some hx)
theorem find_hit {s : StL} {k : BS} {a : AcL} (h : (s.accts.find? fun a => decide (a.addr = k)) = some a) : findL s k = a ∧ foundB s k = true := by
  unfold findL foundB; rw [h]; exact ⟨rfl, rfl⟩
theorem find_miss {s : StL} {k : BS} (h : (s.accts.find? fun a => decide (a.addr = k)) = none) : findL s k = ac0L ∧ foundB s k = false := by
  unfold findL foundB; rw [h]; exact ⟨rfl, rfl⟩
theorem slot_hit {a : AcE} {k : BS} {x : BS × BS} (h : (a.slots.find? fun y => decide (y.1 = k)) = some x) : slotE a k = x.2 := by
  unfold slotE lookL
  rw [show (fun y : BS × BS => y.1 == k) = fun y => decide (y.1 = k) from funext fun y => by by_cases e : y.1 = k <;> simp [e], h]
theorem slot_miss {a : AcE} {k : BS} (h : (a.slots.find? fun y => decide (y.1 = k)) = none) : slotE a k = noneB := by
  unfold slotE lookL
  rw [show (fun y : BS × BS => y.1 == k) = fun y => decide (y.1 = k) from funext fun y => by by_cases e : y.1 = k <;> simp [e], h]
theorem risesB_two {α : Type} {kf : α → BS} (x y : α) : risesB kf [x, y] = Op.bytesLess (kf x) (kf y) := by
  rw [risesB, risesB, Bool.and_true]
def lastE (l : List AcE) : Nat → Option BS
  | 0 => none
  | i + 1 => l[i]?.map AcE.addr
theorem go_step {l : List AcE} {i : Nat} {a : AcE} (h : l[i]? = some a) : goS (lastE l i) (l.drop i) = if stepE (lastE l i) a ≠ 0 then stepE (lastE l i) a else goS (lastE l (i + 1)) (l.drop (i + 1)) := by
  rw [dropI h, goS, show lastE l (i + 1) = some a.addr from by show Option.map AcE.addr l[i]? = _; rw [h]; rfl]
theorem er_get {s : StL} {i : Nat} {a : AcL} (h : s.accts[i]? = some a) : s.er[i]? = some a.er := by unfold StL.er; rw [List.getElem?_map, h]; rfl
theorem Seg.two {α : Type} {f : α → List Value} {m : Nat} (hf : ∀ x, (f x).length = m) {R : List (Nat × Obj)} {xs : List α} {p : Pl} (h : Seg R xs.length (xs.flatMap f) p) {i j : Nat} {x y : α} (hx : xs[j]? = some x) (hy : xs[i]? = some y) (e : j + 1 = i) : Seg R [x, y].length ([x, y].flatMap f) (plS m j p) := by
  subst e
  have hlt := (List.getElem?_eq_some_iff.1 hy).1
  have h1 := h.slice (sz := m) (a := j) (b := j + 2) (cat_len hf xs) (by omega) (by omega)
  rw [show j + 2 - j = 2 by omega, two_cells hf hx hy] at h1
  exact h1
theorem step_11 {last : Option BS} {a : AcE} {b : BS} (h : lkE a ≠ 2) (hl : last = some b) (hb : Op.bytesLess b a.addr = false) : stepE last a = 11 := by unfold stepE; rw [if_pos ⟨h, b, hl, hb⟩]
theorem step_lk {last : Option BS} {a : AcE} (h : lkE a = 2 ∨ last = none ∨ ∃ b, last = some b ∧ Op.bytesLess b a.addr = true) : stepE last a = lkE a := by
  unfold stepE
  rw [if_neg]
  rintro ⟨h1, b, h2, h3⟩
  rcases h with h | h | ⟨c, h, h4⟩
  · exact h1 h
  · rw [h] at h2; cases h2
  · rw [h] at h2; cases h2; rw [h3] at h4; cases h4
theorem last_er {s : StL} {i j : Nat} {x : AcL} (hx : s.accts[j]? = some x) (e : j + 1 = i) : lastE s.er i = some x.addr := by
  subst e; show Option.map AcE.addr s.er[j]? = _; rw [er_get hx]; rfl
theorem chk_len (s : StL) : (32 < (s.accts.length : Int) → chkS s.er = 5) ∧ (¬ 32 < (s.accts.length : Int) → chkS s.er = goS none s.er) := by
  unfold chkS
  rw [s.er_len]
  exact ⟨fun h => by rw [if_pos (by omega)], fun h => by rw [if_neg (by omega)]⟩
theorem PureR.mono {P : Program} {f : FuncId} {args : Array Value} {v : Value} {R R' : List (Nat × Obj)} (h : PureR P f args v R) (hs : ∀ q ∈ R, q ∈ R') : PureR P f args v R' := ⟨fun w hw => h.run w fun p hp => hw p (hs p hp)⟩
def rowP : Row → Pl
  | none => none
  | some (r, cap, _) => some (⟨r, 0, none⟩, cap)
theorem rowP_V (n : Nat) (row : Row) (h : row = none → n = 0) : plV n (rowP row) = rowV n row := by
  cases row with
  | none => rw [h rfl]; rfl
  | some q => rfl
theorem rowP_seg {sz n e : Nat} {cs : List Value} {row : Row} (h : rowOk sz n cs row) (h0 : 0 < sz) : Seg (rowL e cs row) n cs (rowP row) := by
  cases row with
  | none => exact h.1
  | some q =>
    obtain ⟨r, cap, sp⟩ := q
    obtain ⟨h1, h2⟩ := h
    exact ⟨Nat.le_of_mul_le_mul_right (by omega : n * sz ≤ cap * sz) h0, fun _ => ⟨rfl, _, e, (0, 0), List.mem_cons_self, by simp⟩⟩
theorem idx_cut {α : Type} {pr : α → Bool} {xs : List α} {i : Nat} (h : idxI pr xs = (i : Int)) : i < xs.length ∧ (xs.take (i + 1)).filter (fun x => !pr x) = xs.take i := by
  unfold idxI at h
  split at h
  · rename_i j hj
    obtain rfl : j = i := by omega
    rw [List.findIdx?_eq_some_iff_getElem] at hj
    obtain ⟨h1, h2, h3⟩ := hj
    refine ⟨h1, ?_⟩
    rw [List.take_succ_eq_append_getElem h1, List.filter_append, List.filter_eq_self.2, List.filter_eq_nil_iff.2, List.append_nil]
    · intro x hx
      rw [List.mem_singleton.1 hx]; simp [h2]
    · intro x hx
      obtain ⟨q, hq, rfl⟩ := List.mem_iff_getElem.1 hx
      rw [List.getElem_take]
      simp only [List.length_take] at hq
      simpa using h3 q (by omega)
  · omega
theorem idx_all {α : Type} {pr : α → Bool} {xs : List α} (h : idxI pr xs < 0) : xs.filter (fun x => !pr x) = xs := by
  rw [List.filter_eq_self]
  intro x hx
  have := idx_miss h
  rw [List.find?_eq_none] at this
  simpa using this x hx
theorem take_filter_succ {α : Type} {pr : α → Bool} {xs : List α} {j : Nat} {x : α} (hx : xs[j]? = some x) : (xs.take (j + 1)).filter pr = (xs.take j).filter pr ++ (if pr x then [x] else []) := by
  obtain ⟨h1, h2⟩ := List.getElem?_eq_some_iff.1 hx
  rw [List.take_succ_eq_append_getElem h1, List.filter_append, h2]
  congr 1
  by_cases h : pr x = true <;> simp [h]
theorem cat_drop {α : Type} {f : α → List Value} {xs : List α} {j : Nat} {x : α} (hx : xs[j]? = some x) : (xs.drop j).flatMap f = f x ++ (xs.drop (j + 1)).flatMap f := by rw [dropI hx, List.flatMap_cons]
/-! Results that lie in new blocks and in known ones. -/
structure AcRes (R : List (Nat × Obj)) (e : AcE × Int) : Type where
  a : AcL
  err : Int
  L : List (Nat × Obj)
  ok : a.In (L ++ R)
  eq : (a.er, err) = e
structure StRes (R : List (Nat × Obj)) (e : List AcE × Int) : Type where
  s : StL
  err : Int
  L : List (Nat × Obj)
  ok : s.In (L ++ R)
  eq : (s.er, err) = e
def AcRes.val {R : List (Nat × Obj)} {e : AcE × Int} (x : AcRes R e) : Value := .tuple #[x.a.val, .int .i64 x.err]
def StRes.val {R : List (Nat × Obj)} {e : List AcE × Int} (x : StRes R e) : Value := .tuple #[x.s.val, .int .i64 x.err]
theorem rowV_one (n : Nat) (row : Row) : oneB (rowV n row) = true := by cases row <;> rfl
theorem filter_del {k v : BS} {l : List (BS × BS)} : (insL Prod.fst (k, v) l).filter (fun x => !decide (x.1 = k)) = delL Prod.fst k l := by
  rw [← del_ins (kf := Prod.fst) (x := (k, v)) (l := l)]
  unfold delL
  refine List.filter_congr fun x _ => ?_
  by_cases h : x.1 = k <;> simp [h]
theorem ins_er (a : AcL) : ∀ l : List AcL, (insL AcL.addr a l).map AcL.er = insL AcE.addr a.er (l.map AcL.er)
  | [] => rfl
  | x :: l => by
    rw [List.map_cons, insL, insL]
    show _ = if Op.bytesLess x.addr a.addr then _ else if x.addr = a.addr then _ else _
    split
    · rw [List.map_cons, ins_er a l]
    · split <;> rfl
theorem er_sorted (s : StL) : Sorted AcL.addr s.accts ↔ Sorted AcE.addr s.er := by
  unfold StL.er Sorted
  rw [List.pairwise_map]
  exact Iff.rfl
theorem ac_in_with {R L : List (Nat × Obj)} {a : AcL} (ha : a.In R) {k v : BS} (hk : k.length = 32) (hv : v.length = 32) (hlen : (withE a.slots k v).length ≤ 9223372036854775807) {p : Pl} (hp : Seg L (withE a.slots k v).length (slsC (withE a.slots k v)) p) : AcL.In (L ++ R) ⟨a.addr, a.nonce, a.bal, a.code, withE a.slots k v, p⟩ :=
  ⟨ha.addr, ha.nonce, ha.bal, ha.code, hlen, hp.mono fun q hq => List.mem_append_left _ hq, fun x hx => by
    rcases with_mem hx with ⟨rfl, _⟩ | hx
    · exact ⟨by show k.length ≤ _; rw [hk]; decide, by show v.length ≤ _; rw [hv]; decide⟩
    · exact ha.slots x hx⟩
end Go.SL
namespace Go.Proofs.YtnkmbkndpoghdaaGreat
set_option linter.all false
open Go.SL Go.RowKit Go.Shelf
set_option maxRecDepth 10000 in
theorem P_word_Of (n : Nat) : Pure Tryz.prog 103 [uV n].toArray (wV [n, 0, 0, 0]) := by
  refine pure_of_HC Tryz.func103 rfl rfl fun w => ?_; refine HC_seq fun K1 hK1 => ?_; refine HC_region ?_; refine HL_alloc (cs := #[_, _, _, _]) rfl rfl rfl rfl fun r1 => ?_; refine HL_nil ?_; refine HQ_then ?_; refine hK1 _ _ _ _ ?_; clear hK1 K1; refine HC_seq fun K2 hK2 => ?_; refine HC_region ?_; refine HL_r rfl rfl rfl rfl (R_move rfl) ?_; refine HL_r rfl rfl rfl rfl (R_build (r := [_, _, _, _]) rfl rfl) ?_
  refine HL_storeA (k := 0) (n := 4) (cs' := #[_, _, _, _]) (vs := #[_, _, _, _]) rfl rfl rfl rfl rfl rfl rfl (by exact Nat.le_of_ble_eq_true rfl) rfl (by first | (simp only [List.set_cons_zero, List.set_cons_succ]; exact rfl) | exact rfl) ?_; refine HL_nil ?_; refine HQ_then ?_; refine hK2 _ _ _ _ ?_; clear hK2 K2; refine HC_ret ?_; refine HQ_post rfl rfl (.cons (res_cellA (vs := [_, _, _, _]) rfl (known_L (k := 0) rfl) rfl rfl) .nil) (fun w1 hs1 => ?_); exact ⟨rfl, hs1.keep⟩
set_option maxRecDepth 10000 in
theorem P_digit {l : List Nat} (hl : WOk l) {i : Nat} (hi : i < 32) : Pure Tryz.prog 116 [wV l, .int .i64 (i : Int)].toArray (.int .i64 (dg l i : Nat)) := by
  refine pure_of_HC Tryz.func116 rfl rfl fun w => ?_
  have hg := hl.get (i / 8)
  refine HC_seq fun K1 hK1 => ?_; refine HC_region ?_; refine HL_box (cs := (l.map uV).toArray) rfl rfl rfl rfl fun r1 => ?_; refine HL_r rfl rfl rfl rfl (R_assign rfl) ?_; refine HL_nil ?_; refine HQ_then ?_; refine hK1 _ _ _ _ ?_; clear hK1 K1; refine HC_seq fun K2 hK2 => ?_; refine HC_region ?_; refine HL_r rfl rfl rfl rfl (R_move rfl) ?_; refine HL_r rfl rfl rfl rfl (R_pure rfl rfl rfl) ?_; refine HL_quo (by omega) (by omega) (by omega) ?_; refine HL_r rfl rfl rfl rfl (R_indexA (j := i / 8) (m := 1) (off' := i / 8) rfl rfl rfl rfl (by omega) (by omega) (by omega)) ?_; refine HL_r rfl rfl rfl rfl (R_loadAt rfl (known_L (k := 0) rfl) rfl (mapU_get (by rw [hl.1]; omega))) ?_; refine HL_r rfl rfl rfl rfl (R_move rfl) ?_; refine HL_r rfl rfl rfl rfl (R_pure rfl rfl rfl) ?_; refine HL_rem (by omega) ?_; refine HL_r rfl rfl rfl rfl (R_pure rfl rfl rfl) ?_; refine HL_wrap_i64 (by omega) (by omega) ?_; refine HL_r rfl rfl rfl rfl (R_pure rfl rfl rfl) ?_; refine HL_wrap_u64 (by omega) (by omega) ?_; refine HL_r rfl rfl rfl rfl (R_shr (n := i % 8 * 8) rfl rfl (by omega) (show _ ≤ 64 from by omega) (by omega) (shr_nat _ _)) ?_; refine HL_r rfl rfl rfl rfl (R_pure rfl rfl rfl) ?_; refine HL_as (show _ = Value.int .u64 ((dg l i : Nat) : Int) from congrArg (Value.int .u64) (rem_nat _ 256)) ?_; refine HL_r rfl rfl rfl rfl (R_pure rfl rfl rfl) ?_; refine HL_as (show _ = Value.int .i64 ((dg l i : Nat) : Int) from congrArg (Value.int .i64) (wrap_i64 (by omega) (by have := dg_lt l i; omega))) ?_; refine HL_r rfl rfl rfl rfl (R_assign rfl) ?_; refine HL_nil ?_; refine HQ_then ?_; refine hK2 _ _ _ _ ?_; clear hK2 K2; refine HC_ret ?_; refine HQ_post rfl rfl (.cons (res_tmp rfl) .nil) (fun w1 hs1 => ?_); exact ⟨rfl, hs1.keep⟩
end Go.Proofs.YtnkmbkndpoghdaaGreat
namespace Go.Proofs.YtnkmbkndpoghdaaGreat
set_option linter.all false
open Go.SL Go.RowKit Go.Shelf
set_option maxRecDepth 10000 in
theorem P_ref_Fixed {l : List Nat} (hl : WOk l) : Pure Tryz.prog 96 [wV l].toArray (.string (bs (beD l 32))) := by
  refine pure_of_HC Tryz.func96 rfl rfl fun w => ?_; refine HC_seq fun K1 hK1 => ?_; refine HC_region ?_; refine HL_box (cs := (l.map uV).toArray) rfl rfl rfl rfl fun r1 => ?_; refine HL_r rfl rfl rfl rfl (R_assign rfl) ?_; refine HL_nil ?_; refine HQ_then ?_; refine hK1 _ _ _ _ ?_; clear hK1 K1; refine HC_seq fun K2 hK2 => ?_; refine HC_region ?_; refine HL_r rfl rfl rfl rfl (R_assign rfl) ?_; refine HL_nil ?_; refine HQ_then ?_; refine hK2 _ _ _ _ ?_; clear hK2 K2; refine HC_seq fun K3 hK3 => ?_; refine HC_seq fun K4 hK4 => ?_; refine HC_region ?_; refine HL_r rfl rfl rfl rfl (R_assign rfl) ?_; refine HL_nil ?_; refine HQ_then ?_; refine hK4 _ _ _ _ ?_; clear hK4 K4; refine HC_block ?_; refine HC_loop (σ := Nat × List Value × Row) (fun s => s.1 ≤ 32 ∧ s.2.1 = ((beD l 32).take s.1).map bV ∧ rowOk 1 s.1 s.2.1 s.2.2) (fun s => [(1, .pointer (some ⟨r1, 0, none⟩)), (3, rowV s.1 s.2.2), (4, .int .i64 (31 - (s.1 : Int)))]) (fun s => (r1, .cells (l.map uV).toArray 27 (0, 0)) :: rowL 5 s.2.1 s.2.2) (fun _ _ _ => True) (fun s => 32 - s.1) (0, [], none) ⟨by decide, rfl, ⟨rfl, rfl⟩⟩ (.cons rfl (.cons rfl (.cons rfl .nil))) (List.Sublist.refl _) (fun _ _ h => h) ?_; rintro ⟨m, xs, row⟩ ⟨hm, hxs, hrow⟩; simp only at hm hxs hrow ⊢; refine HC_seq fun K5 hK5 => ?_; refine HC_seq fun K6 hK6 => ?_; refine HC_region ?_; refine HL_r rfl rfl rfl rfl (R_move rfl) ?_; refine HL_r rfl rfl rfl rfl (R_pure rfl rfl rfl) ?_; refine HL_nil ?_; refine HQ_then ?_; refine hK6 _ _ _ _ ?_; clear hK6 K6; refine HC_cond rfl (fun h7 => ?_) (fun h7 => ?_)
  · try exact Bool.noConfusion h7
    try simp only [Z1, Z2, Z3, Z4, Z5, Z6, Z7, Z8, Z9, Z10, Z11, Z12, Z13] at h7
    refine HC_skip ?_; refine HQ_then ?_; refine hK5 _ _ _ _ ?_; clear hK5 K5; refine HC_seq fun K8 hK8 => ?_; refine HC_block ?_; refine HC_region ?_; refine HL_r rfl rfl rfl rfl (R_move rfl) ?_; refine HL_r rfl rfl rfl rfl (R_loadArr (xs := l.map uV) (n := 4) rfl (known_L (k := 0) rfl) rfl rfl (by rw [List.length_map, hl.1])) ?_; refine HL_r rfl rfl rfl rfl (R_move rfl) ?_; refine HL_as (show _ = Value.int .i64 ((31 - m : Nat) : Int) from congrArg (Value.int .i64) (by omega)) ?_; refine HL_callP rfl rfl rfl (enters_of Tryz.func116 (by kernel_rfl) rfl) (P_digit hl (i := 31 - m) (by omega)) ?_; refine HL_r rfl rfl rfl rfl (R_pure rfl rfl rfl) ?_; refine HL_as (byte_of (dg_lt l (31 - m))) ?_; refine HL_buildSlice (vs := [_]) (zs := [_]) (r := [_]) rfl rfl rfl rfl rfl rfl rfl rfl rfl (by show (madeCells #[_] _).toList = _; rw [made_one]; exact rfl) rfl fun r1 => ?_; refine HL_appendRow (L0 := [_, _]) (xs := xs) (row := row) (n := m) (sz := 1) (b := 1) (news := [_]) (List.perm_append_comm (l₁ := [_, _])) rfl rfl rfl rfl (known_L (k := 0) rfl) rfl rfl rfl rfl rfl (by decide) rfl rfl rfl (by decide) hrow (by omega) (by omega) fun ra cap sp hra => ?_; refine HL_r rfl rfl rfl rfl (R_assign rfl) ?_; refine HL_nil ?_; refine HQ_blockN ?_; refine HQ_then ?_; refine hK8 _ _ _ _ ?_; clear hK8 K8; refine HC_region ?_; refine HL_r rfl rfl rfl rfl (R_move rfl) ?_; refine HL_r rfl rfl rfl rfl (R_pure rfl rfl rfl) ?_; refine HL_wrap_i64 (by omega) (by omega) ?_; refine HL_r rfl rfl rfl rfl (R_assign rfl) ?_; refine HL_nil ?_; refine HQ_then ?_; refine HQ_sel [2, 0] (L' := [_, _]) (by decide) rfl ?_; exact HQ_again (m + 1, xs ++ [bV (UInt8.ofNat (dg l (31 - m)))], some (ra, cap, sp)) ⟨by simp only; omega, by simp only; rw [beD_take l (by omega), List.map_append, hxs]; rfl, hra⟩ (by simp only; omega) (.cons rfl (.cons rfl (.cons (congrArg (fun z => some (Value.int .i64 z)) (by simp only; omega)) .nil))) (List.Sublist.refl _) (fun _ _ h => h)
  · try exact Bool.noConfusion h7
    try simp only [Z1, Z2, Z3, Z4, Z5, Z6, Z7, Z8, Z9, Z10, Z11, Z12, Z13] at h7
    refine HC_exit ?_; refine HQ_thenE ?_; clear hK5 K5; refine HQ_thenE ?_; refine HQ_blockE ?_; refine HQ_then ?_; refine hK3 _ _ _ _ ?_; clear hK3 K3
    have hm32 : m = 32 := by omega
    subst hm32; rw [List.take_of_length_le (Nat.le_of_eq (beD_len l 32))] at hxs; subst hxs; refine HC_seq fun K9 hK9 => ?_; refine HC_region ?_; refine HL_r rfl rfl rfl rfl (R_move rfl) ?_; refine HL_r rfl rfl rfl rfl (R_bytesStr (b := beD l 32) (row := row) (e := 5) rfl hrow (fun p hp => .inl (List.mem_cons_of_mem _ hp)) rfl rfl rfl) ?_; refine HL_r rfl rfl rfl rfl (R_assign rfl) ?_; refine HL_nil ?_; refine HQ_then ?_; refine hK9 _ _ _ _ ?_; clear hK9 K9; refine HC_ret ?_; refine HQ_post rfl rfl (.cons (res_tmp rfl) .nil) (fun w1 hs1 => ?_); exact ⟨rfl, hs1.keep⟩
theorem fix_step {l : List Nat} {i : Nat} (hi : i < 32) : ((List.replicate (32 - i) (0 : UInt8) ++ beD l i).map bV).set (31 - i) (bV (UInt8.ofNat (dg l i))) = (List.replicate (32 - (i + 1)) 0 ++ beD l (i + 1)).map bV := by
  rw [← List.map_set, show 32 - i = (31 - i) + 1 from by omega, set_rep, show 32 - (i + 1) = 31 - i from by omega]
  rfl
set_option maxRecDepth 10000 in
theorem P_word_Fixed {l : List Nat} (hl : WOk l) : Pure Tryz.prog 51 [wV l].toArray (.string (bs (beD l 32))) := by
  refine pure_of_HC Tryz.func51 rfl rfl fun w => ?_; refine HC_seq fun K1 hK1 => ?_; refine HC_region ?_; refine HL_box (cs := (l.map uV).toArray) rfl rfl rfl rfl fun r1 => ?_; refine HL_r rfl rfl rfl rfl (R_assign rfl) ?_; refine HL_nil ?_; refine HQ_then ?_; refine hK1 _ _ _ _ ?_; clear hK1 K1; refine HC_seq fun K2 hK2 => ?_; refine HC_region ?_; refine HL_make (n := 32) (b := 1) rfl rfl rfl rfl rfl rfl rfl rfl rfl (by decide) (by decide) fun r2 => ?_; refine HL_r rfl rfl rfl rfl (R_assign rfl) ?_; refine HL_nil ?_; refine HQ_then ?_; refine hK2 _ _ _ _ ?_; clear hK2 K2; refine HC_seq fun K3 hK3 => ?_; refine HC_seq fun K4 hK4 => ?_; refine HC_region ?_; refine HL_r rfl rfl rfl rfl (R_move rfl) ?_; refine HL_nil ?_; refine HQ_then ?_; refine hK4 _ _ _ _ ?_; clear hK4 K4; refine HC_block ?_; refine HC_loop (σ := Nat) (fun i => i ≤ 32) (fun i => [(1, .pointer (some ⟨r1, 0, none⟩)), (3, .slice (some ⟨r2, 0, none⟩) 32 32), (6, .int .i64 (i : Int))]) (fun i => [(r2, .cells ((List.replicate (32 - i) (0 : UInt8) ++ beD l i).map bV).toArray 5 (0, 0)), (r1, .cells (l.map uV).toArray 27 (0, 0))]) (fun _ _ _ => True) (fun i => 32 - i) 0 (Nat.zero_le _) (.cons rfl (.cons rfl (.cons rfl .nil))) (List.Sublist.refl _) (fun _ _ h => h) ?_; intro i hi; refine HC_seq fun K5 hK5 => ?_; refine HC_region ?_; refine HL_r rfl rfl rfl rfl (R_pure rfl rfl rfl) ?_; refine HL_nil ?_; refine HQ_then ?_; refine hK5 _ _ _ _ ?_; clear hK5 K5; refine HC_seq fun K6 hK6 => ?_; refine HC_cond rfl (fun h7 => ?_) (fun h7 => ?_)
  · try exact Bool.noConfusion h7
    try simp only [Z1, Z2, Z3, Z4, Z5, Z6, Z7, Z8, Z9, Z10, Z11, Z12, Z13] at h7
    refine HC_skip ?_; refine HQ_then ?_; refine hK6 _ _ _ _ ?_; clear hK6 K6; refine HC_seq fun K8 hK8 => ?_; refine HC_block ?_; refine HC_seq fun K9 hK9 => ?_; refine HC_region ?_; refine HL_r rfl rfl rfl rfl (R_move rfl) ?_; refine HL_r rfl rfl rfl rfl (R_assign rfl) ?_; refine HL_nil ?_; refine HQ_then ?_; refine hK9 _ _ _ _ ?_; clear hK9 K9; refine HC_region ?_; refine HL_r rfl rfl rfl rfl (R_move rfl) ?_; refine HL_r rfl rfl rfl rfl (R_move rfl) ?_; refine HL_r rfl rfl rfl rfl (R_pure rfl rfl rfl) ?_; refine HL_wrap_i64 (by omega) (by omega) ?_; refine HL_r rfl rfl rfl rfl (R_move rfl) ?_; refine HL_r rfl rfl rfl rfl (R_pure rfl rfl rfl) ?_; refine HL_quo (by omega) (by omega) (by omega) ?_; refine HL_r rfl rfl rfl rfl (R_indexA (j := i / 8) (m := 1) (off' := i / 8) rfl rfl rfl rfl (by omega) (by omega) (by omega)) ?_; refine HL_r rfl rfl rfl rfl (R_loadAt rfl (known_L (k := 1) rfl) rfl (mapU_get (by rw [hl.1]; omega))) ?_; refine HL_r rfl rfl rfl rfl (R_move rfl) ?_; refine HL_r rfl rfl rfl rfl (R_pure rfl rfl rfl) ?_; refine HL_rem (by omega) ?_; refine HL_r rfl rfl rfl rfl (R_pure rfl rfl rfl) ?_; refine HL_wrap_i64 (by omega) (by omega) ?_; refine HL_r rfl rfl rfl rfl (R_shr (n := i % 8 * 8) rfl rfl (by omega) (show _ ≤ 64 from by omega) (by omega) (shr_nat _ _)) ?_; refine HL_r rfl rfl rfl rfl (R_pure rfl rfl rfl) ?_; refine HL_as (show _ = bV (UInt8.ofNat (dg l i)) from byte_mod _) ?_; refine HL_r rfl rfl rfl rfl (R_indexS (j := 31 - i) (m := 1) (off' := 31 - i) rfl rfl rfl rfl (by omega) (by omega) (by omega)) ?_; refine HL_storeAt (k := 0) (off := 31 - i) (xs := (List.replicate (32 - i) (0 : UInt8) ++ beD l i).map bV) (ys := (List.replicate (32 - (i + 1)) 0 ++ beD l (i + 1)).map bV) rfl rfl rfl rfl rfl rfl (by simp [beD_len]; omega) (fix_step (by omega)) rfl ?_; refine HL_nil ?_; refine HQ_blockN ?_; refine HQ_then ?_; refine hK8 _ _ _ _ ?_; clear hK8 K8; refine HC_region ?_; refine HL_r rfl rfl rfl rfl (R_pure rfl rfl rfl) ?_; refine HL_wrap_i64 (by omega) (by omega) ?_; refine HL_r rfl rfl rfl rfl (R_move rfl) ?_; refine HL_nil ?_; refine HQ_then ?_; exact HQ_again (i + 1) (by omega) (by omega) (.cons rfl (.cons rfl (.cons rfl .nil))) (List.Sublist.refl _) (fun _ _ h => h)
  · try exact Bool.noConfusion h7
    try simp only [Z1, Z2, Z3, Z4, Z5, Z6, Z7, Z8, Z9, Z10, Z11, Z12, Z13] at h7
    refine HC_exit ?_; refine HQ_thenE ?_; clear hK6 K6; refine HQ_thenE ?_; refine HQ_blockE ?_; refine HQ_then ?_; refine hK3 _ _ _ _ ?_; clear hK3 K3
    have hi32 : i = 32 := by omega
    subst hi32; refine HC_seq fun K10 hK10 => ?_; refine HC_region ?_; refine HL_r rfl rfl rfl rfl (R_move rfl) ?_; refine HL_r rfl rfl rfl rfl (R_bytesStr (b := beD l 32) (row := some (r2, 32, [])) (e := 5) rfl ⟨rfl, rfl⟩ (fun p hp => .inl (by rw [List.mem_singleton.1 hp]; exact List.mem_cons_self)) rfl rfl rfl) ?_; refine HL_r rfl rfl rfl rfl (R_assign rfl) ?_; refine HL_nil ?_; refine HQ_then ?_; refine hK10 _ _ _ _ ?_; clear hK10 K10; refine HC_ret ?_; refine HQ_post rfl rfl (.cons (res_tmp rfl) .nil) (fun w1 hs1 => ?_); exact ⟨rfl, hs1.keep⟩
end Go.Proofs.YtnkmbkndpoghdaaGreat
namespace Go.Proofs.YtnkmbkndpoghdaaGreat
set_option linter.all false
open Go.SL Go.RowKit Go.Shelf
set_option maxRecDepth 10000 in
theorem P_word_Unfixed (s : List UInt8) : Pure Tryz.prog 99 [.string (bs s)].toArray (resW (unfR s)) := by
  refine pure_of_HC Tryz.func99 rfl rfl fun w => ?_
  obtain ⟨f, hf⟩ : ∃ f : Nat → Nat, f = fun t => (s.getD (31 - t) 0).toNat := ⟨_, rfl⟩
  have hfl : ∀ i, f i < 256 := fun i => by rw [hf]; exact u8_lt _
  have hfu : stW f 32 = unfW s := by rw [hf]; rfl
  refine HC_seq fun K1 hK1 => ?_; refine HC_region ?_; refine HL_alloc (cs := #[_, _, _, _]) rfl rfl rfl rfl fun r1 => ?_; refine HL_r rfl rfl rfl rfl (R_assign rfl) ?_; refine HL_nil ?_; refine HQ_then ?_; refine hK1 _ _ _ _ ?_; clear hK1 K1; refine HC_seq fun K2 hK2 => ?_; refine HC_seq fun K3 hK3 => ?_; refine HC_region ?_; refine HL_r rfl rfl rfl rfl (R_move rfl) ?_; refine HL_r rfl rfl rfl rfl (R_lenBs rfl rfl) ?_; refine HL_r rfl rfl rfl rfl (R_pure rfl rfl rfl) ?_; refine HL_nil ?_; refine HQ_then ?_; refine hK3 _ _ _ _ ?_; clear hK3 K3; refine HC_cond rfl (fun h4 => ?_) (fun h4 => ?_)
  · try exact Bool.noConfusion h4
    try simp only [Z1, Z2, Z3, Z4, Z5, Z6, Z7, Z8, Z9, Z10, Z11, Z12, Z13] at h4
    refine HC_seq fun K5 hK5 => ?_; refine HC_region ?_; refine HL_r rfl rfl rfl rfl (R_build (r := [_, _, _, _]) rfl rfl) ?_
    refine HL_storeA (k := 0) (n := 4) (cs' := #[_, _, _, _]) (vs := #[_, _, _, _]) rfl rfl rfl rfl rfl rfl rfl (by exact Nat.le_of_ble_eq_true rfl) rfl (by first | (simp only [List.set_cons_zero, List.set_cons_succ]; exact rfl) | exact rfl) ?_; refine HL_r rfl rfl rfl rfl (R_assign rfl) ?_; refine HL_nil ?_; refine HQ_then ?_; refine hK5 _ _ _ _ ?_; clear hK5 K5; refine HC_ret ?_; refine HQ_thenR ?_; clear hK2 K2; refine HQ_post rfl rfl (.cons (res_cellA (vs := [_, _, _, _]) rfl (known_L (k := 0) rfl) rfl rfl) (.cons (res_tmp rfl) .nil)) (fun w1 hs1 => ?_); refine ⟨?_, hs1.keep⟩; rw [show unfR s = (zW, 2) from by unfold unfR; rw [if_neg (by omega)]]; rfl
  · try exact Bool.noConfusion h4
    try simp only [Z1, Z2, Z3, Z4, Z5, Z6, Z7, Z8, Z9, Z10, Z11, Z12, Z13] at h4
    refine HC_skip ?_; refine HQ_then ?_; refine hK2 _ _ _ _ ?_; clear hK2 K2; refine HC_seq fun K6 hK6 => ?_; refine HC_region ?_; refine HL_alloc (cs := #[_, _, _, _]) rfl rfl rfl rfl fun r2 => ?_; refine HL_nil ?_; refine HQ_then ?_; refine hK6 _ _ _ _ ?_; clear hK6 K6; refine HC_seq fun K7 hK7 => ?_; refine HC_seq fun K8 hK8 => ?_; refine HC_region ?_; refine HL_r rfl rfl rfl rfl (R_move rfl) ?_; refine HL_nil ?_; refine HQ_then ?_; refine hK8 _ _ _ _ ?_; clear hK8 K8; refine HC_block ?_; refine HC_loop (σ := Nat) (fun i => i ≤ 32) (fun i => [(0, .string (bs s)), (2, .pointer (some ⟨r1, 0, none⟩)), (4, .pointer (some ⟨r2, 0, none⟩)), (10, .int .i64 (i : Int))]) (fun i => [(r2, .cells ((stW f i).map uV).toArray 27 (0, 0)), (r1, .cells (zW.map uV).toArray 27 (0, 0))]) (fun _ _ _ => True) (fun i => 32 - i) 0 (Nat.zero_le _) (.cons rfl (.cons rfl (.cons rfl (.cons rfl .nil)))) (List.Sublist.refl _) (fun _ _ h => h) ?_; intro i hi; refine HC_seq fun K9 hK9 => ?_; refine HC_region ?_; refine HL_r rfl rfl rfl rfl (R_pure rfl rfl rfl) ?_; refine HL_nil ?_; refine HQ_then ?_; refine hK9 _ _ _ _ ?_; clear hK9 K9; refine HC_seq fun K10 hK10 => ?_; refine HC_cond rfl (fun h11 => ?_) (fun h11 => ?_)
    · try exact Bool.noConfusion h11
      try simp only [Z1, Z2, Z3, Z4, Z5, Z6, Z7, Z8, Z9, Z10, Z11, Z12, Z13] at h11
      refine HC_skip ?_; refine HQ_then ?_; refine hK10 _ _ _ _ ?_; clear hK10 K10; refine HC_seq fun K12 hK12 => ?_; refine HC_block ?_; refine HC_seq fun K13 hK13 => ?_; refine HC_region ?_; refine HL_r rfl rfl rfl rfl (R_move rfl) ?_; refine HL_r rfl rfl rfl rfl (R_assign rfl) ?_; refine HL_nil ?_; refine HQ_then ?_; refine hK13 _ _ _ _ ?_; clear hK13 K13; refine HC_draw 15 (by kernel_rfl) (by kernel_rfl) ?_; refine HD_r rfl rfl rfl (R_move rfl) ?_; refine HD_r rfl rfl rfl (R_pure rfl rfl rfl) ?_; refine HD_quo (by omega) (by omega) (by omega) ?_; refine HD_r rfl rfl rfl (R_indexA (j := i / 8) (m := 1) (off' := i / 8) rfl rfl rfl rfl (by omega) (by omega) (by omega)) ?_; refine HD_r rfl rfl rfl (R_loadAt rfl (known_L (k := 0) rfl) rfl (mapU_get (by rw [stW_len]; omega))) ?_; refine HD_r rfl rfl rfl (R_move rfl) ?_; refine HD_r rfl rfl rfl (R_move rfl) ?_; refine HD_r rfl rfl rfl (R_pure rfl rfl rfl) ?_; refine HD_wrap_i64 (by omega) (by omega) ?_; refine HD_r rfl rfl rfl (R_indexBs (j := 31 - i) rfl rfl rfl (by omega) (by omega) rfl) ?_; refine HD_r rfl rfl rfl (R_pure rfl rfl rfl) ?_; refine HD_as (show _ = Value.int .u64 ((f i : Nat) : Int) from by rw [hf]; exact congrArg (Value.int .u64) (wrap_u64 (by omega) (by have := u8_lt (s.getD (31 - i) 0); omega))) ?_; refine HD_r rfl rfl rfl (R_move rfl) ?_; refine HD_r rfl rfl rfl (R_pure rfl rfl rfl) ?_; refine HD_rem (by omega) ?_; refine HD_r rfl rfl rfl (R_pure rfl rfl rfl) ?_; refine HD_wrap_i64 (by omega) (by omega) ?_; refine HD_r rfl rfl rfl (R_shl (n := i % 8 * 8) rfl rfl (by omega) (show _ ≤ 64 from by omega) (shl_u64 (sh_lt (hfl i) (by omega)))) ?_; refine HD_r rfl rfl rfl (R_bits64 (op := .or) (b := (((stW f i).getD (i / 8) 0 + f i * 2 ^ (i % 8 * 8) : Nat) : Int)) rfl rfl rfl ((stW_ok hfl i).get _) (sh_lt (hfl i) (by omega)) (congrArg (fun z : Nat => (z : Int)) (by rw [stW_get f (by omega)]; exact or_add (pw_lt hfl _ _)))) ?_; refine HD_r rfl rfl rfl (R_indexA (j := i / 8) (m := 1) (off' := i / 8) rfl rfl rfl rfl (by omega) (by omega) (by omega)) ?_; refine HD_end ?_; refine HL_storeAt (k := 0) (off := i / 8) (xs := (stW f i).map uV) (ys := (stW f (i + 1)).map uV) rfl rfl rfl rfl rfl rfl (by simp [stW_len]; omega) (set_mapU (stW_step f (by omega))) rfl ?_; refine HL_nil ?_; refine HQ_blockN ?_; refine HQ_then ?_; refine hK12 _ _ _ _ ?_; clear hK12 K12; refine HC_region ?_; refine HL_r rfl rfl rfl rfl (R_pure rfl rfl rfl) ?_; refine HL_wrap_i64 (by omega) (by omega) ?_; refine HL_r rfl rfl rfl rfl (R_move rfl) ?_; refine HL_nil ?_; refine HQ_then ?_; exact HQ_again (i + 1) (by omega) (by omega) (.cons rfl (.cons rfl (.cons rfl (.cons rfl .nil)))) (List.Sublist.refl _) (fun _ _ h => h)
    · try exact Bool.noConfusion h11
      try simp only [Z1, Z2, Z3, Z4, Z5, Z6, Z7, Z8, Z9, Z10, Z11, Z12, Z13] at h11
      refine HC_exit ?_; refine HQ_thenE ?_; clear hK10 K10; refine HQ_thenE ?_; refine HQ_blockE ?_; refine HQ_then ?_; refine hK7 _ _ _ _ ?_; clear hK7 K7; refine HC_seq fun K14 hK14 => ?_
      have hi32 : i = 32 := by omega
      subst hi32; refine HC_region ?_; refine HL_r rfl rfl rfl rfl (R_loadArr (xs := (stW f 32).map uV) rfl (known_L (k := 0) rfl) rfl rfl rfl) ?_; refine HL_storeArr (k := 1) (n := 4) (ys := (stW f 32).map uV) rfl rfl rfl rfl rfl rfl rfl rfl rfl ?_; refine HL_r rfl rfl rfl rfl (R_assign rfl) ?_; refine HL_nil ?_; refine HQ_then ?_; refine hK14 _ _ _ _ ?_; clear hK14 K14; refine HC_ret ?_; refine HQ_post rfl rfl (.cons (res_cellA (vs := [_, _, _, _]) rfl (known_L (k := 1) rfl) rfl rfl) (.cons (res_tmp rfl) .nil)) (fun w1 hs1 => ?_); refine ⟨?_, hs1.keep⟩; rw [show unfR s = (unfW s, 0) from by unfold unfR; rw [if_pos (by omega)], ← hfu]; rfl
end Go.Proofs.YtnkmbkndpoghdaaGreat
namespace Go.Proofs.YtnkmbkndpoghdaaGreat
set_option linter.all false
open Go.SL Go.RowKit Go.Shelf
end Go.Proofs.YtnkmbkndpoghdaaGreat
namespace Go.Proofs.YtnkmbkndpoghdaaGreat
set_option linter.all false
open Go.SL Go.RowKit Go.Shelf
end Go.Proofs.YtnkmbkndpoghdaaGreat
namespace Go.Proofs.YtnkmbkndpoghdaaGreat
set_option linter.all false
open Go.SL Go.RowKit Go.Shelf
end Go.Proofs.YtnkmbkndpoghdaaGreat
namespace Go.Proofs.YtnkmbkndpoghdaaGreat
set_option linter.all false
open Go.SL Go.RowKit Go.Shelf
end Go.Proofs.YtnkmbkndpoghdaaGreat
namespace Go.Proofs.YtnkmbkndpoghdaaGreat
set_option linter.all false
open Go.SL Go.RowKit Go.Shelf
theorem P_Repeat0 {n : Nat} (hn : n ≤ 32) : Pure Tryz.prog 106 [.string ⟨#[0]⟩, .int .i64 (n : Int)].toArray (.string (bs (Lib.repeatL [0] n))) := ⟨fun w => by
  have hs : (ByteArray.mk #[0]).size = 1 := rfl
  have h := Tryz.strings_Repeat ⟨#[0]⟩ n w (by omega) (by rw [hs]; omega)
  refine h.mono fun e w' ⟨h1, h2⟩ => ⟨?_, Keep.of_below h2⟩
  rw [h1]; rfl⟩
end Go.Proofs.YtnkmbkndpoghdaaGreat
namespace Go.Proofs.YtnkmbkndpoghdaaGreat
set_option linter.all false
open Go.SL Go.RowKit Go.Shelf
def vA (x : AcL) : Value := .agg (AcL.cells x).toArray
set_option maxRecDepth 10000 in
theorem P_keyA (x : AcL) : Pure Tryz.prog 90 [vA x].toArray (strV (AcL.addr x)) := by
  refine pure_of_HC Tryz.func90 rfl rfl fun w => ?_; refine HC_seq fun K1 hK1 => ?_; refine HC_region ?_; refine HL_box (cs := #[_, _, _, _, _, _, _, _]) rfl rfl rfl rfl fun r1 => ?_; refine HL_r rfl rfl rfl rfl (R_assign rfl) ?_; refine HL_nil ?_; refine HQ_then ?_; refine hK1 _ _ _ _ ?_; clear hK1 K1; refine HC_seq fun K2 hK2 => ?_; refine HC_region ?_
  refine HL_r rfl rfl rfl rfl (R_fieldAddr rfl rfl (by first | (simp only [Nat.zero_add, Nat.reduceAdd, Nat.reduceMul, Nat.zero_mul, Nat.mul_one, Nat.add_zero]; exact rfl) | exact rfl)) ?_; refine HL_r rfl rfl rfl rfl (R_load rfl (known_L (k := 0) rfl) rfl rfl) ?_; refine HL_r rfl rfl rfl rfl (R_assign rfl) ?_; refine HL_nil ?_; refine HQ_then ?_; refine hK2 _ _ _ _ ?_; clear hK2 K2; refine HC_ret ?_; refine HQ_post rfl rfl (.cons (res_tmp rfl) .nil) (fun w1 hs1 => ?_); exact ⟨rfl, hs1.keep⟩
set_option maxRecDepth 10000 in
theorem S_indexA {R : List (Nat × Obj)} {xs : List AcL} {p : Pl} (hl : xs.length ≤ 9223372036854775807) (hs : Seg R xs.length (xs.flatMap AcL.cells) p) {g : FuncId} {caps : List Value} {pr : AcL → Bool} (eg : Enters Tryz.prog g) (hg : ∀ x ∈ xs, PureR Tryz.prog g (vA x :: caps).toArray (.bool (pr x)) R) :
    PureR Tryz.prog 83 [plV xs.length p, .func (.func g) #[] caps.toArray].toArray (.int .i64 (idxI pr xs)) R := by
  refine pureR_of_HC Tryz.func83 rfl rfl fun w => ?_; refine HC_seq fun K1 hK1 => ?_; refine HC_region ?_; refine HL_r rfl rfl rfl rfl (R_assign rfl) ?_; refine HL_nil ?_; refine HQ_then ?_; refine hK1 _ _ _ _ ?_; clear hK1 K1; refine HC_seq fun K2 hK2 => ?_; refine HC_seq fun K3 hK3 => ?_; refine HC_region ?_; refine HL_r rfl rfl rfl rfl (R_move rfl) ?_; refine HL_r rfl rfl rfl rfl (R_lenPl rfl hs rfl) ?_; refine HL_r rfl rfl rfl rfl (R_move rfl) ?_; refine HL_nil ?_; refine HQ_then ?_; refine hK3 _ _ _ _ ?_; clear hK3 K3; refine HC_block ?_; refine HC_loop (σ := Nat) (fun i => i ≤ xs.length ∧ ∀ j, j < i → ∀ y, xs[j]? = some y → pr y = false) (fun i => [(0, plV xs.length p), (1, .func (.func g) #[] caps.toArray), (7, .int .i64 (xs.length : Int)), (8, .int .i64 (i : Int))]) (fun _ => []) (fun _ _ _ => True) (fun i => xs.length - i) 0 ⟨by omega, fun j hj => absurd hj (by omega)⟩ (.cons rfl (.cons rfl (.cons rfl (.cons rfl .nil)))) (List.nil_sublist _) (fun _ _ h => h) ?_; rintro i ⟨hi1, hinv⟩; refine HC_seq fun K4 hK4 => ?_; refine HC_region ?_; refine HL_r rfl rfl rfl rfl (R_pure rfl rfl rfl) ?_; refine HL_nil ?_; refine HQ_then ?_; refine hK4 _ _ _ _ ?_; clear hK4 K4; refine HC_seq fun K5 hK5 => ?_; refine HC_cond rfl (fun h6 => ?_) (fun h6 => ?_)
  · try exact Bool.noConfusion h6
    try simp only [Z1, Z2, Z3, Z4, Z5, Z6, Z7, Z8, Z9, Z10, Z11, Z12, Z13] at h6
    refine HC_skip ?_; refine HQ_then ?_; refine hK5 _ _ _ _ ?_; clear hK5 K5; refine HC_seq fun K7 hK7 => ?_; refine HC_block ?_; refine HC_seq fun K8 hK8 => ?_; refine HC_region ?_; refine HL_r rfl rfl rfl rfl (R_move rfl) ?_; refine HL_r rfl rfl rfl rfl (R_assign rfl) ?_; refine HL_nil ?_; refine HQ_then ?_; refine hK8 _ _ _ _ ?_; clear hK8 K8; refine HC_seq fun K9 hK9 => ?_
    obtain ⟨x, hx, hmx⟩ := getI (show i < xs.length by omega)
    refine HC_region ?_; refine HL_r rfl rfl rfl rfl (R_move rfl) ?_; refine HL_r rfl rfl rfl rfl (R_move rfl) ?_; refine HL_r rfl rfl rfl rfl (R_move rfl) ?_
    refine HL_r rfl rfl rfl rfl (R_indexPl (j := i) rfl hs rfl rfl rfl (by first | rfl | omega) (by omega)) ?_; refine HL_r rfl rfl rfl rfl (R_loadEl AcL.len (fun q hq => Or.inr hq) rfl hs hx rfl rfl) ?_; refine HL_callR rfl rfl rfl eg (hg x hmx) (fun q hq => Or.inr hq) ?_; refine HL_nil ?_; refine HQ_then ?_; refine hK9 _ _ _ _ ?_; clear hK9 K9; refine HC_cond rfl (fun h10 => ?_) (fun h10 => ?_)
    · try exact Bool.noConfusion h10
      try simp only [Z1, Z2, Z3, Z4, Z5, Z6, Z7, Z8, Z9, Z10, Z11, Z12, Z13] at h10
      refine HC_seq fun K11 hK11 => ?_; refine HC_region ?_; refine HL_r rfl rfl rfl rfl (R_move rfl) ?_; refine HL_r rfl rfl rfl rfl (R_assign rfl) ?_; refine HL_nil ?_; refine HQ_then ?_; refine hK11 _ _ _ _ ?_; clear hK11 K11; refine HC_ret ?_; refine HQ_blockR ?_; refine HQ_thenR ?_; clear hK7 K7; refine HQ_thenR ?_; refine HQ_blockR ?_; refine HQ_thenR ?_; clear hK2 K2; refine HQ_post rfl rfl (.cons (res_tmp rfl) .nil) (fun w1 hs1 => ?_); refine ⟨?_, hs1.keep⟩; rw [idx_some hx (by assumption) hinv]; rfl
    · try exact Bool.noConfusion h10
      try simp only [Z1, Z2, Z3, Z4, Z5, Z6, Z7, Z8, Z9, Z10, Z11, Z12, Z13] at h10
      refine HC_skip ?_; refine HQ_blockN ?_; refine HQ_then ?_; refine hK7 _ _ _ _ ?_; clear hK7 K7; refine HC_region ?_; refine HL_r rfl rfl rfl rfl (R_pure rfl rfl rfl) ?_; refine HL_wrap_i64 (by omega) (by omega) ?_; refine HL_r rfl rfl rfl rfl (R_move rfl) ?_; refine HL_nil ?_; refine HQ_then ?_
      exact HQ_again (i + 1) ⟨by omega, fun j hj y hy => by
        rcases Nat.lt_succ_iff_lt_or_eq.1 hj with hj | rfl
        · exact hinv j hj y hy
        · rw [hx] at hy; cases hy; assumption⟩ (by omega) (.cons rfl (.cons rfl (.cons rfl (.cons rfl .nil)))) (List.nil_sublist _) (fun _ _ h => h)
  · try exact Bool.noConfusion h6
    try simp only [Z1, Z2, Z3, Z4, Z5, Z6, Z7, Z8, Z9, Z10, Z11, Z12, Z13] at h6
    refine HC_exit ?_; refine HQ_thenE ?_; clear hK5 K5; refine HQ_thenE ?_; refine HQ_blockE ?_; refine HQ_then ?_; refine hK2 _ _ _ _ ?_; clear hK2 K2; refine HC_seq fun K12 hK12 => ?_; refine HC_region ?_; refine HL_r rfl rfl rfl rfl (R_assign rfl) ?_; refine HL_nil ?_; refine HQ_then ?_; refine hK12 _ _ _ _ ?_; clear hK12 K12; refine HC_ret ?_; refine HQ_post rfl rfl (.cons (res_tmp rfl) .nil) (fun w1 hs1 => ?_); refine ⟨?_, hs1.keep⟩; rw [idx_none fun j x hx => hinv j (by have := (List.getElem?_eq_some_iff.1 hx).1; omega) x hx]; rfl
set_option maxRecDepth 10000 in
theorem S_risesA {R : List (Nat × Obj)} {xs : List AcL} {p : Pl} (hl : xs.length ≤ 9223372036854775807) (hs : Seg R xs.length (xs.flatMap AcL.cells) p) :
    PureR Tryz.prog 89 [plV xs.length p, fV 90].toArray (.bool (risesB AcL.addr xs)) R := by
  refine pureR_of_HC Tryz.func89 rfl rfl fun w => ?_; refine HC_seq fun K1 hK1 => ?_; refine HC_region ?_; refine HL_r rfl rfl rfl rfl (R_assign rfl) ?_; refine HL_nil ?_; refine HQ_then ?_; refine hK1 _ _ _ _ ?_; clear hK1 K1; refine HC_seq fun K2 hK2 => ?_; refine HC_seq fun K3 hK3 => ?_; refine HC_region ?_; refine HL_r rfl rfl rfl rfl (R_assign rfl) ?_; refine HL_nil ?_; refine HQ_then ?_; refine hK3 _ _ _ _ ?_; clear hK3 K3; refine HC_block ?_; refine HC_loop (σ := Nat) (fun i => (i = 0 ∨ i < xs.length) ∧ ∀ j x y, j < i → xs[j]? = some x → xs[j + 1]? = some y → Op.bytesLess (AcL.addr x) (AcL.addr y) = true) (fun i => [(0, plV xs.length p), (1, fV 90), (5, .int .i64 ((i + 1 : Nat) : Int))]) (fun _ => []) (fun _ _ _ => True) (fun i => xs.length - i) 0 ⟨.inl rfl, fun j _ _ hj => absurd hj (by omega)⟩ (.cons rfl (.cons rfl (.cons rfl .nil))) (List.nil_sublist _) (fun _ _ h => h) ?_; rintro i ⟨hi1, hinv⟩; refine HC_seq fun K4 hK4 => ?_; refine HC_seq fun K5 hK5 => ?_; refine HC_region ?_; refine HL_r rfl rfl rfl rfl (R_move rfl) ?_; refine HL_r rfl rfl rfl rfl (R_move rfl) ?_; refine HL_r rfl rfl rfl rfl (R_lenPl rfl hs rfl) ?_; refine HL_r rfl rfl rfl rfl (R_pure rfl rfl rfl) ?_; refine HL_nil ?_; refine HQ_then ?_; refine hK5 _ _ _ _ ?_; clear hK5 K5; refine HC_cond rfl (fun h6 => ?_) (fun h6 => ?_)
  · try exact Bool.noConfusion h6
    try simp only [Z1, Z2, Z3, Z4, Z5, Z6, Z7, Z8, Z9, Z10, Z11, Z12, Z13] at h6
    refine HC_skip ?_; refine HQ_then ?_; refine hK4 _ _ _ _ ?_; clear hK4 K4; refine HC_seq fun K7 hK7 => ?_; refine HC_block ?_; refine HC_seq fun K8 hK8 => ?_
    obtain ⟨x, hx, hmx⟩ := getI (show i < xs.length by omega)
    obtain ⟨y, hy, hmy⟩ := getI (show i + 1 < xs.length by omega)
    refine HC_draw 14 (by kernel_rfl) (by kernel_rfl) ?_; refine HD_r rfl rfl rfl (R_move rfl) ?_; refine HD_r rfl rfl rfl (R_move rfl) ?_; refine HD_r rfl rfl rfl (R_move rfl) ?_; refine HD_r rfl rfl rfl (R_pure rfl rfl rfl) ?_; refine HD_wrap_i64 (by omega) (by omega) ?_
    refine HD_r rfl rfl rfl (R_indexPl (j := i) rfl hs rfl rfl rfl (by first | rfl | omega) (by omega)) ?_; refine HD_r rfl rfl rfl (R_loadEl AcL.len (fun q hq => Or.inr hq) rfl hs hx rfl rfl) ?_; refine HD_callP rfl rfl rfl (enters_of Tryz.func90 (by kernel_rfl) rfl) (P_keyA x) ?_; refine HD_r rfl rfl rfl (R_move rfl) ?_; refine HD_r rfl rfl rfl (R_move rfl) ?_; refine HD_r rfl rfl rfl (R_move rfl) ?_
    refine HD_r rfl rfl rfl (R_indexPl (j := (i + 1)) rfl hs rfl rfl rfl (by first | rfl | omega) (by omega)) ?_; refine HD_r rfl rfl rfl (R_loadEl AcL.len (fun q hq => Or.inr hq) rfl hs hy rfl rfl) ?_; refine HD_callP rfl rfl rfl (enters_of Tryz.func90 (by kernel_rfl) rfl) (P_keyA y) ?_; refine HD_r rfl rfl rfl (R_strGe rfl rfl) ?_; refine HD_end ?_; refine HL_nil ?_; refine HQ_then ?_; refine hK8 _ _ _ _ ?_; clear hK8 K8; refine HC_cond rfl (fun h9 => ?_) (fun h9 => ?_)
    · try exact Bool.noConfusion h9
      try simp only [Z1, Z2, Z3, Z4, Z5, Z6, Z7, Z8, Z9, Z10, Z11, Z12, Z13] at h9
      refine HC_seq fun K10 hK10 => ?_; refine HC_region ?_; refine HL_r rfl rfl rfl rfl (R_assign rfl) ?_; refine HL_nil ?_; refine HQ_then ?_; refine hK10 _ _ _ _ ?_; clear hK10 K10; refine HC_ret ?_; refine HQ_blockR ?_; refine HQ_thenR ?_; clear hK7 K7; refine HQ_thenR ?_; refine HQ_blockR ?_; refine HQ_thenR ?_; clear hK2 K2; refine HQ_post rfl rfl (.cons (res_tmp rfl) .nil) (fun w1 hs1 => ?_); refine ⟨?_, hs1.keep⟩; rw [rises_no hx hy (by simp_all)]; rfl
    · try exact Bool.noConfusion h9
      try simp only [Z1, Z2, Z3, Z4, Z5, Z6, Z7, Z8, Z9, Z10, Z11, Z12, Z13] at h9
      refine HC_skip ?_; refine HQ_blockN ?_; refine HQ_then ?_; refine hK7 _ _ _ _ ?_; clear hK7 K7; refine HC_region ?_; refine HL_r rfl rfl rfl rfl (R_move rfl) ?_; refine HL_r rfl rfl rfl rfl (R_pure rfl rfl rfl) ?_; refine HL_wrap_i64 (by omega) (by omega) ?_; refine HL_r rfl rfl rfl rfl (R_assign rfl) ?_; refine HL_nil ?_; refine HQ_then ?_
      exact HQ_again (i + 1) ⟨.inr (by omega), fun j u v hj hu hv => by
        rcases Nat.lt_succ_iff_lt_or_eq.1 hj with hj | rfl
        · exact hinv j u v hj hu hv
        · rw [hx] at hu; rw [hy] at hv; cases hu; cases hv; simp_all⟩ (by omega) (.cons rfl (.cons rfl (.cons rfl .nil))) (List.nil_sublist _) (fun _ _ h => h)
  · try exact Bool.noConfusion h6
    try simp only [Z1, Z2, Z3, Z4, Z5, Z6, Z7, Z8, Z9, Z10, Z11, Z12, Z13] at h6
    refine HC_exit ?_; refine HQ_thenE ?_; clear hK4 K4; refine HQ_thenE ?_; refine HQ_blockE ?_; refine HQ_then ?_; refine hK2 _ _ _ _ ?_; clear hK2 K2; refine HC_seq fun K11 hK11 => ?_; refine HC_region ?_; refine HL_r rfl rfl rfl rfl (R_assign rfl) ?_; refine HL_nil ?_; refine HQ_then ?_; refine hK11 _ _ _ _ ?_; clear hK11 K11; refine HC_ret ?_; refine HQ_post rfl rfl (.cons (res_tmp rfl) .nil) (fun w1 hs1 => ?_); refine ⟨?_, hs1.keep⟩; rw [rises_yes fun j u v hu hv => hinv j u v (by have := (List.getElem?_eq_some_iff.1 hv).1; omega) hu hv]; rfl
end Go.Proofs.YtnkmbkndpoghdaaGreat
namespace Go.Proofs.YtnkmbkndpoghdaaGreat
set_option linter.all false
open Go.SL Go.RowKit Go.Shelf
def vS (x : (BS × BS)) : Value := .agg (slC x).toArray
set_option maxRecDepth 10000 in
theorem P_keyS (x : (BS × BS)) : Pure Tryz.prog 111 [vS x].toArray (strV (Prod.fst x)) := by
  refine pure_of_HC Tryz.func111 rfl rfl fun w => ?_; refine HC_seq fun K1 hK1 => ?_; refine HC_region ?_; refine HL_box (cs := #[_, _]) rfl rfl rfl rfl fun r1 => ?_; refine HL_r rfl rfl rfl rfl (R_assign rfl) ?_; refine HL_nil ?_; refine HQ_then ?_; refine hK1 _ _ _ _ ?_; clear hK1 K1; refine HC_seq fun K2 hK2 => ?_; refine HC_region ?_
  refine HL_r rfl rfl rfl rfl (R_fieldAddr rfl rfl (by first | (simp only [Nat.zero_add, Nat.reduceAdd, Nat.reduceMul, Nat.zero_mul, Nat.mul_one, Nat.add_zero]; exact rfl) | exact rfl)) ?_; refine HL_r rfl rfl rfl rfl (R_load rfl (known_L (k := 0) rfl) rfl rfl) ?_; refine HL_r rfl rfl rfl rfl (R_assign rfl) ?_; refine HL_nil ?_; refine HQ_then ?_; refine hK2 _ _ _ _ ?_; clear hK2 K2; refine HC_ret ?_; refine HQ_post rfl rfl (.cons (res_tmp rfl) .nil) (fun w1 hs1 => ?_); exact ⟨rfl, hs1.keep⟩
set_option maxRecDepth 10000 in
theorem S_indexS {R : List (Nat × Obj)} {xs : List (BS × BS)} {p : Pl} (hl : xs.length ≤ 9223372036854775807) (hs : Seg R xs.length (xs.flatMap slC) p) {g : FuncId} {caps : List Value} {pr : (BS × BS) → Bool} (eg : Enters Tryz.prog g) (hg : ∀ x ∈ xs, PureR Tryz.prog g (vS x :: caps).toArray (.bool (pr x)) R) :
    PureR Tryz.prog 85 [plV xs.length p, .func (.func g) #[] caps.toArray].toArray (.int .i64 (idxI pr xs)) R := by
  refine pureR_of_HC Tryz.func85 rfl rfl fun w => ?_; refine HC_seq fun K1 hK1 => ?_; refine HC_region ?_; refine HL_r rfl rfl rfl rfl (R_assign rfl) ?_; refine HL_nil ?_; refine HQ_then ?_; refine hK1 _ _ _ _ ?_; clear hK1 K1; refine HC_seq fun K2 hK2 => ?_; refine HC_seq fun K3 hK3 => ?_; refine HC_region ?_; refine HL_r rfl rfl rfl rfl (R_move rfl) ?_; refine HL_r rfl rfl rfl rfl (R_lenPl rfl hs rfl) ?_; refine HL_r rfl rfl rfl rfl (R_move rfl) ?_; refine HL_nil ?_; refine HQ_then ?_; refine hK3 _ _ _ _ ?_; clear hK3 K3; refine HC_block ?_; refine HC_loop (σ := Nat) (fun i => i ≤ xs.length ∧ ∀ j, j < i → ∀ y, xs[j]? = some y → pr y = false) (fun i => [(0, plV xs.length p), (1, .func (.func g) #[] caps.toArray), (7, .int .i64 (xs.length : Int)), (8, .int .i64 (i : Int))]) (fun _ => []) (fun _ _ _ => True) (fun i => xs.length - i) 0 ⟨by omega, fun j hj => absurd hj (by omega)⟩ (.cons rfl (.cons rfl (.cons rfl (.cons rfl .nil)))) (List.nil_sublist _) (fun _ _ h => h) ?_; rintro i ⟨hi1, hinv⟩; refine HC_seq fun K4 hK4 => ?_; refine HC_region ?_; refine HL_r rfl rfl rfl rfl (R_pure rfl rfl rfl) ?_; refine HL_nil ?_; refine HQ_then ?_; refine hK4 _ _ _ _ ?_; clear hK4 K4; refine HC_seq fun K5 hK5 => ?_; refine HC_cond rfl (fun h6 => ?_) (fun h6 => ?_)
  · try exact Bool.noConfusion h6
    try simp only [Z1, Z2, Z3, Z4, Z5, Z6, Z7, Z8, Z9, Z10, Z11, Z12, Z13] at h6
    refine HC_skip ?_; refine HQ_then ?_; refine hK5 _ _ _ _ ?_; clear hK5 K5; refine HC_seq fun K7 hK7 => ?_; refine HC_block ?_; refine HC_seq fun K8 hK8 => ?_; refine HC_region ?_; refine HL_r rfl rfl rfl rfl (R_move rfl) ?_; refine HL_r rfl rfl rfl rfl (R_assign rfl) ?_; refine HL_nil ?_; refine HQ_then ?_; refine hK8 _ _ _ _ ?_; clear hK8 K8; refine HC_seq fun K9 hK9 => ?_
    obtain ⟨x, hx, hmx⟩ := getI (show i < xs.length by omega)
    refine HC_region ?_; refine HL_r rfl rfl rfl rfl (R_move rfl) ?_; refine HL_r rfl rfl rfl rfl (R_move rfl) ?_; refine HL_r rfl rfl rfl rfl (R_move rfl) ?_
    refine HL_r rfl rfl rfl rfl (R_indexPl (j := i) rfl hs rfl rfl rfl (by first | rfl | omega) (by omega)) ?_; refine HL_r rfl rfl rfl rfl (R_loadEl slC_len (fun q hq => Or.inr hq) rfl hs hx rfl rfl) ?_; refine HL_callR rfl rfl rfl eg (hg x hmx) (fun q hq => Or.inr hq) ?_; refine HL_nil ?_; refine HQ_then ?_; refine hK9 _ _ _ _ ?_; clear hK9 K9; refine HC_cond rfl (fun h10 => ?_) (fun h10 => ?_)
    · try exact Bool.noConfusion h10
      try simp only [Z1, Z2, Z3, Z4, Z5, Z6, Z7, Z8, Z9, Z10, Z11, Z12, Z13] at h10
      refine HC_seq fun K11 hK11 => ?_; refine HC_region ?_; refine HL_r rfl rfl rfl rfl (R_move rfl) ?_; refine HL_r rfl rfl rfl rfl (R_assign rfl) ?_; refine HL_nil ?_; refine HQ_then ?_; refine hK11 _ _ _ _ ?_; clear hK11 K11; refine HC_ret ?_; refine HQ_blockR ?_; refine HQ_thenR ?_; clear hK7 K7; refine HQ_thenR ?_; refine HQ_blockR ?_; refine HQ_thenR ?_; clear hK2 K2; refine HQ_post rfl rfl (.cons (res_tmp rfl) .nil) (fun w1 hs1 => ?_); refine ⟨?_, hs1.keep⟩; rw [idx_some hx (by assumption) hinv]; rfl
    · try exact Bool.noConfusion h10
      try simp only [Z1, Z2, Z3, Z4, Z5, Z6, Z7, Z8, Z9, Z10, Z11, Z12, Z13] at h10
      refine HC_skip ?_; refine HQ_blockN ?_; refine HQ_then ?_; refine hK7 _ _ _ _ ?_; clear hK7 K7; refine HC_region ?_; refine HL_r rfl rfl rfl rfl (R_pure rfl rfl rfl) ?_; refine HL_wrap_i64 (by omega) (by omega) ?_; refine HL_r rfl rfl rfl rfl (R_move rfl) ?_; refine HL_nil ?_; refine HQ_then ?_
      exact HQ_again (i + 1) ⟨by omega, fun j hj y hy => by
        rcases Nat.lt_succ_iff_lt_or_eq.1 hj with hj | rfl
        · exact hinv j hj y hy
        · rw [hx] at hy; cases hy; assumption⟩ (by omega) (.cons rfl (.cons rfl (.cons rfl (.cons rfl .nil)))) (List.nil_sublist _) (fun _ _ h => h)
  · try exact Bool.noConfusion h6
    try simp only [Z1, Z2, Z3, Z4, Z5, Z6, Z7, Z8, Z9, Z10, Z11, Z12, Z13] at h6
    refine HC_exit ?_; refine HQ_thenE ?_; clear hK5 K5; refine HQ_thenE ?_; refine HQ_blockE ?_; refine HQ_then ?_; refine hK2 _ _ _ _ ?_; clear hK2 K2; refine HC_seq fun K12 hK12 => ?_; refine HC_region ?_; refine HL_r rfl rfl rfl rfl (R_assign rfl) ?_; refine HL_nil ?_; refine HQ_then ?_; refine hK12 _ _ _ _ ?_; clear hK12 K12; refine HC_ret ?_; refine HQ_post rfl rfl (.cons (res_tmp rfl) .nil) (fun w1 hs1 => ?_); refine ⟨?_, hs1.keep⟩; rw [idx_none fun j x hx => hinv j (by have := (List.getElem?_eq_some_iff.1 hx).1; omega) x hx]; rfl
set_option maxRecDepth 10000 in
theorem S_risesS {R : List (Nat × Obj)} {xs : List (BS × BS)} {p : Pl} (hl : xs.length ≤ 9223372036854775807) (hs : Seg R xs.length (xs.flatMap slC) p) :
    PureR Tryz.prog 110 [plV xs.length p, fV 111].toArray (.bool (risesB Prod.fst xs)) R := by
  refine pureR_of_HC Tryz.func110 rfl rfl fun w => ?_; refine HC_seq fun K1 hK1 => ?_; refine HC_region ?_; refine HL_r rfl rfl rfl rfl (R_assign rfl) ?_; refine HL_nil ?_; refine HQ_then ?_; refine hK1 _ _ _ _ ?_; clear hK1 K1; refine HC_seq fun K2 hK2 => ?_; refine HC_seq fun K3 hK3 => ?_; refine HC_region ?_; refine HL_r rfl rfl rfl rfl (R_assign rfl) ?_; refine HL_nil ?_; refine HQ_then ?_; refine hK3 _ _ _ _ ?_; clear hK3 K3; refine HC_block ?_; refine HC_loop (σ := Nat) (fun i => (i = 0 ∨ i < xs.length) ∧ ∀ j x y, j < i → xs[j]? = some x → xs[j + 1]? = some y → Op.bytesLess (Prod.fst x) (Prod.fst y) = true) (fun i => [(0, plV xs.length p), (1, fV 111), (5, .int .i64 ((i + 1 : Nat) : Int))]) (fun _ => []) (fun _ _ _ => True) (fun i => xs.length - i) 0 ⟨.inl rfl, fun j _ _ hj => absurd hj (by omega)⟩ (.cons rfl (.cons rfl (.cons rfl .nil))) (List.nil_sublist _) (fun _ _ h => h) ?_; rintro i ⟨hi1, hinv⟩; refine HC_seq fun K4 hK4 => ?_; refine HC_seq fun K5 hK5 => ?_; refine HC_region ?_; refine HL_r rfl rfl rfl rfl (R_move rfl) ?_; refine HL_r rfl rfl rfl rfl (R_move rfl) ?_; refine HL_r rfl rfl rfl rfl (R_lenPl rfl hs rfl) ?_; refine HL_r rfl rfl rfl rfl (R_pure rfl rfl rfl) ?_; refine HL_nil ?_; refine HQ_then ?_; refine hK5 _ _ _ _ ?_; clear hK5 K5; refine HC_cond rfl (fun h6 => ?_) (fun h6 => ?_)
  · try exact Bool.noConfusion h6
    try simp only [Z1, Z2, Z3, Z4, Z5, Z6, Z7, Z8, Z9, Z10, Z11, Z12, Z13] at h6
    refine HC_skip ?_; refine HQ_then ?_; refine hK4 _ _ _ _ ?_; clear hK4 K4; refine HC_seq fun K7 hK7 => ?_; refine HC_block ?_; refine HC_seq fun K8 hK8 => ?_
    obtain ⟨x, hx, hmx⟩ := getI (show i < xs.length by omega)
    obtain ⟨y, hy, hmy⟩ := getI (show i + 1 < xs.length by omega)
    refine HC_draw 14 (by kernel_rfl) (by kernel_rfl) ?_; refine HD_r rfl rfl rfl (R_move rfl) ?_; refine HD_r rfl rfl rfl (R_move rfl) ?_; refine HD_r rfl rfl rfl (R_move rfl) ?_; refine HD_r rfl rfl rfl (R_pure rfl rfl rfl) ?_; refine HD_wrap_i64 (by omega) (by omega) ?_
    refine HD_r rfl rfl rfl (R_indexPl (j := i) rfl hs rfl rfl rfl (by first | rfl | omega) (by omega)) ?_; refine HD_r rfl rfl rfl (R_loadEl slC_len (fun q hq => Or.inr hq) rfl hs hx rfl rfl) ?_; refine HD_callP rfl rfl rfl (enters_of Tryz.func111 (by kernel_rfl) rfl) (P_keyS x) ?_; refine HD_r rfl rfl rfl (R_move rfl) ?_; refine HD_r rfl rfl rfl (R_move rfl) ?_; refine HD_r rfl rfl rfl (R_move rfl) ?_
    refine HD_r rfl rfl rfl (R_indexPl (j := (i + 1)) rfl hs rfl rfl rfl (by first | rfl | omega) (by omega)) ?_; refine HD_r rfl rfl rfl (R_loadEl slC_len (fun q hq => Or.inr hq) rfl hs hy rfl rfl) ?_; refine HD_callP rfl rfl rfl (enters_of Tryz.func111 (by kernel_rfl) rfl) (P_keyS y) ?_; refine HD_r rfl rfl rfl (R_strGe rfl rfl) ?_; refine HD_end ?_; refine HL_nil ?_; refine HQ_then ?_; refine hK8 _ _ _ _ ?_; clear hK8 K8; refine HC_cond rfl (fun h9 => ?_) (fun h9 => ?_)
    · try exact Bool.noConfusion h9
      try simp only [Z1, Z2, Z3, Z4, Z5, Z6, Z7, Z8, Z9, Z10, Z11, Z12, Z13] at h9
      refine HC_seq fun K10 hK10 => ?_; refine HC_region ?_; refine HL_r rfl rfl rfl rfl (R_assign rfl) ?_; refine HL_nil ?_; refine HQ_then ?_; refine hK10 _ _ _ _ ?_; clear hK10 K10; refine HC_ret ?_; refine HQ_blockR ?_; refine HQ_thenR ?_; clear hK7 K7; refine HQ_thenR ?_; refine HQ_blockR ?_; refine HQ_thenR ?_; clear hK2 K2; refine HQ_post rfl rfl (.cons (res_tmp rfl) .nil) (fun w1 hs1 => ?_); refine ⟨?_, hs1.keep⟩; rw [rises_no hx hy (by simp_all)]; rfl
    · try exact Bool.noConfusion h9
      try simp only [Z1, Z2, Z3, Z4, Z5, Z6, Z7, Z8, Z9, Z10, Z11, Z12, Z13] at h9
      refine HC_skip ?_; refine HQ_blockN ?_; refine HQ_then ?_; refine hK7 _ _ _ _ ?_; clear hK7 K7; refine HC_region ?_; refine HL_r rfl rfl rfl rfl (R_move rfl) ?_; refine HL_r rfl rfl rfl rfl (R_pure rfl rfl rfl) ?_; refine HL_wrap_i64 (by omega) (by omega) ?_; refine HL_r rfl rfl rfl rfl (R_assign rfl) ?_; refine HL_nil ?_; refine HQ_then ?_
      exact HQ_again (i + 1) ⟨.inr (by omega), fun j u v hj hu hv => by
        rcases Nat.lt_succ_iff_lt_or_eq.1 hj with hj | rfl
        · exact hinv j u v hj hu hv
        · rw [hx] at hu; rw [hy] at hv; cases hu; cases hv; simp_all⟩ (by omega) (.cons rfl (.cons rfl (.cons rfl .nil))) (List.nil_sublist _) (fun _ _ h => h)
  · try exact Bool.noConfusion h6
    try simp only [Z1, Z2, Z3, Z4, Z5, Z6, Z7, Z8, Z9, Z10, Z11, Z12, Z13] at h6
    refine HC_exit ?_; refine HQ_thenE ?_; clear hK4 K4; refine HQ_thenE ?_; refine HQ_blockE ?_; refine HQ_then ?_; refine hK2 _ _ _ _ ?_; clear hK2 K2; refine HC_seq fun K11 hK11 => ?_; refine HC_region ?_; refine HL_r rfl rfl rfl rfl (R_assign rfl) ?_; refine HL_nil ?_; refine HQ_then ?_; refine hK11 _ _ _ _ ?_; clear hK11 K11; refine HC_ret ?_; refine HQ_post rfl rfl (.cons (res_tmp rfl) .nil) (fun w1 hs1 => ?_); refine ⟨?_, hs1.keep⟩; rw [rises_yes fun j u v hu hv => hinv j u v (by have := (List.getElem?_eq_some_iff.1 hv).1; omega) hu hv]; rfl
end Go.Proofs.YtnkmbkndpoghdaaGreat
namespace Go.Proofs.YtnkmbkndpoghdaaGreat
set_option linter.all false
open Go.SL Go.RowKit Go.Shelf
theorem ne_self (a : BS) : (!decide (a = a)) = false := by simp
set_option maxRecDepth 10000 in
theorem P_isNaN (a : BS) : Pure Tryz.prog 163 [strV a].toArray (.bool false) := by
  refine pure_of_HC Tryz.func163 rfl rfl fun w => ?_; refine HC_seq fun K1 hK1 => ?_; refine HC_region ?_; refine HL_r rfl rfl rfl rfl (R_assign rfl) ?_; refine HL_nil ?_; refine HQ_then ?_; refine hK1 _ _ _ _ ?_; clear hK1 K1; refine HC_seq fun K2 hK2 => ?_; refine HC_region ?_; refine HL_r rfl rfl rfl rfl (R_move rfl) ?_; refine HL_r rfl rfl rfl rfl (R_move rfl) ?_; refine HL_r rfl rfl rfl rfl (R_strNe rfl rfl) ?_; refine HL_as (congrArg Value.bool (ne_self a)) ?_; refine HL_r rfl rfl rfl rfl (R_assign rfl) ?_; refine HL_nil ?_; refine HQ_then ?_; refine hK2 _ _ _ _ ?_; clear hK2 K2; refine HC_ret ?_; refine HQ_post rfl rfl (.cons (res_tmp rfl) .nil) (fun w1 hs1 => ?_); exact ⟨rfl, hs1.keep⟩
set_option maxRecDepth 10000 in
theorem P_Compare (a b : BS) : Pure Tryz.prog 154 [strV a, strV b].toArray (.int .i64 (cmpI a b)) := by
  refine pure_of_HC Tryz.func154 rfl rfl fun w => ?_; refine HC_seq fun K1 hK1 => ?_; refine HC_region ?_; refine HL_r rfl rfl rfl rfl (R_assign rfl) ?_; refine HL_nil ?_; refine HQ_then ?_; refine hK1 _ _ _ _ ?_; clear hK1 K1; refine HC_seq fun K2 hK2 => ?_; refine HC_region ?_; refine HL_r rfl rfl rfl rfl (R_move rfl) ?_; refine HL_callP rfl rfl rfl (enters_of Tryz.func163 (by kernel_rfl) rfl) (P_isNaN a) ?_; refine HL_r rfl rfl rfl rfl (R_assign rfl) ?_; refine HL_nil ?_; refine HQ_then ?_; refine hK2 _ _ _ _ ?_; clear hK2 K2; refine HC_seq fun K3 hK3 => ?_; refine HC_region ?_; refine HL_r rfl rfl rfl rfl (R_move rfl) ?_; refine HL_callP rfl rfl rfl (enters_of Tryz.func163 (by kernel_rfl) rfl) (P_isNaN b) ?_; refine HL_r rfl rfl rfl rfl (R_assign rfl) ?_; refine HL_nil ?_; refine HQ_then ?_; refine hK3 _ _ _ _ ?_; clear hK3 K3; refine HC_seq fun K4 hK4 => ?_; refine HC_seq fun K5 hK5 => ?_; refine HC_region ?_; refine HL_r rfl rfl rfl rfl (R_move rfl) ?_; refine HL_nil ?_; refine HQ_then ?_; refine hK5 _ _ _ _ ?_; clear hK5 K5; refine HC_cond rfl (fun h6 => ?_) (fun h6 => ?_)
  · try exact Bool.noConfusion h6
  · try exact Bool.noConfusion h6
    try simp only [Z1, Z2, Z3, Z4, Z5, Z6, Z7, Z8, Z9, Z10, Z11, Z12, Z13] at h6
    refine HC_skip ?_; refine HQ_then ?_; refine hK4 _ _ _ _ ?_; clear hK4 K4; refine HC_seq fun K12 hK12 => ?_; refine HC_seq fun K13 hK13 => ?_; refine HC_region ?_; refine HL_r rfl rfl rfl rfl (R_move rfl) ?_; refine HL_nil ?_; refine HQ_then ?_; refine hK13 _ _ _ _ ?_; clear hK13 K13; refine HC_cond rfl (fun h14 => ?_) (fun h14 => ?_)
    · try exact Bool.noConfusion h14
    · try exact Bool.noConfusion h14
      try simp only [Z1, Z2, Z3, Z4, Z5, Z6, Z7, Z8, Z9, Z10, Z11, Z12, Z13] at h14
      refine HC_skip ?_; refine HQ_then ?_; refine hK12 _ _ _ _ ?_; clear hK12 K12; refine HC_seq fun K16 hK16 => ?_; refine HC_seq fun K17 hK17 => ?_; refine HC_region ?_; refine HL_r rfl rfl rfl rfl (R_move rfl) ?_; refine HL_r rfl rfl rfl rfl (R_move rfl) ?_; refine HL_r rfl rfl rfl rfl (R_strLt rfl rfl) ?_; refine HL_nil ?_; refine HQ_then ?_; refine hK17 _ _ _ _ ?_; clear hK17 K17; refine HC_cond rfl (fun h18 => ?_) (fun h18 => ?_)
      · try exact Bool.noConfusion h18
        try simp only [Z1, Z2, Z3, Z4, Z5, Z6, Z7, Z8, Z9, Z10, Z11, Z12, Z13] at h18
        refine HC_seq fun K19 hK19 => ?_; refine HC_region ?_; refine HL_r rfl rfl rfl rfl (R_assign rfl) ?_; refine HL_nil ?_; refine HQ_then ?_; refine hK19 _ _ _ _ ?_; clear hK19 K19; refine HC_ret ?_; refine HQ_thenR ?_; clear hK16 K16; refine HQ_post rfl rfl (.cons (res_tmp rfl) .nil) (fun w1 hs1 => ?_); refine ⟨?_, hs1.keep⟩
        unfold cmpI
        simp_all [resVal]
      · try exact Bool.noConfusion h18
        try simp only [Z1, Z2, Z3, Z4, Z5, Z6, Z7, Z8, Z9, Z10, Z11, Z12, Z13] at h18
        refine HC_skip ?_; refine HQ_then ?_; refine hK16 _ _ _ _ ?_; clear hK16 K16; refine HC_seq fun K20 hK20 => ?_; refine HC_seq fun K21 hK21 => ?_; refine HC_region ?_; refine HL_r rfl rfl rfl rfl (R_move rfl) ?_; refine HL_r rfl rfl rfl rfl (R_move rfl) ?_; refine HL_r rfl rfl rfl rfl (R_strGt rfl rfl) ?_; refine HL_nil ?_; refine HQ_then ?_; refine hK21 _ _ _ _ ?_; clear hK21 K21; refine HC_cond rfl (fun h22 => ?_) (fun h22 => ?_)
        · try exact Bool.noConfusion h22
          try simp only [Z1, Z2, Z3, Z4, Z5, Z6, Z7, Z8, Z9, Z10, Z11, Z12, Z13] at h22
          refine HC_seq fun K23 hK23 => ?_; refine HC_region ?_; refine HL_r rfl rfl rfl rfl (R_assign rfl) ?_; refine HL_nil ?_; refine HQ_then ?_; refine hK23 _ _ _ _ ?_; clear hK23 K23; refine HC_ret ?_; refine HQ_thenR ?_; clear hK20 K20; refine HQ_post rfl rfl (.cons (res_tmp rfl) .nil) (fun w1 hs1 => ?_); refine ⟨?_, hs1.keep⟩
          unfold cmpI
          simp_all [resVal]
        · try exact Bool.noConfusion h22
          try simp only [Z1, Z2, Z3, Z4, Z5, Z6, Z7, Z8, Z9, Z10, Z11, Z12, Z13] at h22
          refine HC_skip ?_; refine HQ_then ?_; refine hK20 _ _ _ _ ?_; clear hK20 K20; refine HC_seq fun K24 hK24 => ?_; refine HC_region ?_; refine HL_r rfl rfl rfl rfl (R_assign rfl) ?_; refine HL_nil ?_; refine HQ_then ?_; refine hK24 _ _ _ _ ?_; clear hK24 K24; refine HC_ret ?_; refine HQ_post rfl rfl (.cons (res_tmp rfl) .nil) (fun w1 hs1 => ?_); refine ⟨?_, hs1.keep⟩
          unfold cmpI
          simp_all [resVal]
theorem rep_none : Lib.repeatL [0] 32 = noneB := by decide +kernel
set_option maxRecDepth 10000 in
theorem P_none : Pure Tryz.prog 87 [].toArray (strV noneB) := by
  rw [← rep_none]; refine pure_of_HC Tryz.func87 rfl rfl fun w => ?_; refine HC_seq fun K1 hK1 => ?_; refine HC_region ?_; refine HL_r rfl rfl rfl rfl (R_assign rfl) ?_; refine HL_nil ?_; refine HQ_then ?_; refine hK1 _ _ _ _ ?_; clear hK1 K1; refine HC_seq fun K2 hK2 => ?_; refine HC_region ?_; refine HL_callP rfl rfl rfl (enters_of Tryz.func106 (by kernel_rfl) rfl) (P_Repeat0 (n := 32) (by decide)) ?_; refine HL_r rfl rfl rfl rfl (R_assign rfl) ?_; refine HL_nil ?_; refine HQ_then ?_; refine hK2 _ _ _ _ ?_; clear hK2 K2; refine HC_ret ?_; refine HQ_post rfl rfl (.cons (res_tmp rfl) .nil) (fun w1 hs1 => ?_); exact ⟨rfl, hs1.keep⟩
end Go.Proofs.YtnkmbkndpoghdaaGreat
namespace Go.Proofs.YtnkmbkndpoghdaaGreat
set_option linter.all false
open Go.SL Go.RowKit Go.Shelf
set_option maxRecDepth 10000 in
theorem S_atA {R : List (Nat × Obj)} {rb e : Nat} (hb : (rb, Obj.cells #[fV 90] e (0, 0)) ∈ R) (x : AcL) (k : BS) : PureR Tryz.prog 153 [vA x, strV k, .pointer (some ⟨rb, 0, none⟩)].toArray (.int .i64 (cmpI (AcL.addr x) k)) R := by
  refine pureR_of_HC Tryz.func153 rfl rfl fun w => ?_; refine HC_seq fun K1 hK1 => ?_; refine HC_region ?_; refine HL_box (cs := #[_, _, _, _, _, _, _, _]) rfl rfl rfl rfl fun r1 => ?_; refine HL_r rfl rfl rfl rfl (R_assign rfl) ?_; refine HL_nil ?_; refine HQ_then ?_; refine hK1 _ _ _ _ ?_; clear hK1 K1; refine HC_seq fun K2 hK2 => ?_; refine HC_region ?_; refine HL_r rfl rfl rfl rfl (R_load rfl (Or.inr hb) rfl rfl) ?_; refine HL_r rfl rfl rfl rfl (R_loadA (vs := [_, _, _, _, _, _, _, _]) rfl (known_L (k := 0) rfl) rfl rfl rfl rfl) ?_; refine HL_callP rfl rfl rfl (enters_of Tryz.func90 (by kernel_rfl) rfl) (P_keyA x) ?_; refine HL_r rfl rfl rfl rfl (R_move rfl) ?_; refine HL_callP rfl rfl rfl (enters_of Tryz.func154 (by kernel_rfl) rfl) (P_Compare (AcL.addr x) k) ?_; refine HL_r rfl rfl rfl rfl (R_assign rfl) ?_; refine HL_nil ?_; refine HQ_then ?_; refine hK2 _ _ _ _ ?_; clear hK2 K2; refine HC_ret ?_; refine HQ_post rfl rfl (.cons (res_tmp rfl) .nil) (fun w1 hs1 => ?_); exact ⟨rfl, hs1.keep⟩
set_option maxRecDepth 10000 in
theorem S_searchA {R : List (Nat × Obj)} {xs : List AcL} {p : Pl} (hl : xs.length ≤ 1000) (hs : Seg R xs.length (xs.flatMap AcL.cells) p) (hso : Sorted AcL.addr xs) {k : BS} {g : FuncId} {caps : List Value} (eg : Enters Tryz.prog g) (hg : ∀ x ∈ xs, PureR Tryz.prog g (vA x :: strV k :: caps).toArray (.int .i64 (cmpI (AcL.addr x) k)) R) :
    PureR Tryz.prog 152 [plV xs.length p, strV k, .func (.func g) #[] caps.toArray].toArray (.tuple #[.int .i64 (loL AcL.addr k xs : Nat), .bool (thereL AcL.addr k xs)]) R := by
  refine pureR_of_HC Tryz.func152 rfl rfl fun w => ?_; refine HC_seq fun K1 hK1 => ?_; refine HC_region ?_; refine HL_r rfl rfl rfl rfl (R_assign rfl) ?_; refine HL_r rfl rfl rfl rfl (R_assign rfl) ?_; refine HL_nil ?_; refine HQ_then ?_; refine hK1 _ _ _ _ ?_; clear hK1 K1; refine HC_seq fun K2 hK2 => ?_; refine HC_region ?_; refine HL_r rfl rfl rfl rfl (R_move rfl) ?_; refine HL_r rfl rfl rfl rfl (R_lenPl rfl hs rfl) ?_; refine HL_r rfl rfl rfl rfl (R_assign rfl) ?_; refine HL_nil ?_; refine HQ_then ?_; refine hK2 _ _ _ _ ?_; clear hK2 K2; refine HC_seq fun K3 hK3 => ?_; refine HC_region ?_; refine HL_r rfl rfl rfl rfl (R_move rfl) ?_; refine HL_r rfl rfl rfl rfl (R_assign rfl) ?_; refine HL_r rfl rfl rfl rfl (R_assign rfl) ?_; refine HL_nil ?_; refine HQ_then ?_; refine hK3 _ _ _ _ ?_; clear hK3 K3; refine HC_seq fun K4 hK4 => ?_; refine HC_block ?_; refine HC_loop (σ := Nat × Nat) (fun s => (s.1 ≤ s.2 ∧ s.2 ≤ xs.length) ∧ (∀ q y, q < s.1 → xs[q]? = some y → Op.bytesLess (AcL.addr y) k = true) ∧ ∀ q y, s.2 ≤ q → xs[q]? = some y → Op.bytesLess (AcL.addr y) k = false) (fun s => [(0, plV xs.length p), (1, strV k), (2, .func (.func g) #[] caps.toArray), (8, .int .i64 (xs.length : Int)), (9, .int .i64 (s.1 : Int)), (10, .int .i64 (s.2 : Int))]) (fun _ => []) (fun _ _ _ => True) (fun s => s.2 - s.1) (0, xs.length) ⟨⟨Nat.zero_le _, Nat.le_refl _⟩, fun q _ hq => absurd hq (Nat.not_lt_zero q), fun q y hq hy => absurd (List.getElem?_eq_some_iff.1 hy).1 (by omega)⟩ (.cons rfl (.cons rfl (.cons rfl (.cons rfl (.cons rfl (.cons rfl .nil)))))) (List.nil_sublist _) (fun _ _ h => h) ?_; rintro ⟨i, j⟩ ⟨⟨hi0, hj0⟩, hi1, hi2⟩; simp only at hi0 hj0 hi1 hi2; change HC _ _ [(0, _), (1, _), (2, _), (8, _), (9, .int .i64 (i : Int)), (10, .int .i64 (j : Int))] _ _ _ _; refine HC_seq fun K5 hK5 => ?_; refine HC_seq fun K6 hK6 => ?_; refine HC_region ?_; refine HL_r rfl rfl rfl rfl (R_move rfl) ?_; refine HL_r rfl rfl rfl rfl (R_move rfl) ?_; refine HL_r rfl rfl rfl rfl (R_pure rfl rfl rfl) ?_; refine HL_nil ?_; refine HQ_then ?_; refine hK6 _ _ _ _ ?_; clear hK6 K6; refine HC_cond rfl (fun h7 => ?_) (fun h7 => ?_)
  · try exact Bool.noConfusion h7
    try simp only [Z1, Z2, Z3, Z4, Z5, Z6, Z7, Z8, Z9, Z10, Z11, Z12, Z13] at h7
    refine HC_skip ?_; refine HQ_then ?_; refine hK5 _ _ _ _ ?_; clear hK5 K5; refine HC_block ?_; refine HC_seq fun K8 hK8 => ?_; refine HC_region ?_; refine HL_r rfl rfl rfl rfl (R_move rfl) ?_; refine HL_r rfl rfl rfl rfl (R_move rfl) ?_; refine HL_r rfl rfl rfl rfl (R_pure rfl rfl rfl) ?_; refine HL_wrap_i64 (by omega) (by omega) ?_; refine HL_r rfl rfl rfl rfl (R_pure rfl rfl rfl) ?_; refine HL_wrap_u64 (by omega) (by omega) ?_; refine HL_r rfl rfl rfl rfl (R_shr (n := 1) (b := (((i + j) / 2 : Nat) : Int)) rfl rfl rfl (by decide) (by omega) (by omega)) ?_; refine HL_r rfl rfl rfl rfl (R_pure rfl rfl rfl) ?_; refine HL_wrap_i64 (by omega) (by omega) ?_; refine HL_r rfl rfl rfl rfl (R_assign rfl) ?_; refine HL_nil ?_; refine HQ_then ?_; refine hK8 _ _ _ _ ?_; clear hK8 K8; refine HC_seq fun K9 hK9 => ?_
    obtain ⟨x, hx, hmx⟩ := getI (show (i + j) / 2 < xs.length by omega)
    refine HC_region ?_; refine HL_r rfl rfl rfl rfl (R_move rfl) ?_; refine HL_r rfl rfl rfl rfl (R_move rfl) ?_; refine HL_r rfl rfl rfl rfl (R_move rfl) ?_
    refine HL_r rfl rfl rfl rfl (R_indexPl (j := ((i + j) / 2)) rfl hs rfl rfl rfl (by first | rfl | omega) (by omega)) ?_; refine HL_r rfl rfl rfl rfl (R_loadEl AcL.len (fun q hq => Or.inr hq) rfl hs hx rfl rfl) ?_; refine HL_r rfl rfl rfl rfl (R_move rfl) ?_; refine HL_callR rfl rfl rfl eg (hg x hmx) (fun q hq => Or.inr hq) ?_; refine HL_r rfl rfl rfl rfl (R_pure rfl rfl rfl) ?_; refine HL_as (congrArg Value.bool (cmp_neg (AcL.addr x) k)) ?_; refine HL_nil ?_; refine HQ_then ?_; refine hK9 _ _ _ _ ?_; clear hK9 K9; refine HC_cond rfl (fun h10 => ?_) (fun h10 => ?_)
    · try exact Bool.noConfusion h10
      try simp only [Z1, Z2, Z3, Z4, Z5, Z6, Z7, Z8, Z9, Z10, Z11, Z12, Z13] at h10
      refine HC_region ?_; refine HL_r rfl rfl rfl rfl (R_move rfl) ?_; refine HL_r rfl rfl rfl rfl (R_pure rfl rfl rfl) ?_; refine HL_wrap_i64 (by omega) (by omega) ?_; refine HL_r rfl rfl rfl rfl (R_assign rfl) ?_; refine HL_nil ?_; refine HQ_blockN ?_; refine HQ_then ?_; exact HQ_again ((i + j) / 2 + 1, j) ⟨⟨by simp only; omega, hj0⟩, below_of hso hx (by assumption), hi2⟩ (by simp only; omega) (.cons rfl (.cons rfl (.cons rfl (.cons rfl (.cons rfl (.cons rfl .nil)))))) (List.nil_sublist _) (fun _ _ h => h)
    · try exact Bool.noConfusion h10
      try simp only [Z1, Z2, Z3, Z4, Z5, Z6, Z7, Z8, Z9, Z10, Z11, Z12, Z13] at h10
      refine HC_region ?_; refine HL_r rfl rfl rfl rfl (R_move rfl) ?_; refine HL_r rfl rfl rfl rfl (R_assign rfl) ?_; refine HL_nil ?_; refine HQ_blockN ?_; refine HQ_then ?_; exact HQ_again (i, (i + j) / 2) ⟨⟨by simp only; omega, by simp only; omega⟩, hi1, above_of hso hx (by assumption)⟩ (by simp only; omega) (.cons rfl (.cons rfl (.cons rfl (.cons rfl (.cons rfl (.cons rfl .nil)))))) (List.nil_sublist _) (fun _ _ h => h)
  · try exact Bool.noConfusion h7
    try simp only [Z1, Z2, Z3, Z4, Z5, Z6, Z7, Z8, Z9, Z10, Z11, Z12, Z13] at h7
    refine HC_exit ?_; refine HQ_thenE ?_; clear hK5 K5; refine HQ_thenE ?_; refine HQ_blockE ?_; refine HQ_then ?_; refine hK4 _ _ _ _ ?_; clear hK4 K4; refine HC_seq fun K11 hK11 => ?_
    have hij : i = j := by omega
    have hlo : i = loL AcL.addr k xs := lo_eq (by omega) hi1 (fun y hy => hi2 i y (by omega) hy)
    refine HC_region ?_; refine HL_r rfl rfl rfl rfl (R_move rfl) ?_; refine HL_r rfl rfl rfl rfl (R_move rfl) ?_; refine HL_r rfl rfl rfl rfl (R_move rfl) ?_; refine HL_r rfl rfl rfl rfl (R_pure rfl rfl rfl) ?_; refine HL_r rfl rfl rfl rfl (R_move rfl) ?_
    refine HL_case 39 rfl (fun hb12 => ?_) (fun hb12 => ?_) <;> (try simp only [Z1, Z2, Z3, Z4, Z5, Z6, Z7, Z8, Z9, Z10, Z11, Z12, Z13] at hb12) <;> first | (refine HL_r rfl rfl rfl rfl (R_move rfl) ?_) | (refine HL_skip rfl rfl rfl ?_)
    all_goals first
      | (refine HL_r rfl rfl rfl rfl (R_move rfl) ?_)
      | (refine HL_skip rfl rfl rfl ?_)
    all_goals first
      | (refine HL_r rfl rfl rfl rfl (R_move rfl) ?_)
      | (refine HL_skip rfl rfl rfl ?_)
    all_goals first
      | (obtain ⟨x, hx, hmx⟩ := getI (show i < xs.length by omega); refine HL_r rfl rfl rfl rfl (R_indexPl (j := i) rfl hs rfl rfl rfl (by first | rfl | omega) (by omega)) ?_)
      | (refine HL_skip rfl rfl rfl ?_)
    all_goals first
      | (refine HL_r rfl rfl rfl rfl (R_loadEl AcL.len (fun q hq => Or.inr hq) rfl hs hx rfl rfl) ?_)
      | (refine HL_skip rfl rfl rfl ?_)
    all_goals first
      | (refine HL_r rfl rfl rfl rfl (R_move rfl) ?_)
      | (refine HL_skip rfl rfl rfl ?_)
    all_goals first
      | (refine HL_callR rfl rfl rfl eg (hg x hmx) (fun q hq => Or.inr hq) ?_)
      | (refine HL_skip rfl rfl rfl ?_)
    all_goals first
      | (refine HL_r rfl rfl rfl rfl (R_pure rfl rfl rfl) ?_; refine HL_as (congrArg Value.bool (cmp_zero (AcL.addr x) k)) ?_)
      | (refine HL_skip rfl rfl rfl ?_)
    all_goals first
      | (refine HL_r rfl rfl rfl rfl (R_pickT rfl rfl) ?_)
      | (refine HL_r rfl rfl rfl rfl (R_pickF rfl rfl) ?_)
    all_goals refine HL_r rfl rfl rfl rfl (R_assign rfl) ?_
    all_goals refine HL_r rfl rfl rfl rfl (R_assign rfl) ?_
    all_goals refine HL_nil ?_
    all_goals (
     refine HQ_then ?_; refine hK11 _ _ _ _ ?_; clear hK11 K11; refine HC_ret ?_; refine HQ_post rfl rfl (.cons (res_tmp rfl) (.cons (res_tmp rfl) .nil)) (fun w1 hs1 => ?_); refine ⟨?_, hs1.keep⟩
     first
       | (rw [← there_in (kf := AcL.addr) (hlo ▸ hx), ← hlo]; rfl)
       | (rw [there_out (kf := AcL.addr) (by omega), ← hlo]; rfl)
     skip)
set_option maxRecDepth 10000 in
theorem S_placeA {R : List (Nat × Obj)} {xs : List AcL} {p : Pl} (hl : xs.length ≤ 1000) (hs : Seg R xs.length (xs.flatMap AcL.cells) p) (hso : Sorted AcL.addr xs) {k : BS} :
    PureR Tryz.prog 137 [plV xs.length p, strV k, fV 90].toArray (.tuple #[.int .i64 (loL AcL.addr k xs : Nat), .bool (thereL AcL.addr k xs)]) R := by
  refine pureR_of_HC Tryz.func137 rfl rfl fun w => ?_; refine HC_seq fun K1 hK1 => ?_; refine HC_region ?_; refine HL_box (cs := #[_]) rfl rfl rfl rfl fun r1 => ?_; refine HL_r rfl rfl rfl rfl (R_assign rfl) ?_; refine HL_r rfl rfl rfl rfl (R_assign rfl) ?_; refine HL_nil ?_; refine HQ_then ?_; refine hK1 _ _ _ _ ?_; clear hK1 K1; refine HC_seq fun K2 hK2 => ?_; refine HC_region ?_; refine HL_r rfl rfl rfl rfl (R_move rfl) ?_; refine HL_r rfl rfl rfl rfl (R_move rfl) ?_; refine HL_r rfl rfl rfl rfl (R_makeFunc rfl rfl) ?_; refine HL_callR (Rl := (r1, Obj.cells #[fV 90] _ (0, 0)) :: R) rfl rfl rfl (enters_of Tryz.func152 (by kernel_rfl) rfl) (S_searchA (caps := [.pointer (some ⟨r1, 0, none⟩)]) hl (hs.mono fun q hq => List.mem_cons_of_mem _ hq) hso (enters_of Tryz.func153 (by kernel_rfl) rfl) (fun x hx => S_atA List.mem_cons_self x k)) (fun q hq => (List.mem_cons.1 hq).elim (fun h => Or.inl (by rw [h]; exact List.mem_cons_self)) Or.inr) ?_; refine HL_r rfl rfl rfl rfl (R_extract rfl rfl) ?_; refine HL_r rfl rfl rfl rfl (R_extract rfl rfl) ?_; refine HL_r rfl rfl rfl rfl (R_assign rfl) ?_; refine HL_r rfl rfl rfl rfl (R_assign rfl) ?_; refine HL_nil ?_; refine HQ_then ?_; refine hK2 _ _ _ _ ?_; clear hK2 K2; refine HC_ret ?_; refine HQ_post rfl rfl (.cons (res_tmp rfl) (.cons (res_tmp rfl) .nil)) (fun w1 hs1 => ?_); exact ⟨rfl, hs1.keep⟩
end Go.Proofs.YtnkmbkndpoghdaaGreat
namespace Go.Proofs.YtnkmbkndpoghdaaGreat
set_option linter.all false
open Go.SL Go.RowKit Go.Shelf
set_option maxRecDepth 10000 in
theorem S_atS {R : List (Nat × Obj)} {rb e : Nat} (hb : (rb, Obj.cells #[fV 111] e (0, 0)) ∈ R) (x : (BS × BS)) (k : BS) : PureR Tryz.prog 158 [vS x, strV k, .pointer (some ⟨rb, 0, none⟩)].toArray (.int .i64 (cmpI (Prod.fst x) k)) R := by
  refine pureR_of_HC Tryz.func158 rfl rfl fun w => ?_; refine HC_seq fun K1 hK1 => ?_; refine HC_region ?_; refine HL_box (cs := #[_, _]) rfl rfl rfl rfl fun r1 => ?_; refine HL_r rfl rfl rfl rfl (R_assign rfl) ?_; refine HL_nil ?_; refine HQ_then ?_; refine hK1 _ _ _ _ ?_; clear hK1 K1; refine HC_seq fun K2 hK2 => ?_; refine HC_region ?_; refine HL_r rfl rfl rfl rfl (R_load rfl (Or.inr hb) rfl rfl) ?_; refine HL_r rfl rfl rfl rfl (R_loadA (vs := [_, _]) rfl (known_L (k := 0) rfl) rfl rfl rfl rfl) ?_; refine HL_callP rfl rfl rfl (enters_of Tryz.func111 (by kernel_rfl) rfl) (P_keyS x) ?_; refine HL_r rfl rfl rfl rfl (R_move rfl) ?_; refine HL_callP rfl rfl rfl (enters_of Tryz.func154 (by kernel_rfl) rfl) (P_Compare (Prod.fst x) k) ?_; refine HL_r rfl rfl rfl rfl (R_assign rfl) ?_; refine HL_nil ?_; refine HQ_then ?_; refine hK2 _ _ _ _ ?_; clear hK2 K2; refine HC_ret ?_; refine HQ_post rfl rfl (.cons (res_tmp rfl) .nil) (fun w1 hs1 => ?_); exact ⟨rfl, hs1.keep⟩
set_option maxRecDepth 10000 in
theorem S_searchS {R : List (Nat × Obj)} {xs : List (BS × BS)} {p : Pl} (hl : xs.length ≤ 1000) (hs : Seg R xs.length (xs.flatMap slC) p) (hso : Sorted Prod.fst xs) {k : BS} {g : FuncId} {caps : List Value} (eg : Enters Tryz.prog g) (hg : ∀ x ∈ xs, PureR Tryz.prog g (vS x :: strV k :: caps).toArray (.int .i64 (cmpI (Prod.fst x) k)) R) :
    PureR Tryz.prog 157 [plV xs.length p, strV k, .func (.func g) #[] caps.toArray].toArray (.tuple #[.int .i64 (loL Prod.fst k xs : Nat), .bool (thereL Prod.fst k xs)]) R := by
  refine pureR_of_HC Tryz.func157 rfl rfl fun w => ?_; refine HC_seq fun K1 hK1 => ?_; refine HC_region ?_; refine HL_r rfl rfl rfl rfl (R_assign rfl) ?_; refine HL_r rfl rfl rfl rfl (R_assign rfl) ?_; refine HL_nil ?_; refine HQ_then ?_; refine hK1 _ _ _ _ ?_; clear hK1 K1; refine HC_seq fun K2 hK2 => ?_; refine HC_region ?_; refine HL_r rfl rfl rfl rfl (R_move rfl) ?_; refine HL_r rfl rfl rfl rfl (R_lenPl rfl hs rfl) ?_; refine HL_r rfl rfl rfl rfl (R_assign rfl) ?_; refine HL_nil ?_; refine HQ_then ?_; refine hK2 _ _ _ _ ?_; clear hK2 K2; refine HC_seq fun K3 hK3 => ?_; refine HC_region ?_; refine HL_r rfl rfl rfl rfl (R_move rfl) ?_; refine HL_r rfl rfl rfl rfl (R_assign rfl) ?_; refine HL_r rfl rfl rfl rfl (R_assign rfl) ?_; refine HL_nil ?_; refine HQ_then ?_; refine hK3 _ _ _ _ ?_; clear hK3 K3; refine HC_seq fun K4 hK4 => ?_; refine HC_block ?_; refine HC_loop (σ := Nat × Nat) (fun s => (s.1 ≤ s.2 ∧ s.2 ≤ xs.length) ∧ (∀ q y, q < s.1 → xs[q]? = some y → Op.bytesLess (Prod.fst y) k = true) ∧ ∀ q y, s.2 ≤ q → xs[q]? = some y → Op.bytesLess (Prod.fst y) k = false) (fun s => [(0, plV xs.length p), (1, strV k), (2, .func (.func g) #[] caps.toArray), (8, .int .i64 (xs.length : Int)), (9, .int .i64 (s.1 : Int)), (10, .int .i64 (s.2 : Int))]) (fun _ => []) (fun _ _ _ => True) (fun s => s.2 - s.1) (0, xs.length) ⟨⟨Nat.zero_le _, Nat.le_refl _⟩, fun q _ hq => absurd hq (Nat.not_lt_zero q), fun q y hq hy => absurd (List.getElem?_eq_some_iff.1 hy).1 (by omega)⟩ (.cons rfl (.cons rfl (.cons rfl (.cons rfl (.cons rfl (.cons rfl .nil)))))) (List.nil_sublist _) (fun _ _ h => h) ?_; rintro ⟨i, j⟩ ⟨⟨hi0, hj0⟩, hi1, hi2⟩; simp only at hi0 hj0 hi1 hi2; change HC _ _ [(0, _), (1, _), (2, _), (8, _), (9, .int .i64 (i : Int)), (10, .int .i64 (j : Int))] _ _ _ _; refine HC_seq fun K5 hK5 => ?_; refine HC_seq fun K6 hK6 => ?_; refine HC_region ?_; refine HL_r rfl rfl rfl rfl (R_move rfl) ?_; refine HL_r rfl rfl rfl rfl (R_move rfl) ?_; refine HL_r rfl rfl rfl rfl (R_pure rfl rfl rfl) ?_; refine HL_nil ?_; refine HQ_then ?_; refine hK6 _ _ _ _ ?_; clear hK6 K6; refine HC_cond rfl (fun h7 => ?_) (fun h7 => ?_)
  · try exact Bool.noConfusion h7
    try simp only [Z1, Z2, Z3, Z4, Z5, Z6, Z7, Z8, Z9, Z10, Z11, Z12, Z13] at h7
    refine HC_skip ?_; refine HQ_then ?_; refine hK5 _ _ _ _ ?_; clear hK5 K5; refine HC_block ?_; refine HC_seq fun K8 hK8 => ?_; refine HC_region ?_; refine HL_r rfl rfl rfl rfl (R_move rfl) ?_; refine HL_r rfl rfl rfl rfl (R_move rfl) ?_; refine HL_r rfl rfl rfl rfl (R_pure rfl rfl rfl) ?_; refine HL_wrap_i64 (by omega) (by omega) ?_; refine HL_r rfl rfl rfl rfl (R_pure rfl rfl rfl) ?_; refine HL_wrap_u64 (by omega) (by omega) ?_; refine HL_r rfl rfl rfl rfl (R_shr (n := 1) (b := (((i + j) / 2 : Nat) : Int)) rfl rfl rfl (by decide) (by omega) (by omega)) ?_; refine HL_r rfl rfl rfl rfl (R_pure rfl rfl rfl) ?_; refine HL_wrap_i64 (by omega) (by omega) ?_; refine HL_r rfl rfl rfl rfl (R_assign rfl) ?_; refine HL_nil ?_; refine HQ_then ?_; refine hK8 _ _ _ _ ?_; clear hK8 K8; refine HC_seq fun K9 hK9 => ?_
    obtain ⟨x, hx, hmx⟩ := getI (show (i + j) / 2 < xs.length by omega)
    refine HC_region ?_; refine HL_r rfl rfl rfl rfl (R_move rfl) ?_; refine HL_r rfl rfl rfl rfl (R_move rfl) ?_; refine HL_r rfl rfl rfl rfl (R_move rfl) ?_
    refine HL_r rfl rfl rfl rfl (R_indexPl (j := ((i + j) / 2)) rfl hs rfl rfl rfl (by first | rfl | omega) (by omega)) ?_; refine HL_r rfl rfl rfl rfl (R_loadEl slC_len (fun q hq => Or.inr hq) rfl hs hx rfl rfl) ?_; refine HL_r rfl rfl rfl rfl (R_move rfl) ?_; refine HL_callR rfl rfl rfl eg (hg x hmx) (fun q hq => Or.inr hq) ?_; refine HL_r rfl rfl rfl rfl (R_pure rfl rfl rfl) ?_; refine HL_as (congrArg Value.bool (cmp_neg (Prod.fst x) k)) ?_; refine HL_nil ?_; refine HQ_then ?_; refine hK9 _ _ _ _ ?_; clear hK9 K9; refine HC_cond rfl (fun h10 => ?_) (fun h10 => ?_)
    · try exact Bool.noConfusion h10
      try simp only [Z1, Z2, Z3, Z4, Z5, Z6, Z7, Z8, Z9, Z10, Z11, Z12, Z13] at h10
      refine HC_region ?_; refine HL_r rfl rfl rfl rfl (R_move rfl) ?_; refine HL_r rfl rfl rfl rfl (R_pure rfl rfl rfl) ?_; refine HL_wrap_i64 (by omega) (by omega) ?_; refine HL_r rfl rfl rfl rfl (R_assign rfl) ?_; refine HL_nil ?_; refine HQ_blockN ?_; refine HQ_then ?_; exact HQ_again ((i + j) / 2 + 1, j) ⟨⟨by simp only; omega, hj0⟩, below_of hso hx (by assumption), hi2⟩ (by simp only; omega) (.cons rfl (.cons rfl (.cons rfl (.cons rfl (.cons rfl (.cons rfl .nil)))))) (List.nil_sublist _) (fun _ _ h => h)
    · try exact Bool.noConfusion h10
      try simp only [Z1, Z2, Z3, Z4, Z5, Z6, Z7, Z8, Z9, Z10, Z11, Z12, Z13] at h10
      refine HC_region ?_; refine HL_r rfl rfl rfl rfl (R_move rfl) ?_; refine HL_r rfl rfl rfl rfl (R_assign rfl) ?_; refine HL_nil ?_; refine HQ_blockN ?_; refine HQ_then ?_; exact HQ_again (i, (i + j) / 2) ⟨⟨by simp only; omega, by simp only; omega⟩, hi1, above_of hso hx (by assumption)⟩ (by simp only; omega) (.cons rfl (.cons rfl (.cons rfl (.cons rfl (.cons rfl (.cons rfl .nil)))))) (List.nil_sublist _) (fun _ _ h => h)
  · try exact Bool.noConfusion h7
    try simp only [Z1, Z2, Z3, Z4, Z5, Z6, Z7, Z8, Z9, Z10, Z11, Z12, Z13] at h7
    refine HC_exit ?_; refine HQ_thenE ?_; clear hK5 K5; refine HQ_thenE ?_; refine HQ_blockE ?_; refine HQ_then ?_; refine hK4 _ _ _ _ ?_; clear hK4 K4; refine HC_seq fun K11 hK11 => ?_
    have hij : i = j := by omega
    have hlo : i = loL Prod.fst k xs := lo_eq (by omega) hi1 (fun y hy => hi2 i y (by omega) hy)
    refine HC_region ?_; refine HL_r rfl rfl rfl rfl (R_move rfl) ?_; refine HL_r rfl rfl rfl rfl (R_move rfl) ?_; refine HL_r rfl rfl rfl rfl (R_move rfl) ?_; refine HL_r rfl rfl rfl rfl (R_pure rfl rfl rfl) ?_; refine HL_r rfl rfl rfl rfl (R_move rfl) ?_
    refine HL_case 39 rfl (fun hb12 => ?_) (fun hb12 => ?_) <;> (try simp only [Z1, Z2, Z3, Z4, Z5, Z6, Z7, Z8, Z9, Z10, Z11, Z12, Z13] at hb12) <;> first | (refine HL_r rfl rfl rfl rfl (R_move rfl) ?_) | (refine HL_skip rfl rfl rfl ?_)
    all_goals first
      | (refine HL_r rfl rfl rfl rfl (R_move rfl) ?_)
      | (refine HL_skip rfl rfl rfl ?_)
    all_goals first
      | (refine HL_r rfl rfl rfl rfl (R_move rfl) ?_)
      | (refine HL_skip rfl rfl rfl ?_)
    all_goals first
      | (obtain ⟨x, hx, hmx⟩ := getI (show i < xs.length by omega); refine HL_r rfl rfl rfl rfl (R_indexPl (j := i) rfl hs rfl rfl rfl (by first | rfl | omega) (by omega)) ?_)
      | (refine HL_skip rfl rfl rfl ?_)
    all_goals first
      | (refine HL_r rfl rfl rfl rfl (R_loadEl slC_len (fun q hq => Or.inr hq) rfl hs hx rfl rfl) ?_)
      | (refine HL_skip rfl rfl rfl ?_)
    all_goals first
      | (refine HL_r rfl rfl rfl rfl (R_move rfl) ?_)
      | (refine HL_skip rfl rfl rfl ?_)
    all_goals first
      | (refine HL_callR rfl rfl rfl eg (hg x hmx) (fun q hq => Or.inr hq) ?_)
      | (refine HL_skip rfl rfl rfl ?_)
    all_goals first
      | (refine HL_r rfl rfl rfl rfl (R_pure rfl rfl rfl) ?_; refine HL_as (congrArg Value.bool (cmp_zero (Prod.fst x) k)) ?_)
      | (refine HL_skip rfl rfl rfl ?_)
    all_goals first
      | (refine HL_r rfl rfl rfl rfl (R_pickT rfl rfl) ?_)
      | (refine HL_r rfl rfl rfl rfl (R_pickF rfl rfl) ?_)
    all_goals refine HL_r rfl rfl rfl rfl (R_assign rfl) ?_
    all_goals refine HL_r rfl rfl rfl rfl (R_assign rfl) ?_
    all_goals refine HL_nil ?_
    all_goals (
     refine HQ_then ?_; refine hK11 _ _ _ _ ?_; clear hK11 K11; refine HC_ret ?_; refine HQ_post rfl rfl (.cons (res_tmp rfl) (.cons (res_tmp rfl) .nil)) (fun w1 hs1 => ?_); refine ⟨?_, hs1.keep⟩
     first
       | (rw [← there_in (kf := Prod.fst) (hlo ▸ hx), ← hlo]; rfl)
       | (rw [there_out (kf := Prod.fst) (by omega), ← hlo]; rfl)
     skip)
set_option maxRecDepth 10000 in
theorem S_placeS {R : List (Nat × Obj)} {xs : List (BS × BS)} {p : Pl} (hl : xs.length ≤ 1000) (hs : Seg R xs.length (xs.flatMap slC) p) (hso : Sorted Prod.fst xs) {k : BS} :
    PureR Tryz.prog 140 [plV xs.length p, strV k, fV 111].toArray (.tuple #[.int .i64 (loL Prod.fst k xs : Nat), .bool (thereL Prod.fst k xs)]) R := by
  refine pureR_of_HC Tryz.func140 rfl rfl fun w => ?_; refine HC_seq fun K1 hK1 => ?_; refine HC_region ?_; refine HL_box (cs := #[_]) rfl rfl rfl rfl fun r1 => ?_; refine HL_r rfl rfl rfl rfl (R_assign rfl) ?_; refine HL_r rfl rfl rfl rfl (R_assign rfl) ?_; refine HL_nil ?_; refine HQ_then ?_; refine hK1 _ _ _ _ ?_; clear hK1 K1; refine HC_seq fun K2 hK2 => ?_; refine HC_region ?_; refine HL_r rfl rfl rfl rfl (R_move rfl) ?_; refine HL_r rfl rfl rfl rfl (R_move rfl) ?_; refine HL_r rfl rfl rfl rfl (R_makeFunc rfl rfl) ?_; refine HL_callR (Rl := (r1, Obj.cells #[fV 111] _ (0, 0)) :: R) rfl rfl rfl (enters_of Tryz.func157 (by kernel_rfl) rfl) (S_searchS (caps := [.pointer (some ⟨r1, 0, none⟩)]) hl (hs.mono fun q hq => List.mem_cons_of_mem _ hq) hso (enters_of Tryz.func158 (by kernel_rfl) rfl) (fun x hx => S_atS List.mem_cons_self x k)) (fun q hq => (List.mem_cons.1 hq).elim (fun h => Or.inl (by rw [h]; exact List.mem_cons_self)) Or.inr) ?_; refine HL_r rfl rfl rfl rfl (R_extract rfl rfl) ?_; refine HL_r rfl rfl rfl rfl (R_extract rfl rfl) ?_; refine HL_r rfl rfl rfl rfl (R_assign rfl) ?_; refine HL_r rfl rfl rfl rfl (R_assign rfl) ?_; refine HL_nil ?_; refine HQ_then ?_; refine hK2 _ _ _ _ ?_; clear hK2 K2; refine HC_ret ?_; refine HQ_post rfl rfl (.cons (res_tmp rfl) (.cons (res_tmp rfl) .nil)) (fun w1 hs1 => ?_); exact ⟨rfl, hs1.keep⟩
end Go.Proofs.YtnkmbkndpoghdaaGreat
namespace Go.Proofs.YtnkmbkndpoghdaaGreat
set_option linter.all false
open Go.SL Go.RowKit Go.Shelf
set_option maxRecDepth 10000 in
theorem S_cloneA {R : List (Nat × Obj)} {xs : List AcL} {p : Pl} (hl : xs.length ≤ 1000) (hs : Seg R xs.length (xs.flatMap AcL.cells) p) :
    PureT (α := { row : Row // rowOk 8 xs.length (xs.flatMap AcL.cells) row }) Tryz.prog 138 [plV xs.length p].toArray (fun x => rowV xs.length x.1) [] (fun x => rowL 55 (xs.flatMap AcL.cells) x.1) R := by
  cases p with
  | none =>
    have h0 : xs = [] := List.length_eq_zero_iff.1 hs
    subst h0; refine pureT_of_HC Tryz.func138 rfl rfl fun w => ?_; refine HC_seq fun K1 hK1 => ?_; refine HC_region ?_; refine HL_r rfl rfl rfl rfl (R_assign rfl) ?_; refine HL_nil ?_; refine HQ_then ?_; refine hK1 _ _ _ _ ?_; clear hK1 K1; refine HC_seq fun K2 hK2 => ?_; refine HC_seq fun K3 hK3 => ?_; refine HC_region ?_; refine HL_r rfl rfl rfl rfl (R_move rfl) ?_; refine HL_r rfl rfl rfl rfl (R_pure rfl rfl rfl) ?_; refine HL_nil ?_; refine HQ_then ?_; refine hK3 _ _ _ _ ?_; clear hK3 K3; refine HC_cond rfl (fun h4 => ?_) (fun h4 => ?_)
    · try exact Bool.noConfusion h4
      try simp only [Z1, Z2, Z3, Z4, Z5, Z6, Z7, Z8, Z9, Z10, Z11, Z12, Z13] at h4
      refine HC_seq fun K5 hK5 => ?_; refine HC_region ?_; refine HL_r rfl rfl rfl rfl (R_assign rfl) ?_; refine HL_nil ?_; refine HQ_then ?_; refine hK5 _ _ _ _ ?_; clear hK5 K5; refine HC_ret ?_; refine HQ_thenR ?_; clear hK2 K2; refine HQ_post rfl rfl (.cons (res_tmp rfl) .nil) (fun w1 hs1 => ?_); exact ⟨⟨none, rfl, rfl⟩, rfl, hs1⟩
    · try exact Bool.noConfusion h4
  | some q =>
    refine pureT_of_HC Tryz.func138 rfl rfl fun w => ?_; refine HC_seq fun K1 hK1 => ?_; refine HC_region ?_; refine HL_r rfl rfl rfl rfl (R_assign rfl) ?_; refine HL_nil ?_; refine HQ_then ?_; refine hK1 _ _ _ _ ?_; clear hK1 K1; refine HC_seq fun K2 hK2 => ?_; refine HC_seq fun K3 hK3 => ?_; refine HC_region ?_; refine HL_r rfl rfl rfl rfl (R_move rfl) ?_; refine HL_r rfl rfl rfl rfl (R_pure rfl rfl rfl) ?_; refine HL_nil ?_; refine HQ_then ?_; refine hK3 _ _ _ _ ?_; clear hK3 K3; refine HC_cond rfl (fun h4 => ?_) (fun h4 => ?_)
    · try exact Bool.noConfusion h4
    · try exact Bool.noConfusion h4
      try simp only [Z1, Z2, Z3, Z4, Z5, Z6, Z7, Z8, Z9, Z10, Z11, Z12, Z13] at h4
      refine HC_skip ?_; refine HQ_then ?_; refine hK2 _ _ _ _ ?_; clear hK2 K2; refine HC_seq fun K6 hK6 => ?_; refine HC_region ?_; refine HL_buildSlice0 rfl rfl rfl rfl fun r1 => ?_; refine HL_r rfl rfl rfl rfl (R_move rfl) ?_; refine HL_clone (k := 0) (b := 96) (sz := 8) rfl rfl rfl rfl rfl rfl hs (fun q hq => Or.inr hq) rfl rfl rfl rfl rfl (by decide) (cat_len AcL.len xs) (cat_one AcL.one xs) (by omega) (by omega) fun row hrow => ?_; refine HL_r rfl rfl rfl rfl (R_assign rfl) ?_; refine HL_nil ?_; refine HQ_then ?_; refine hK6 _ _ _ _ ?_; clear hK6 K6; refine HC_ret ?_; refine HQ_post rfl rfl (.cons (res_tmp rfl) .nil) (fun w1 hs1 => ?_); exact ⟨⟨row, hrow⟩, rfl, hs1.weakL (List.sublist_append_left _ _)⟩
set_option maxRecDepth 10000 in
theorem S_insertA {R : List (Nat × Obj)} {xs : List AcL} {row : Row} (hl : xs.length ≤ 1000) (hrow : rowOk 8 xs.length (xs.flatMap AcL.cells) row) {i : Nat} (hi : i ≤ xs.length) {y : AcL} {rv : Nat} (hv : (rv, Obj.cells (AcL.cells y).toArray 55 (0, 0)) ∈ R) :
    PureT (α := { row' : Row // rowOk 8 (xs.length + 1) ((xs.take i ++ y :: xs.drop i).flatMap AcL.cells) row' }) Tryz.prog 139 [rowV xs.length row, .int .i64 (i : Int), .slice (some ⟨rv, 0, none⟩) 1 1].toArray (fun x => rowV (xs.length + 1) x.1) (rowL 55 (xs.flatMap AcL.cells) row) (fun x => rowL 55 ((xs.take i ++ y :: xs.drop i).flatMap AcL.cells) x.1) R := by
  obtain ⟨A, hA⟩ : ∃ A, A = (xs.take i).flatMap AcL.cells := ⟨_, rfl⟩
  obtain ⟨B, hB⟩ : ∃ B, B = (xs.drop i).flatMap AcL.cells := ⟨_, rfl⟩
  obtain ⟨n, hn⟩ : ∃ n, n = xs.length := ⟨_, rfl⟩
  have e1 : xs.flatMap AcL.cells = A ++ B := by rw [hA, hB, ← List.flatMap_append, List.take_append_drop]
  have e2 : (xs.take i ++ y :: xs.drop i).flatMap AcL.cells = A ++ (AcL.cells y ++ B) := by rw [List.flatMap_append, List.flatMap_cons, hA, hB]
  have lA : A.length = i * 8 := by rw [hA, cat_len AcL.len, List.length_take, Nat.min_eq_left hi]
  have lB : B.length = (n - i) * 8 := by rw [hB, cat_len AcL.len, List.length_drop, hn]
  have lF : (AcL.cells y).length = 8 := AcL.len y
  have oF : (AcL.cells y).all oneB = true := AcL.one y
  have oA : A.all oneB = true := by rw [hA]; exact cat_one AcL.one _
  have oB : B.all oneB = true := by rw [hB]; exact cat_one AcL.one _
  rw [e1] at hrow; rw [e1, e2]; rw [← hn] at hl hi hrow ⊢; clear hA hB e1 e2 hn
  cases row with
  | none =>
    obtain ⟨rfl, hAB⟩ := hrow
    obtain rfl : i = 0 := by omega
    obtain ⟨rfl, rfl⟩ := List.append_eq_nil_iff.1 hAB
    refine pureT_of_HC Tryz.func139 rfl rfl fun w => ?_; refine HC_seq fun K1 hK1 => ?_; refine HC_region ?_; refine HL_r rfl rfl rfl rfl (R_assign rfl) ?_; refine HL_nil ?_; refine HQ_then ?_; refine hK1 _ _ _ _ ?_; clear hK1 K1; refine HC_seq fun K2 hK2 => ?_; refine HC_region ?_; refine HL_r rfl rfl rfl rfl (R_move rfl) ?_; refine HL_r rfl rfl rfl rfl (R_move rfl) ?_; refine HL_r rfl rfl rfl rfl (R_pure rfl rfl rfl) ?_; refine HL_nil ?_; refine HQ_then ?_; refine hK2 _ _ _ _ ?_; clear hK2 K2; refine HC_seq fun K3 hK3 => ?_; refine HC_region ?_; refine HL_r rfl rfl rfl rfl (R_move rfl) ?_; refine HL_r rfl rfl rfl rfl (R_lenSl rfl rfl) ?_; refine HL_r rfl rfl rfl rfl (R_assign rfl) ?_; refine HL_nil ?_; refine HQ_then ?_; refine hK3 _ _ _ _ ?_; clear hK3 K3; refine HC_seq fun K4 hK4 => ?_; refine HC_seq fun K5 hK5 => ?_; refine HC_region ?_; refine HL_r rfl rfl rfl rfl (R_move rfl) ?_; refine HL_r rfl rfl rfl rfl (R_pure rfl rfl rfl) ?_; refine HL_nil ?_; refine HQ_then ?_; refine hK5 _ _ _ _ ?_; clear hK5 K5; refine HC_cond rfl (fun h6 => ?_) (fun h6 => ?_)
    · try exact Bool.noConfusion h6
    · try exact Bool.noConfusion h6
      try simp only [Z1, Z2, Z3, Z4, Z5, Z6, Z7, Z8, Z9, Z10, Z11, Z12, Z13] at h6
      refine HC_skip ?_; refine HQ_then ?_; refine hK4 _ _ _ _ ?_; clear hK4 K4; refine HC_seq fun K8 hK8 => ?_; refine HC_region ?_; refine HL_r rfl rfl rfl rfl (R_move rfl) ?_; refine HL_r rfl rfl rfl rfl (R_lenSl rfl rfl) ?_; refine HL_r rfl rfl rfl rfl (R_assign rfl) ?_; refine HL_nil ?_; refine HQ_then ?_; refine hK8 _ _ _ _ ?_; clear hK8 K8; refine HC_seq fun K9 hK9 => ?_; refine HC_seq fun K10 hK10 => ?_; refine HC_region ?_; refine HL_r rfl rfl rfl rfl (R_move rfl) ?_; refine HL_r rfl rfl rfl rfl (R_move rfl) ?_; refine HL_r rfl rfl rfl rfl (R_pure rfl rfl rfl) ?_; refine HL_nil ?_; refine HQ_then ?_; refine hK10 _ _ _ _ ?_; clear hK10 K10; refine HC_cond rfl (fun h11 => ?_) (fun h11 => ?_)
      · try exact Bool.noConfusion h11
        try simp only [Z1, Z2, Z3, Z4, Z5, Z6, Z7, Z8, Z9, Z10, Z11, Z12, Z13] at h11
        refine HC_seq fun K12 hK12 => ?_; refine HC_region ?_; refine HL_r rfl rfl rfl rfl (R_move rfl) ?_; refine HL_r rfl rfl rfl rfl (R_move rfl) ?_; refine HL_append (n := 0) (m := 1) (b := 96) (sz := 8) (news := AcL.cells y) (xs := []) (L0 := []) rfl rfl rfl rfl (Or.inr hv) rfl rfl rfl rfl rfl (by decide) rfl rfl oF (by decide) SlOwn.nil (by decide) (by decide) fun r1 cap1 sp1 hsp1 => ?_; refine HL_r rfl rfl rfl rfl (R_assign rfl) ?_; refine HL_nil ?_; refine HQ_then ?_; refine hK12 _ _ _ _ ?_; clear hK12 K12; refine HC_ret ?_; refine HQ_thenR ?_; clear hK9 K9; refine HQ_post rfl rfl (.cons (res_tmp rfl) .nil) (fun w1 hs1 => ?_); exact ⟨⟨some (r1, cap1, sp1), by simp [lF], hsp1⟩, rfl, by simpa [rowL] using hs1⟩
      · try exact Bool.noConfusion h11
  | some q =>
    obtain ⟨r, cap, sp⟩ := q
    obtain ⟨hr1, hr2⟩ := hrow
    have hcap : n ≤ cap := by omega
    refine pureT_of_HC Tryz.func139 rfl rfl fun w => ?_; change HC _ _ _ [(r, .cells ((A ++ B) ++ sp).toArray 55 (0, 0))] _ _ _; refine HC_seq fun K1 hK1 => ?_; refine HC_region ?_; refine HL_r rfl rfl rfl rfl (R_assign rfl) ?_; refine HL_nil ?_; refine HQ_then ?_; refine hK1 _ _ _ _ ?_; clear hK1 K1; refine HC_seq fun K2 hK2 => ?_; refine HC_region ?_; refine HL_r rfl rfl rfl rfl (R_move rfl) ?_; refine HL_r rfl rfl rfl rfl (R_move rfl) ?_; refine HL_r rfl rfl rfl rfl (R_sliceSl (m := i) (kl := some i) (kh := none) (km := none) (q := n) (z := cap) rfl rfl rfl ⟨_, rfl⟩ trivial trivial rfl rfl rfl (by omega) (by omega) (by omega) (fun _ => rfl) rfl) ?_; refine HL_nil ?_; refine HQ_then ?_; refine hK2 _ _ _ _ ?_; clear hK2 K2; refine HC_seq fun K3 hK3 => ?_; refine HC_region ?_; refine HL_r rfl rfl rfl rfl (R_move rfl) ?_; refine HL_r rfl rfl rfl rfl (R_lenSl rfl rfl) ?_; refine HL_r rfl rfl rfl rfl (R_assign rfl) ?_; refine HL_nil ?_; refine HQ_then ?_; refine hK3 _ _ _ _ ?_; clear hK3 K3; refine HC_seq fun K4 hK4 => ?_; refine HC_seq fun K5 hK5 => ?_; refine HC_region ?_; refine HL_r rfl rfl rfl rfl (R_move rfl) ?_; refine HL_r rfl rfl rfl rfl (R_pure rfl rfl rfl) ?_; refine HL_nil ?_; refine HQ_then ?_; refine hK5 _ _ _ _ ?_; clear hK5 K5; refine HC_cond rfl (fun h6 => ?_) (fun h6 => ?_)
    · try exact Bool.noConfusion h6
    · try exact Bool.noConfusion h6
      try simp only [Z1, Z2, Z3, Z4, Z5, Z6, Z7, Z8, Z9, Z10, Z11, Z12, Z13] at h6
      refine HC_skip ?_; refine HQ_then ?_; refine hK4 _ _ _ _ ?_; clear hK4 K4; refine HC_seq fun K8 hK8 => ?_; refine HC_region ?_; refine HL_r rfl rfl rfl rfl (R_move rfl) ?_; refine HL_r rfl rfl rfl rfl (R_lenSl rfl rfl) ?_; refine HL_r rfl rfl rfl rfl (R_assign rfl) ?_; refine HL_nil ?_; refine HQ_then ?_; refine hK8 _ _ _ _ ?_; clear hK8 K8; refine HC_seq fun K9 hK9 => ?_; refine HC_seq fun K10 hK10 => ?_; refine HC_region ?_; refine HL_r rfl rfl rfl rfl (R_move rfl) ?_; refine HL_r rfl rfl rfl rfl (R_move rfl) ?_; refine HL_r rfl rfl rfl rfl (R_pure rfl rfl rfl) ?_; refine HL_nil ?_; refine HQ_then ?_; refine hK10 _ _ _ _ ?_; clear hK10 K10; refine HC_cond rfl (fun h11 => ?_) (fun h11 => ?_)
      · try exact Bool.noConfusion h11
        try simp only [Z1, Z2, Z3, Z4, Z5, Z6, Z7, Z8, Z9, Z10, Z11, Z12, Z13] at h11
        refine HC_seq fun K12 hK12 => ?_; refine HC_region ?_; refine HL_r rfl rfl rfl rfl (R_move rfl) ?_; refine HL_r rfl rfl rfl rfl (R_move rfl) ?_
        obtain rfl : B = [] := List.length_eq_zero_iff.1 (by omega)
        refine HL_append (n := n) (m := 1) (b := 96) (sz := 8) (news := AcL.cells y) (xs := A ++ []) (L0 := []) rfl rfl rfl rfl (Or.inr hv) rfl rfl rfl rfl rfl (by decide) rfl lF oF (by decide) (SlOwn.own (k := 0) rfl (by simp only [List.toList_toArray]; rw [List.take_left' hr1]) hr1 (by rw [List.size_toArray, List.length_append, hr1]; omega) rfl) (by omega) (by omega) fun r1 cap1 sp1 hsp1 => ?_; refine HL_r rfl rfl rfl rfl (R_assign rfl) ?_; refine HL_nil ?_; refine HQ_then ?_; refine hK12 _ _ _ _ ?_; clear hK12 K12; refine HC_ret ?_; refine HQ_thenR ?_; clear hK9 K9; refine HQ_post rfl rfl (.cons (res_tmp rfl) .nil) (fun w1 hs1 => ?_); exact ⟨⟨some (r1, cap1, sp1), by simp only [List.length_append, List.length_nil, lF]; omega, hsp1⟩, rfl, by simpa [rowL] using hs1⟩
      · try exact Bool.noConfusion h11
        try simp only [Z1, Z2, Z3, Z4, Z5, Z6, Z7, Z8, Z9, Z10, Z11, Z12, Z13] at h11
        refine HC_skip ?_; refine HQ_then ?_; refine hK9 _ _ _ _ ?_; clear hK9 K9; refine HC_seq fun K13 hK13 => ?_; refine HC_seq fun K14 hK14 => ?_; refine HC_region ?_; refine HL_r rfl rfl rfl rfl (R_move rfl) ?_; refine HL_r rfl rfl rfl rfl (R_move rfl) ?_; refine HL_r rfl rfl rfl rfl (R_pure rfl rfl rfl) ?_; refine HL_wrap_i64 (by omega) (by omega) ?_; refine HL_r rfl rfl rfl rfl (R_move rfl) ?_; refine HL_r rfl rfl rfl rfl (R_capSl rfl rfl) ?_; refine HL_r rfl rfl rfl rfl (R_pure rfl rfl rfl) ?_; refine HL_nil ?_; refine HQ_then ?_; refine hK14 _ _ _ _ ?_; clear hK14 K14; refine HC_cond rfl (fun h15 => ?_) (fun h15 => ?_)
        · try exact Bool.noConfusion h15
          try simp only [Z1, Z2, Z3, Z4, Z5, Z6, Z7, Z8, Z9, Z10, Z11, Z12, Z13] at h15
          refine HC_seq fun K16 hK16 => ?_; refine HC_region ?_; refine HL_r rfl rfl rfl rfl (R_move rfl) ?_; refine HL_r rfl rfl rfl rfl (R_move rfl) ?_
          refine HL_r rfl rfl rfl rfl (R_sliceSl (sz := 8) (q := i) (kl := none) (kh := some (i)) (km := none) (m := 0) (z := cap) (off' := 0) rfl rfl rfl trivial ⟨_, rfl⟩ trivial rfl rfl rfl (by omega) (by omega) (by omega) (fun h => by cases h) (by split <;> omega)) ?_; refine HL_r rfl rfl rfl rfl (R_move rfl) ?_; refine HL_r rfl rfl rfl rfl (R_move rfl) ?_; refine HL_r rfl rfl rfl rfl (R_pure rfl rfl rfl) ?_; refine HL_wrap_i64 (by omega) (by omega) ?_; refine HL_r rfl rfl rfl rfl (R_move rfl) ?_
          refine HL_r rfl rfl rfl rfl (R_pure rfl rfl rfl) ?_; refine HL_as (show _ = Value.int .i64 ((n + 1 - i : Nat) : Int) from by rw [wrap_i64 (by omega) (by omega)]; congr 1 <;> omega) ?_; refine HL_appendZ (r := r) (off := 0) (n := i) (cap := cap) (m := n + 1 - i) (sz := 8) (b := 96) (xs := A) rfl rfl rfl rfl (known_L (k := 0) rfl) rfl rfl rfl rfl rfl rfl (by decide) (by simp only [List.toList_toArray, List.drop_zero]; rw [List.append_assoc, List.take_left' lA]) lA (by omega) (by omega) (by omega) (by omega) (by omega) fun r2 cap2 Z sp2 hZ hsp2 => ?_; rw [show i + (n + 1 - i) = n + 1 by omega] at hsp2 ⊢
          obtain ⟨Z1, Z2, rfl, lZ1⟩ := cut (l := Z) (a := 8) (by omega)
          have lZ2 : Z2.length = (n - i) * 8 := by rw [List.length_append, lZ1] at hZ; omega
          rw [show A ++ (Z1 ++ Z2) ++ sp2 = A ++ (Z1 ++ (Z2 ++ sp2)) by simp only [List.append_assoc]]; refine HL_r rfl rfl rfl rfl (R_assign rfl) ?_; refine HL_nil ?_; refine HQ_then ?_; refine hK16 _ _ _ _ ?_; clear hK16 K16; refine HC_seq fun K17 hK17 => ?_; refine HC_region ?_; refine HL_r rfl rfl rfl rfl (R_move rfl) ?_; refine HL_r rfl rfl rfl rfl (R_move rfl) ?_; refine HL_r rfl rfl rfl rfl (R_sliceSl (sz := 8) (m := i) (kl := some (i)) (kh := none) (km := none) (q := n + 1) (z := cap2) (off' := i * 8) rfl rfl rfl ⟨_, rfl⟩ trivial trivial rfl rfl rfl (by omega) (by omega) (by omega) (fun _ => rfl) (by rw [if_neg (by omega)]; omega)) ?_; refine HL_r rfl rfl rfl rfl (R_move rfl) ?_
          refine HL_copy (k := 0) (n := 1) (sz := 8) (vs := AcL.cells y) (cs' := A ++ (AcL.cells y ++ (Z2 ++ sp2))) rfl rfl rfl rfl rfl (Or.inr hv) rfl rfl (by simp only [Nat.min_def]; split <;> omega) rfl lF oF (by simp only [List.size_toArray, List.length_append]; omega) (splice lA (by rw [lZ1])) rfl ?_; refine HL_nil ?_; refine HQ_then ?_; refine hK17 _ _ _ _ ?_; clear hK17 K17; refine HC_seq fun K18 hK18 => ?_; refine HC_draw 8 (by kernel_rfl) (by kernel_rfl) ?_; refine HD_r rfl rfl rfl (R_move rfl) ?_; refine HD_r rfl rfl rfl (R_move rfl) ?_; refine HD_r rfl rfl rfl (R_move rfl) ?_
          refine HD_r rfl rfl rfl (R_pure rfl rfl rfl) ?_; refine HD_as (show _ = Value.int .i64 ((i + 1 : Nat) : Int) from by rw [wrap_i64 (by omega) (by omega)]; congr 1 <;> omega) ?_; refine HD_r rfl rfl rfl (R_sliceSl (sz := 8) (m := i + 1) (kl := some (i + 1)) (kh := none) (km := none) (q := n + 1) (z := cap2) (off' := (i + 1) * 8) rfl rfl rfl ⟨_, rfl⟩ trivial trivial rfl rfl rfl (by omega) (by omega) (by omega) (fun _ => rfl) (by rw [if_neg (by omega)]; omega)) ?_; refine HD_r rfl rfl rfl (R_move rfl) ?_; refine HD_r rfl rfl rfl (R_move rfl) ?_; refine HD_r rfl rfl rfl (R_sliceSl (sz := 8) (m := i) (kl := some (i)) (kh := none) (km := none) (q := n) (z := cap) (off' := i * 8) rfl rfl rfl ⟨_, rfl⟩ trivial trivial rfl rfl rfl (by omega) (by omega) (by omega) (fun _ => rfl) (by rw [if_neg (by omega)]; omega)) ?_; refine HD_end ?_; rw [show A ++ (AcL.cells y ++ (Z2 ++ sp2)) = (A ++ AcL.cells y) ++ (Z2 ++ sp2) by simp only [List.append_assoc]]
          refine HL_copy (k := 0) (n := n - i) (sz := 8) (vs := B) (cs' := (A ++ AcL.cells y) ++ (B ++ sp2)) rfl rfl rfl rfl rfl (known_L (k := 1) rfl) rfl rfl (by simp only [Nat.min_def]; split <;> omega) (by simp only [List.toList_toArray]; rw [List.append_assoc, List.drop_left' lA, List.take_left' lB]) lB oB (by simp only [List.size_toArray, List.length_append]; omega) (splice (by rw [List.length_append, lA, lF]; omega) lZ2) rfl ?_; refine HL_nil ?_; refine HQ_then ?_; refine hK18 _ _ _ _ ?_; clear hK18 K18; refine HC_seq fun K19 hK19 => ?_; refine HC_region ?_; refine HL_r rfl rfl rfl rfl (R_move rfl) ?_; refine HL_r rfl rfl rfl rfl (R_assign rfl) ?_; refine HL_nil ?_; refine HQ_then ?_; refine hK19 _ _ _ _ ?_; clear hK19 K19; refine HC_ret ?_; refine HQ_thenR ?_; clear hK13 K13; refine HQ_post rfl rfl (.cons (res_tmp rfl) .nil) (fun w1 hs1 => ?_); exact ⟨⟨some (r2, cap2, sp2), by simp only [List.length_append]; omega, hsp2⟩, rfl, hs1.weakL (by simp [rowL])⟩
        · try exact Bool.noConfusion h15
          try simp only [Z1, Z2, Z3, Z4, Z5, Z6, Z7, Z8, Z9, Z10, Z11, Z12, Z13] at h15
          refine HC_skip ?_; refine HQ_then ?_; refine hK13 _ _ _ _ ?_; clear hK13 K13; refine HC_seq fun K20 hK20 => ?_; refine HC_region ?_; refine HL_r rfl rfl rfl rfl (R_move rfl) ?_; refine HL_r rfl rfl rfl rfl (R_move rfl) ?_; refine HL_r rfl rfl rfl rfl (R_move rfl) ?_
          refine HL_r rfl rfl rfl rfl (R_pure rfl rfl rfl) ?_; refine HL_as (show _ = Value.int .i64 ((n + 1 : Nat) : Int) from by rw [wrap_i64 (by omega) (by omega)]; congr 1 <;> omega) ?_
          refine HL_r rfl rfl rfl rfl (R_sliceSl (sz := 8) (q := n + 1) (kl := none) (kh := some (n + 1)) (km := none) (m := 0) (z := cap) (off' := 0) rfl rfl rfl trivial ⟨_, rfl⟩ trivial rfl rfl rfl (by omega) (by omega) (by omega) (fun h => by cases h) (by split <;> omega)) ?_; refine HL_r rfl rfl rfl rfl (R_assign rfl) ?_; refine HL_nil ?_; refine HQ_then ?_; refine hK20 _ _ _ _ ?_; clear hK20 K20; refine HC_seq fun K21 hK21 => ?_; refine HC_seq fun K22 hK22 => ?_; refine HC_region ?_; refine HL_r rfl rfl rfl rfl (R_move rfl) ?_; refine HL_r rfl rfl rfl rfl (R_move rfl) ?_; refine HL_r rfl rfl rfl rfl (R_move rfl) ?_; refine HL_r rfl rfl rfl rfl (R_move rfl) ?_
          refine HL_r rfl rfl rfl rfl (R_pure rfl rfl rfl) ?_; refine HL_as (show _ = Value.int .i64 ((i + 1 : Nat) : Int) from by rw [wrap_i64 (by omega) (by omega)]; congr 1 <;> omega) ?_; refine HL_r rfl rfl rfl rfl (R_sliceSl (sz := 8) (m := i + 1) (kl := some (i + 1)) (kh := none) (km := none) (q := n + 1) (z := cap) (off' := (i + 1) * 8) rfl rfl rfl ⟨_, rfl⟩ trivial trivial rfl rfl rfl (by omega) (by omega) (by omega) (fun _ => rfl) (by rw [if_neg (by omega)]; omega)) ?_; refine HL_r rfl rfl rfl rfl (R_overlapsR (k := 0) rfl rfl rfl hv rfl rfl rfl (by simp only [List.size_toArray, List.length_append]; omega) Tryz.func155 rfl rfl rfl rfl) ?_; refine HL_r rfl rfl rfl rfl (R_pure rfl rfl rfl) ?_; refine HL_nil ?_; refine HQ_then ?_; refine hK22 _ _ _ _ ?_; clear hK22 K22; refine HC_cond rfl (fun h23 => ?_) (fun h23 => ?_)
          · try exact Bool.noConfusion h23
            try simp only [Z1, Z2, Z3, Z4, Z5, Z6, Z7, Z8, Z9, Z10, Z11, Z12, Z13] at h23
            refine HC_seq fun K24 hK24 => ?_; refine HC_draw 8 (by kernel_rfl) (by kernel_rfl) ?_; refine HD_r rfl rfl rfl (R_move rfl) ?_; refine HD_r rfl rfl rfl (R_move rfl) ?_; refine HD_r rfl rfl rfl (R_move rfl) ?_
            refine HD_r rfl rfl rfl (R_pure rfl rfl rfl) ?_; refine HD_as (show _ = Value.int .i64 ((i + 1 : Nat) : Int) from by rw [wrap_i64 (by omega) (by omega)]; congr 1 <;> omega) ?_; refine HD_r rfl rfl rfl (R_sliceSl (sz := 8) (m := i + 1) (kl := some (i + 1)) (kh := none) (km := none) (q := n + 1) (z := cap) (off' := (i + 1) * 8) rfl rfl rfl ⟨_, rfl⟩ trivial trivial rfl rfl rfl (by omega) (by omega) (by omega) (fun _ => rfl) (by rw [if_neg (by omega)]; omega)) ?_; refine HD_r rfl rfl rfl (R_move rfl) ?_; refine HD_r rfl rfl rfl (R_move rfl) ?_; refine HD_r rfl rfl rfl (R_sliceSl (sz := 8) (m := i) (kl := some (i)) (kh := none) (km := none) (q := n + 1) (z := cap) (off' := i * 8) rfl rfl rfl ⟨_, rfl⟩ trivial trivial rfl rfl rfl (by omega) (by omega) (by omega) (fun _ => rfl) (by rw [if_neg (by omega)]; omega)) ?_; refine HD_end ?_
            obtain ⟨X1, X2, hX, lX1⟩ := cut (l := B ++ sp) (a := 8) (by rw [List.length_append]; omega)
            obtain ⟨X3, X4, rfl, lX3⟩ := cut (l := X2) (a := (n - i) * 8) (by have := congrArg List.length hX; simp only [List.length_append] at this; omega)
            rw [show (A ++ B) ++ sp = (A ++ X1) ++ (X3 ++ X4) by rw [List.append_assoc, hX]; simp only [List.append_assoc]]
            refine HL_copy (k := 0) (n := n - i) (sz := 8) (vs := B) (cs' := (A ++ X1) ++ (B ++ X4)) rfl rfl rfl rfl rfl (known_L (k := 0) rfl) rfl rfl (by simp only [Nat.min_def]; split <;> omega) (by simp only [List.toList_toArray]; rw [List.append_assoc, List.drop_left' lA, ← hX, List.take_left' lB]) lB oB (by have := congrArg List.length hX; simp only [List.size_toArray, List.length_append] at this ⊢; omega) (splice (by rw [List.length_append, lA, lX1]; omega) lX3) rfl ?_; refine HL_nil ?_; refine HQ_then ?_; refine hK24 _ _ _ _ ?_; clear hK24 K24; refine HC_seq fun K25 hK25 => ?_; refine HC_region ?_; refine HL_r rfl rfl rfl rfl (R_move rfl) ?_; refine HL_r rfl rfl rfl rfl (R_move rfl) ?_; refine HL_r rfl rfl rfl rfl (R_sliceSl (sz := 8) (m := i) (kl := some (i)) (kh := none) (km := none) (q := n + 1) (z := cap) (off' := i * 8) rfl rfl rfl ⟨_, rfl⟩ trivial trivial rfl rfl rfl (by omega) (by omega) (by omega) (fun _ => rfl) (by rw [if_neg (by omega)]; omega)) ?_; refine HL_r rfl rfl rfl rfl (R_move rfl) ?_; rw [show (A ++ X1) ++ (B ++ X4) = A ++ (X1 ++ (B ++ X4)) by simp only [List.append_assoc]]
            refine HL_copy (k := 0) (n := 1) (sz := 8) (vs := AcL.cells y) (cs' := A ++ (AcL.cells y ++ (B ++ X4))) rfl rfl rfl rfl rfl (Or.inr hv) rfl rfl (by simp only [Nat.min_def]; split <;> omega) rfl lF oF (by simp only [List.size_toArray, List.length_append]; omega) (splice lA (by rw [lX1])) rfl ?_; refine HL_nil ?_; refine HQ_then ?_; refine hK25 _ _ _ _ ?_; clear hK25 K25; refine HC_seq fun K26 hK26 => ?_; refine HC_region ?_; refine HL_r rfl rfl rfl rfl (R_move rfl) ?_; refine HL_r rfl rfl rfl rfl (R_assign rfl) ?_; refine HL_nil ?_; refine HQ_then ?_; refine hK26 _ _ _ _ ?_; clear hK26 K26; refine HC_ret ?_; refine HQ_thenR ?_; clear hK21 K21; refine HQ_post rfl rfl (.cons (res_tmp rfl) .nil) (fun w1 hs1 => ?_); exact ⟨⟨some (r, cap, X4), by simp only [List.length_append]; omega, by have := congrArg List.length hX; simp only [List.length_append] at this; omega⟩, rfl, by simpa [rowL] using hs1⟩
          · try exact Bool.noConfusion h23
end Go.Proofs.YtnkmbkndpoghdaaGreat
namespace Go.Proofs.YtnkmbkndpoghdaaGreat
set_option linter.all false
open Go.SL Go.RowKit Go.Shelf
set_option maxRecDepth 10000 in
theorem S_cloneS {R : List (Nat × Obj)} {xs : List (BS × BS)} {p : Pl} (hl : xs.length ≤ 1000) (hs : Seg R xs.length (xs.flatMap slC) p) :
    PureT (α := { row : Row // rowOk 2 xs.length (xs.flatMap slC) row }) Tryz.prog 141 [plV xs.length p].toArray (fun x => rowV xs.length x.1) [] (fun x => rowL 93 (xs.flatMap slC) x.1) R := by
  cases p with
  | none =>
    have h0 : xs = [] := List.length_eq_zero_iff.1 hs
    subst h0; refine pureT_of_HC Tryz.func141 rfl rfl fun w => ?_; refine HC_seq fun K1 hK1 => ?_; refine HC_region ?_; refine HL_r rfl rfl rfl rfl (R_assign rfl) ?_; refine HL_nil ?_; refine HQ_then ?_; refine hK1 _ _ _ _ ?_; clear hK1 K1; refine HC_seq fun K2 hK2 => ?_; refine HC_seq fun K3 hK3 => ?_; refine HC_region ?_; refine HL_r rfl rfl rfl rfl (R_move rfl) ?_; refine HL_r rfl rfl rfl rfl (R_pure rfl rfl rfl) ?_; refine HL_nil ?_; refine HQ_then ?_; refine hK3 _ _ _ _ ?_; clear hK3 K3; refine HC_cond rfl (fun h4 => ?_) (fun h4 => ?_)
    · try exact Bool.noConfusion h4
      try simp only [Z1, Z2, Z3, Z4, Z5, Z6, Z7, Z8, Z9, Z10, Z11, Z12, Z13] at h4
      refine HC_seq fun K5 hK5 => ?_; refine HC_region ?_; refine HL_r rfl rfl rfl rfl (R_assign rfl) ?_; refine HL_nil ?_; refine HQ_then ?_; refine hK5 _ _ _ _ ?_; clear hK5 K5; refine HC_ret ?_; refine HQ_thenR ?_; clear hK2 K2; refine HQ_post rfl rfl (.cons (res_tmp rfl) .nil) (fun w1 hs1 => ?_); exact ⟨⟨none, rfl, rfl⟩, rfl, hs1⟩
    · try exact Bool.noConfusion h4
  | some q =>
    refine pureT_of_HC Tryz.func141 rfl rfl fun w => ?_; refine HC_seq fun K1 hK1 => ?_; refine HC_region ?_; refine HL_r rfl rfl rfl rfl (R_assign rfl) ?_; refine HL_nil ?_; refine HQ_then ?_; refine hK1 _ _ _ _ ?_; clear hK1 K1; refine HC_seq fun K2 hK2 => ?_; refine HC_seq fun K3 hK3 => ?_; refine HC_region ?_; refine HL_r rfl rfl rfl rfl (R_move rfl) ?_; refine HL_r rfl rfl rfl rfl (R_pure rfl rfl rfl) ?_; refine HL_nil ?_; refine HQ_then ?_; refine hK3 _ _ _ _ ?_; clear hK3 K3; refine HC_cond rfl (fun h4 => ?_) (fun h4 => ?_)
    · try exact Bool.noConfusion h4
    · try exact Bool.noConfusion h4
      try simp only [Z1, Z2, Z3, Z4, Z5, Z6, Z7, Z8, Z9, Z10, Z11, Z12, Z13] at h4
      refine HC_skip ?_; refine HQ_then ?_; refine hK2 _ _ _ _ ?_; clear hK2 K2; refine HC_seq fun K6 hK6 => ?_; refine HC_region ?_; refine HL_buildSlice0 rfl rfl rfl rfl fun r1 => ?_; refine HL_r rfl rfl rfl rfl (R_move rfl) ?_; refine HL_clone (k := 0) (b := 32) (sz := 2) rfl rfl rfl rfl rfl rfl hs (fun q hq => Or.inr hq) rfl rfl rfl rfl rfl (by decide) (cat_len slC_len xs) (cat_one slC_one xs) (by omega) (by omega) fun row hrow => ?_; refine HL_r rfl rfl rfl rfl (R_assign rfl) ?_; refine HL_nil ?_; refine HQ_then ?_; refine hK6 _ _ _ _ ?_; clear hK6 K6; refine HC_ret ?_; refine HQ_post rfl rfl (.cons (res_tmp rfl) .nil) (fun w1 hs1 => ?_); exact ⟨⟨row, hrow⟩, rfl, hs1.weakL (List.sublist_append_left _ _)⟩
set_option maxRecDepth 10000 in
theorem S_insertS {R : List (Nat × Obj)} {xs : List (BS × BS)} {row : Row} (hl : xs.length ≤ 1000) (hrow : rowOk 2 xs.length (xs.flatMap slC) row) {i : Nat} (hi : i ≤ xs.length) {y : (BS × BS)} {rv : Nat} (hv : (rv, Obj.cells (slC y).toArray 93 (0, 0)) ∈ R) :
    PureT (α := { row' : Row // rowOk 2 (xs.length + 1) ((xs.take i ++ y :: xs.drop i).flatMap slC) row' }) Tryz.prog 142 [rowV xs.length row, .int .i64 (i : Int), .slice (some ⟨rv, 0, none⟩) 1 1].toArray (fun x => rowV (xs.length + 1) x.1) (rowL 93 (xs.flatMap slC) row) (fun x => rowL 93 ((xs.take i ++ y :: xs.drop i).flatMap slC) x.1) R := by
  obtain ⟨A, hA⟩ : ∃ A, A = (xs.take i).flatMap slC := ⟨_, rfl⟩
  obtain ⟨B, hB⟩ : ∃ B, B = (xs.drop i).flatMap slC := ⟨_, rfl⟩
  obtain ⟨n, hn⟩ : ∃ n, n = xs.length := ⟨_, rfl⟩
  have e1 : xs.flatMap slC = A ++ B := by rw [hA, hB, ← List.flatMap_append, List.take_append_drop]
  have e2 : (xs.take i ++ y :: xs.drop i).flatMap slC = A ++ (slC y ++ B) := by rw [List.flatMap_append, List.flatMap_cons, hA, hB]
  have lA : A.length = i * 2 := by rw [hA, cat_len slC_len, List.length_take, Nat.min_eq_left hi]
  have lB : B.length = (n - i) * 2 := by rw [hB, cat_len slC_len, List.length_drop, hn]
  have lF : (slC y).length = 2 := slC_len y
  have oF : (slC y).all oneB = true := slC_one y
  have oA : A.all oneB = true := by rw [hA]; exact cat_one slC_one _
  have oB : B.all oneB = true := by rw [hB]; exact cat_one slC_one _
  rw [e1] at hrow; rw [e1, e2]; rw [← hn] at hl hi hrow ⊢; clear hA hB e1 e2 hn
  cases row with
  | none =>
    obtain ⟨rfl, hAB⟩ := hrow
    obtain rfl : i = 0 := by omega
    obtain ⟨rfl, rfl⟩ := List.append_eq_nil_iff.1 hAB
    refine pureT_of_HC Tryz.func142 rfl rfl fun w => ?_; refine HC_seq fun K1 hK1 => ?_; refine HC_region ?_; refine HL_r rfl rfl rfl rfl (R_assign rfl) ?_; refine HL_nil ?_; refine HQ_then ?_; refine hK1 _ _ _ _ ?_; clear hK1 K1; refine HC_seq fun K2 hK2 => ?_; refine HC_region ?_; refine HL_r rfl rfl rfl rfl (R_move rfl) ?_; refine HL_r rfl rfl rfl rfl (R_move rfl) ?_; refine HL_r rfl rfl rfl rfl (R_pure rfl rfl rfl) ?_; refine HL_nil ?_; refine HQ_then ?_; refine hK2 _ _ _ _ ?_; clear hK2 K2; refine HC_seq fun K3 hK3 => ?_; refine HC_region ?_; refine HL_r rfl rfl rfl rfl (R_move rfl) ?_; refine HL_r rfl rfl rfl rfl (R_lenSl rfl rfl) ?_; refine HL_r rfl rfl rfl rfl (R_assign rfl) ?_; refine HL_nil ?_; refine HQ_then ?_; refine hK3 _ _ _ _ ?_; clear hK3 K3; refine HC_seq fun K4 hK4 => ?_; refine HC_seq fun K5 hK5 => ?_; refine HC_region ?_; refine HL_r rfl rfl rfl rfl (R_move rfl) ?_; refine HL_r rfl rfl rfl rfl (R_pure rfl rfl rfl) ?_; refine HL_nil ?_; refine HQ_then ?_; refine hK5 _ _ _ _ ?_; clear hK5 K5; refine HC_cond rfl (fun h6 => ?_) (fun h6 => ?_)
    · try exact Bool.noConfusion h6
    · try exact Bool.noConfusion h6
      try simp only [Z1, Z2, Z3, Z4, Z5, Z6, Z7, Z8, Z9, Z10, Z11, Z12, Z13] at h6
      refine HC_skip ?_; refine HQ_then ?_; refine hK4 _ _ _ _ ?_; clear hK4 K4; refine HC_seq fun K8 hK8 => ?_; refine HC_region ?_; refine HL_r rfl rfl rfl rfl (R_move rfl) ?_; refine HL_r rfl rfl rfl rfl (R_lenSl rfl rfl) ?_; refine HL_r rfl rfl rfl rfl (R_assign rfl) ?_; refine HL_nil ?_; refine HQ_then ?_; refine hK8 _ _ _ _ ?_; clear hK8 K8; refine HC_seq fun K9 hK9 => ?_; refine HC_seq fun K10 hK10 => ?_; refine HC_region ?_; refine HL_r rfl rfl rfl rfl (R_move rfl) ?_; refine HL_r rfl rfl rfl rfl (R_move rfl) ?_; refine HL_r rfl rfl rfl rfl (R_pure rfl rfl rfl) ?_; refine HL_nil ?_; refine HQ_then ?_; refine hK10 _ _ _ _ ?_; clear hK10 K10; refine HC_cond rfl (fun h11 => ?_) (fun h11 => ?_)
      · try exact Bool.noConfusion h11
        try simp only [Z1, Z2, Z3, Z4, Z5, Z6, Z7, Z8, Z9, Z10, Z11, Z12, Z13] at h11
        refine HC_seq fun K12 hK12 => ?_; refine HC_region ?_; refine HL_r rfl rfl rfl rfl (R_move rfl) ?_; refine HL_r rfl rfl rfl rfl (R_move rfl) ?_; refine HL_append (n := 0) (m := 1) (b := 32) (sz := 2) (news := slC y) (xs := []) (L0 := []) rfl rfl rfl rfl (Or.inr hv) rfl rfl rfl rfl rfl (by decide) rfl rfl oF (by decide) SlOwn.nil (by decide) (by decide) fun r1 cap1 sp1 hsp1 => ?_; refine HL_r rfl rfl rfl rfl (R_assign rfl) ?_; refine HL_nil ?_; refine HQ_then ?_; refine hK12 _ _ _ _ ?_; clear hK12 K12; refine HC_ret ?_; refine HQ_thenR ?_; clear hK9 K9; refine HQ_post rfl rfl (.cons (res_tmp rfl) .nil) (fun w1 hs1 => ?_); exact ⟨⟨some (r1, cap1, sp1), by simp [lF], hsp1⟩, rfl, by simpa [rowL] using hs1⟩
      · try exact Bool.noConfusion h11
  | some q =>
    obtain ⟨r, cap, sp⟩ := q
    obtain ⟨hr1, hr2⟩ := hrow
    have hcap : n ≤ cap := by omega
    refine pureT_of_HC Tryz.func142 rfl rfl fun w => ?_; change HC _ _ _ [(r, .cells ((A ++ B) ++ sp).toArray 93 (0, 0))] _ _ _; refine HC_seq fun K1 hK1 => ?_; refine HC_region ?_; refine HL_r rfl rfl rfl rfl (R_assign rfl) ?_; refine HL_nil ?_; refine HQ_then ?_; refine hK1 _ _ _ _ ?_; clear hK1 K1; refine HC_seq fun K2 hK2 => ?_; refine HC_region ?_; refine HL_r rfl rfl rfl rfl (R_move rfl) ?_; refine HL_r rfl rfl rfl rfl (R_move rfl) ?_; refine HL_r rfl rfl rfl rfl (R_sliceSl (m := i) (kl := some i) (kh := none) (km := none) (q := n) (z := cap) rfl rfl rfl ⟨_, rfl⟩ trivial trivial rfl rfl rfl (by omega) (by omega) (by omega) (fun _ => rfl) rfl) ?_; refine HL_nil ?_; refine HQ_then ?_; refine hK2 _ _ _ _ ?_; clear hK2 K2; refine HC_seq fun K3 hK3 => ?_; refine HC_region ?_; refine HL_r rfl rfl rfl rfl (R_move rfl) ?_; refine HL_r rfl rfl rfl rfl (R_lenSl rfl rfl) ?_; refine HL_r rfl rfl rfl rfl (R_assign rfl) ?_; refine HL_nil ?_; refine HQ_then ?_; refine hK3 _ _ _ _ ?_; clear hK3 K3; refine HC_seq fun K4 hK4 => ?_; refine HC_seq fun K5 hK5 => ?_; refine HC_region ?_; refine HL_r rfl rfl rfl rfl (R_move rfl) ?_; refine HL_r rfl rfl rfl rfl (R_pure rfl rfl rfl) ?_; refine HL_nil ?_; refine HQ_then ?_; refine hK5 _ _ _ _ ?_; clear hK5 K5; refine HC_cond rfl (fun h6 => ?_) (fun h6 => ?_)
    · try exact Bool.noConfusion h6
    · try exact Bool.noConfusion h6
      try simp only [Z1, Z2, Z3, Z4, Z5, Z6, Z7, Z8, Z9, Z10, Z11, Z12, Z13] at h6
      refine HC_skip ?_; refine HQ_then ?_; refine hK4 _ _ _ _ ?_; clear hK4 K4; refine HC_seq fun K8 hK8 => ?_; refine HC_region ?_; refine HL_r rfl rfl rfl rfl (R_move rfl) ?_; refine HL_r rfl rfl rfl rfl (R_lenSl rfl rfl) ?_; refine HL_r rfl rfl rfl rfl (R_assign rfl) ?_; refine HL_nil ?_; refine HQ_then ?_; refine hK8 _ _ _ _ ?_; clear hK8 K8; refine HC_seq fun K9 hK9 => ?_; refine HC_seq fun K10 hK10 => ?_; refine HC_region ?_; refine HL_r rfl rfl rfl rfl (R_move rfl) ?_; refine HL_r rfl rfl rfl rfl (R_move rfl) ?_; refine HL_r rfl rfl rfl rfl (R_pure rfl rfl rfl) ?_; refine HL_nil ?_; refine HQ_then ?_; refine hK10 _ _ _ _ ?_; clear hK10 K10; refine HC_cond rfl (fun h11 => ?_) (fun h11 => ?_)
      · try exact Bool.noConfusion h11
        try simp only [Z1, Z2, Z3, Z4, Z5, Z6, Z7, Z8, Z9, Z10, Z11, Z12, Z13] at h11
        refine HC_seq fun K12 hK12 => ?_; refine HC_region ?_; refine HL_r rfl rfl rfl rfl (R_move rfl) ?_; refine HL_r rfl rfl rfl rfl (R_move rfl) ?_
        obtain rfl : B = [] := List.length_eq_zero_iff.1 (by omega)
        refine HL_append (n := n) (m := 1) (b := 32) (sz := 2) (news := slC y) (xs := A ++ []) (L0 := []) rfl rfl rfl rfl (Or.inr hv) rfl rfl rfl rfl rfl (by decide) rfl lF oF (by decide) (SlOwn.own (k := 0) rfl (by simp only [List.toList_toArray]; rw [List.take_left' hr1]) hr1 (by rw [List.size_toArray, List.length_append, hr1]; omega) rfl) (by omega) (by omega) fun r1 cap1 sp1 hsp1 => ?_; refine HL_r rfl rfl rfl rfl (R_assign rfl) ?_; refine HL_nil ?_; refine HQ_then ?_; refine hK12 _ _ _ _ ?_; clear hK12 K12; refine HC_ret ?_; refine HQ_thenR ?_; clear hK9 K9; refine HQ_post rfl rfl (.cons (res_tmp rfl) .nil) (fun w1 hs1 => ?_); exact ⟨⟨some (r1, cap1, sp1), by simp only [List.length_append, List.length_nil, lF]; omega, hsp1⟩, rfl, by simpa [rowL] using hs1⟩
      · try exact Bool.noConfusion h11
        try simp only [Z1, Z2, Z3, Z4, Z5, Z6, Z7, Z8, Z9, Z10, Z11, Z12, Z13] at h11
        refine HC_skip ?_; refine HQ_then ?_; refine hK9 _ _ _ _ ?_; clear hK9 K9; refine HC_seq fun K13 hK13 => ?_; refine HC_seq fun K14 hK14 => ?_; refine HC_region ?_; refine HL_r rfl rfl rfl rfl (R_move rfl) ?_; refine HL_r rfl rfl rfl rfl (R_move rfl) ?_; refine HL_r rfl rfl rfl rfl (R_pure rfl rfl rfl) ?_; refine HL_wrap_i64 (by omega) (by omega) ?_; refine HL_r rfl rfl rfl rfl (R_move rfl) ?_; refine HL_r rfl rfl rfl rfl (R_capSl rfl rfl) ?_; refine HL_r rfl rfl rfl rfl (R_pure rfl rfl rfl) ?_; refine HL_nil ?_; refine HQ_then ?_; refine hK14 _ _ _ _ ?_; clear hK14 K14; refine HC_cond rfl (fun h15 => ?_) (fun h15 => ?_)
        · try exact Bool.noConfusion h15
          try simp only [Z1, Z2, Z3, Z4, Z5, Z6, Z7, Z8, Z9, Z10, Z11, Z12, Z13] at h15
          refine HC_seq fun K16 hK16 => ?_; refine HC_region ?_; refine HL_r rfl rfl rfl rfl (R_move rfl) ?_; refine HL_r rfl rfl rfl rfl (R_move rfl) ?_
          refine HL_r rfl rfl rfl rfl (R_sliceSl (sz := 2) (q := i) (kl := none) (kh := some (i)) (km := none) (m := 0) (z := cap) (off' := 0) rfl rfl rfl trivial ⟨_, rfl⟩ trivial rfl rfl rfl (by omega) (by omega) (by omega) (fun h => by cases h) (by split <;> omega)) ?_; refine HL_r rfl rfl rfl rfl (R_move rfl) ?_; refine HL_r rfl rfl rfl rfl (R_move rfl) ?_; refine HL_r rfl rfl rfl rfl (R_pure rfl rfl rfl) ?_; refine HL_wrap_i64 (by omega) (by omega) ?_; refine HL_r rfl rfl rfl rfl (R_move rfl) ?_
          refine HL_r rfl rfl rfl rfl (R_pure rfl rfl rfl) ?_; refine HL_as (show _ = Value.int .i64 ((n + 1 - i : Nat) : Int) from by rw [wrap_i64 (by omega) (by omega)]; congr 1 <;> omega) ?_; refine HL_appendZ (r := r) (off := 0) (n := i) (cap := cap) (m := n + 1 - i) (sz := 2) (b := 32) (xs := A) rfl rfl rfl rfl (known_L (k := 0) rfl) rfl rfl rfl rfl rfl rfl (by decide) (by simp only [List.toList_toArray, List.drop_zero]; rw [List.append_assoc, List.take_left' lA]) lA (by omega) (by omega) (by omega) (by omega) (by omega) fun r2 cap2 Z sp2 hZ hsp2 => ?_; rw [show i + (n + 1 - i) = n + 1 by omega] at hsp2 ⊢
          obtain ⟨Z1, Z2, rfl, lZ1⟩ := cut (l := Z) (a := 2) (by omega)
          have lZ2 : Z2.length = (n - i) * 2 := by rw [List.length_append, lZ1] at hZ; omega
          rw [show A ++ (Z1 ++ Z2) ++ sp2 = A ++ (Z1 ++ (Z2 ++ sp2)) by simp only [List.append_assoc]]; refine HL_r rfl rfl rfl rfl (R_assign rfl) ?_; refine HL_nil ?_; refine HQ_then ?_; refine hK16 _ _ _ _ ?_; clear hK16 K16; refine HC_seq fun K17 hK17 => ?_; refine HC_region ?_; refine HL_r rfl rfl rfl rfl (R_move rfl) ?_; refine HL_r rfl rfl rfl rfl (R_move rfl) ?_; refine HL_r rfl rfl rfl rfl (R_sliceSl (sz := 2) (m := i) (kl := some (i)) (kh := none) (km := none) (q := n + 1) (z := cap2) (off' := i * 2) rfl rfl rfl ⟨_, rfl⟩ trivial trivial rfl rfl rfl (by omega) (by omega) (by omega) (fun _ => rfl) (by rw [if_neg (by omega)]; omega)) ?_; refine HL_r rfl rfl rfl rfl (R_move rfl) ?_
          refine HL_copy (k := 0) (n := 1) (sz := 2) (vs := slC y) (cs' := A ++ (slC y ++ (Z2 ++ sp2))) rfl rfl rfl rfl rfl (Or.inr hv) rfl rfl (by simp only [Nat.min_def]; split <;> omega) rfl lF oF (by simp only [List.size_toArray, List.length_append]; omega) (splice lA (by rw [lZ1])) rfl ?_; refine HL_nil ?_; refine HQ_then ?_; refine hK17 _ _ _ _ ?_; clear hK17 K17; refine HC_seq fun K18 hK18 => ?_; refine HC_draw 8 (by kernel_rfl) (by kernel_rfl) ?_; refine HD_r rfl rfl rfl (R_move rfl) ?_; refine HD_r rfl rfl rfl (R_move rfl) ?_; refine HD_r rfl rfl rfl (R_move rfl) ?_
          refine HD_r rfl rfl rfl (R_pure rfl rfl rfl) ?_; refine HD_as (show _ = Value.int .i64 ((i + 1 : Nat) : Int) from by rw [wrap_i64 (by omega) (by omega)]; congr 1 <;> omega) ?_; refine HD_r rfl rfl rfl (R_sliceSl (sz := 2) (m := i + 1) (kl := some (i + 1)) (kh := none) (km := none) (q := n + 1) (z := cap2) (off' := (i + 1) * 2) rfl rfl rfl ⟨_, rfl⟩ trivial trivial rfl rfl rfl (by omega) (by omega) (by omega) (fun _ => rfl) (by rw [if_neg (by omega)]; omega)) ?_; refine HD_r rfl rfl rfl (R_move rfl) ?_; refine HD_r rfl rfl rfl (R_move rfl) ?_; refine HD_r rfl rfl rfl (R_sliceSl (sz := 2) (m := i) (kl := some (i)) (kh := none) (km := none) (q := n) (z := cap) (off' := i * 2) rfl rfl rfl ⟨_, rfl⟩ trivial trivial rfl rfl rfl (by omega) (by omega) (by omega) (fun _ => rfl) (by rw [if_neg (by omega)]; omega)) ?_; refine HD_end ?_; rw [show A ++ (slC y ++ (Z2 ++ sp2)) = (A ++ slC y) ++ (Z2 ++ sp2) by simp only [List.append_assoc]]
          refine HL_copy (k := 0) (n := n - i) (sz := 2) (vs := B) (cs' := (A ++ slC y) ++ (B ++ sp2)) rfl rfl rfl rfl rfl (known_L (k := 1) rfl) rfl rfl (by simp only [Nat.min_def]; split <;> omega) (by simp only [List.toList_toArray]; rw [List.append_assoc, List.drop_left' lA, List.take_left' lB]) lB oB (by simp only [List.size_toArray, List.length_append]; omega) (splice (by rw [List.length_append, lA, lF]; omega) lZ2) rfl ?_; refine HL_nil ?_; refine HQ_then ?_; refine hK18 _ _ _ _ ?_; clear hK18 K18; refine HC_seq fun K19 hK19 => ?_; refine HC_region ?_; refine HL_r rfl rfl rfl rfl (R_move rfl) ?_; refine HL_r rfl rfl rfl rfl (R_assign rfl) ?_; refine HL_nil ?_; refine HQ_then ?_; refine hK19 _ _ _ _ ?_; clear hK19 K19; refine HC_ret ?_; refine HQ_thenR ?_; clear hK13 K13; refine HQ_post rfl rfl (.cons (res_tmp rfl) .nil) (fun w1 hs1 => ?_); exact ⟨⟨some (r2, cap2, sp2), by simp only [List.length_append]; omega, hsp2⟩, rfl, hs1.weakL (by simp [rowL])⟩
        · try exact Bool.noConfusion h15
          try simp only [Z1, Z2, Z3, Z4, Z5, Z6, Z7, Z8, Z9, Z10, Z11, Z12, Z13] at h15
          refine HC_skip ?_; refine HQ_then ?_; refine hK13 _ _ _ _ ?_; clear hK13 K13; refine HC_seq fun K20 hK20 => ?_; refine HC_region ?_; refine HL_r rfl rfl rfl rfl (R_move rfl) ?_; refine HL_r rfl rfl rfl rfl (R_move rfl) ?_; refine HL_r rfl rfl rfl rfl (R_move rfl) ?_
          refine HL_r rfl rfl rfl rfl (R_pure rfl rfl rfl) ?_; refine HL_as (show _ = Value.int .i64 ((n + 1 : Nat) : Int) from by rw [wrap_i64 (by omega) (by omega)]; congr 1 <;> omega) ?_
          refine HL_r rfl rfl rfl rfl (R_sliceSl (sz := 2) (q := n + 1) (kl := none) (kh := some (n + 1)) (km := none) (m := 0) (z := cap) (off' := 0) rfl rfl rfl trivial ⟨_, rfl⟩ trivial rfl rfl rfl (by omega) (by omega) (by omega) (fun h => by cases h) (by split <;> omega)) ?_; refine HL_r rfl rfl rfl rfl (R_assign rfl) ?_; refine HL_nil ?_; refine HQ_then ?_; refine hK20 _ _ _ _ ?_; clear hK20 K20; refine HC_seq fun K21 hK21 => ?_; refine HC_seq fun K22 hK22 => ?_; refine HC_region ?_; refine HL_r rfl rfl rfl rfl (R_move rfl) ?_; refine HL_r rfl rfl rfl rfl (R_move rfl) ?_; refine HL_r rfl rfl rfl rfl (R_move rfl) ?_; refine HL_r rfl rfl rfl rfl (R_move rfl) ?_
          refine HL_r rfl rfl rfl rfl (R_pure rfl rfl rfl) ?_; refine HL_as (show _ = Value.int .i64 ((i + 1 : Nat) : Int) from by rw [wrap_i64 (by omega) (by omega)]; congr 1 <;> omega) ?_; refine HL_r rfl rfl rfl rfl (R_sliceSl (sz := 2) (m := i + 1) (kl := some (i + 1)) (kh := none) (km := none) (q := n + 1) (z := cap) (off' := (i + 1) * 2) rfl rfl rfl ⟨_, rfl⟩ trivial trivial rfl rfl rfl (by omega) (by omega) (by omega) (fun _ => rfl) (by rw [if_neg (by omega)]; omega)) ?_; refine HL_r rfl rfl rfl rfl (R_overlapsR (k := 0) rfl rfl rfl hv rfl rfl rfl (by simp only [List.size_toArray, List.length_append]; omega) Tryz.func159 rfl rfl rfl rfl) ?_; refine HL_r rfl rfl rfl rfl (R_pure rfl rfl rfl) ?_; refine HL_nil ?_; refine HQ_then ?_; refine hK22 _ _ _ _ ?_; clear hK22 K22; refine HC_cond rfl (fun h23 => ?_) (fun h23 => ?_)
          · try exact Bool.noConfusion h23
            try simp only [Z1, Z2, Z3, Z4, Z5, Z6, Z7, Z8, Z9, Z10, Z11, Z12, Z13] at h23
            refine HC_seq fun K24 hK24 => ?_; refine HC_draw 8 (by kernel_rfl) (by kernel_rfl) ?_; refine HD_r rfl rfl rfl (R_move rfl) ?_; refine HD_r rfl rfl rfl (R_move rfl) ?_; refine HD_r rfl rfl rfl (R_move rfl) ?_
            refine HD_r rfl rfl rfl (R_pure rfl rfl rfl) ?_; refine HD_as (show _ = Value.int .i64 ((i + 1 : Nat) : Int) from by rw [wrap_i64 (by omega) (by omega)]; congr 1 <;> omega) ?_; refine HD_r rfl rfl rfl (R_sliceSl (sz := 2) (m := i + 1) (kl := some (i + 1)) (kh := none) (km := none) (q := n + 1) (z := cap) (off' := (i + 1) * 2) rfl rfl rfl ⟨_, rfl⟩ trivial trivial rfl rfl rfl (by omega) (by omega) (by omega) (fun _ => rfl) (by rw [if_neg (by omega)]; omega)) ?_; refine HD_r rfl rfl rfl (R_move rfl) ?_; refine HD_r rfl rfl rfl (R_move rfl) ?_; refine HD_r rfl rfl rfl (R_sliceSl (sz := 2) (m := i) (kl := some (i)) (kh := none) (km := none) (q := n + 1) (z := cap) (off' := i * 2) rfl rfl rfl ⟨_, rfl⟩ trivial trivial rfl rfl rfl (by omega) (by omega) (by omega) (fun _ => rfl) (by rw [if_neg (by omega)]; omega)) ?_; refine HD_end ?_
            obtain ⟨X1, X2, hX, lX1⟩ := cut (l := B ++ sp) (a := 2) (by rw [List.length_append]; omega)
            obtain ⟨X3, X4, rfl, lX3⟩ := cut (l := X2) (a := (n - i) * 2) (by have := congrArg List.length hX; simp only [List.length_append] at this; omega)
            rw [show (A ++ B) ++ sp = (A ++ X1) ++ (X3 ++ X4) by rw [List.append_assoc, hX]; simp only [List.append_assoc]]
            refine HL_copy (k := 0) (n := n - i) (sz := 2) (vs := B) (cs' := (A ++ X1) ++ (B ++ X4)) rfl rfl rfl rfl rfl (known_L (k := 0) rfl) rfl rfl (by simp only [Nat.min_def]; split <;> omega) (by simp only [List.toList_toArray]; rw [List.append_assoc, List.drop_left' lA, ← hX, List.take_left' lB]) lB oB (by have := congrArg List.length hX; simp only [List.size_toArray, List.length_append] at this ⊢; omega) (splice (by rw [List.length_append, lA, lX1]; omega) lX3) rfl ?_; refine HL_nil ?_; refine HQ_then ?_; refine hK24 _ _ _ _ ?_; clear hK24 K24; refine HC_seq fun K25 hK25 => ?_; refine HC_region ?_; refine HL_r rfl rfl rfl rfl (R_move rfl) ?_; refine HL_r rfl rfl rfl rfl (R_move rfl) ?_; refine HL_r rfl rfl rfl rfl (R_sliceSl (sz := 2) (m := i) (kl := some (i)) (kh := none) (km := none) (q := n + 1) (z := cap) (off' := i * 2) rfl rfl rfl ⟨_, rfl⟩ trivial trivial rfl rfl rfl (by omega) (by omega) (by omega) (fun _ => rfl) (by rw [if_neg (by omega)]; omega)) ?_; refine HL_r rfl rfl rfl rfl (R_move rfl) ?_; rw [show (A ++ X1) ++ (B ++ X4) = A ++ (X1 ++ (B ++ X4)) by simp only [List.append_assoc]]
            refine HL_copy (k := 0) (n := 1) (sz := 2) (vs := slC y) (cs' := A ++ (slC y ++ (B ++ X4))) rfl rfl rfl rfl rfl (Or.inr hv) rfl rfl (by simp only [Nat.min_def]; split <;> omega) rfl lF oF (by simp only [List.size_toArray, List.length_append]; omega) (splice lA (by rw [lX1])) rfl ?_; refine HL_nil ?_; refine HQ_then ?_; refine hK25 _ _ _ _ ?_; clear hK25 K25; refine HC_seq fun K26 hK26 => ?_; refine HC_region ?_; refine HL_r rfl rfl rfl rfl (R_move rfl) ?_; refine HL_r rfl rfl rfl rfl (R_assign rfl) ?_; refine HL_nil ?_; refine HQ_then ?_; refine hK26 _ _ _ _ ?_; clear hK26 K26; refine HC_ret ?_; refine HQ_thenR ?_; clear hK21 K21; refine HQ_post rfl rfl (.cons (res_tmp rfl) .nil) (fun w1 hs1 => ?_); exact ⟨⟨some (r, cap, X4), by simp only [List.length_append]; omega, by have := congrArg List.length hX; simp only [List.length_append] at this; omega⟩, rfl, by simpa [rowL] using hs1⟩
          · try exact Bool.noConfusion h23
end Go.Proofs.YtnkmbkndpoghdaaGreat
namespace Go.Proofs.YtnkmbkndpoghdaaGreat
set_option linter.all false
open Go.SL Go.RowKit Go.Shelf
set_option maxRecDepth 10000 in
theorem S_withA {R : List (Nat × Obj)} {xs : List AcL} {p : Pl} (hl : xs.length ≤ 1000) (hs : Seg R xs.length (xs.flatMap AcL.cells) p) (hso : Sorted AcL.addr xs) (y : AcL) :
    PureT (α := { row : Row // rowOk 8 (insL AcL.addr y xs).length ((insL AcL.addr y xs).flatMap AcL.cells) row }) Tryz.prog 112 [plV xs.length p, vA y, fV 90].toArray (fun x => rowV (insL AcL.addr y xs).length x.1) [] (fun x => rowL 55 ((insL AcL.addr y xs).flatMap AcL.cells) x.1) R := by
  have hins := ins_lo (x := y) hso
  obtain ⟨j, hj⟩ : ∃ j, j = loL AcL.addr (AcL.addr y) xs := ⟨_, rfl⟩
  have hjl : j ≤ xs.length := hj ▸ lo_le _ _
  have hpl := S_placeA (k := AcL.addr y) hl hs hso
  have hlt : thereL AcL.addr (AcL.addr y) xs = true → j < xs.length := fun h => hj ▸ there_lt h
  rw [← hj] at hins hpl
  obtain ⟨b, hb⟩ : ∃ b, b = thereL AcL.addr (AcL.addr y) xs := ⟨_, rfl⟩
  rw [← hb] at hins hpl hlt; clear hj hb; refine pureT_of_HC Tryz.func112 rfl rfl fun w => ?_; refine HC_seq fun K1 hK1 => ?_; refine HC_region ?_; refine HL_box (cs := #[_, _, _, _, _, _, _, _]) rfl rfl rfl rfl fun r1 => ?_; refine HL_r rfl rfl rfl rfl (R_assign rfl) ?_; refine HL_nil ?_; refine HQ_then ?_; refine hK1 _ _ _ _ ?_; clear hK1 K1; refine HC_seq fun K2 hK2 => ?_; refine HC_region ?_; refine HL_r rfl rfl rfl rfl (R_move rfl) ?_; refine HL_r rfl rfl rfl rfl (R_move rfl) ?_; refine HL_r rfl rfl rfl rfl (R_loadA (vs := [_, _, _, _, _, _, _, _]) rfl (known_L (k := 0) rfl) rfl rfl rfl rfl) ?_; refine HL_callP rfl rfl rfl (enters_of Tryz.func90 (by kernel_rfl) rfl) (P_keyA y) ?_; refine HL_r rfl rfl rfl rfl (R_move rfl) ?_; refine HL_callR rfl rfl rfl (enters_of Tryz.func137 (by kernel_rfl) rfl) hpl (fun q hq => Or.inr hq) ?_; refine HL_r rfl rfl rfl rfl (R_move rfl) ?_; refine HL_r rfl rfl rfl rfl (R_extract rfl rfl) ?_; refine HL_r rfl rfl rfl rfl (R_extract rfl rfl) ?_; refine HL_r rfl rfl rfl rfl (R_assign rfl) ?_; refine HL_r rfl rfl rfl rfl (R_assign rfl) ?_; refine HL_nil ?_; refine HQ_then ?_; refine hK2 _ _ _ _ ?_; clear hK2 K2; refine HC_seq fun K3 hK3 => ?_; refine HC_region ?_; refine HL_r rfl rfl rfl rfl (R_move rfl) ?_; refine HL_callRE rfl rfl rfl (enters_of Tryz.func138 (by kernel_rfl) rfl) (S_cloneA hl hs) (fun q hq => Or.inr hq) fun x => ?_
  obtain ⟨row, hrow⟩ := x
  change HL _ _ ((20, rowV xs.length row) :: _) (rowL 55 (xs.flatMap AcL.cells) row ++ [(r1, _)]) _ _ _ _; refine HL_r rfl rfl rfl rfl (R_assign rfl) ?_; refine HL_nil ?_; refine HQ_then ?_; refine hK3 _ _ _ _ ?_; clear hK3 K3; refine HC_seq fun K4 hK4 => ?_; refine HC_seq fun K5 hK5 => ?_; refine HC_region ?_; refine HL_r rfl rfl rfl rfl (R_move rfl) ?_; refine HL_nil ?_; refine HQ_then ?_; refine hK5 _ _ _ _ ?_; clear hK5 K5; refine HC_cond rfl (fun h6 => ?_) (fun h6 => ?_)
  · try exact Bool.noConfusion h6
    try simp only [Z1, Z2, Z3, Z4, Z5, Z6, Z7, Z8, Z9, Z10, Z11, Z12, Z13] at h6
    refine HC_seq fun K7 hK7 => ?_
    have hltb := hlt (by assumption)
    obtain ⟨r2, cap2, sp2, rfl⟩ := row_some hrow (by omega)
    change HC _ _ _ [(r2, .cells (xs.flatMap AcL.cells ++ sp2).toArray 55 (0, 0)), (r1, _)] _ _ _; refine HC_region ?_; refine HL_r rfl rfl rfl rfl (R_move rfl) ?_; refine HL_r rfl rfl rfl rfl (R_move rfl) ?_; refine HL_r rfl rfl rfl rfl (R_loadA (vs := AcL.cells y) rfl (known_L (k := 1) rfl) rfl rfl rfl rfl) ?_; refine HL_r rfl rfl rfl rfl (R_indexS (j := j) (m := 8) rfl rfl rfl rfl rfl (by omega) rfl) ?_; refine HL_storeA (k := 0) (n := 8) (vs := (AcL.cells y).toArray) (cs' := ((xs.set j y).flatMap AcL.cells ++ sp2).toArray) rfl rfl rfl rfl rfl rfl (AcL.one y) (by have := hrow.1; simp only [List.size_toArray, List.length_append, cat_len AcL.len]; omega) (by apply Array.toList_inj.1; simp only [List.toList_toArray, Nat.zero_add]; exact cat_set AcL.len hltb y sp2) rfl ?_; refine HL_nil ?_; refine HQ_then ?_; refine hK7 _ _ _ _ ?_; clear hK7 K7; refine HC_seq fun K8 hK8 => ?_; refine HC_region ?_; refine HL_r rfl rfl rfl rfl (R_move rfl) ?_; refine HL_r rfl rfl rfl rfl (R_assign rfl) ?_; refine HL_nil ?_; refine HQ_then ?_; refine hK8 _ _ _ _ ?_; clear hK8 K8; refine HC_ret ?_; refine HQ_thenR ?_; clear hK4 K4; refine HQ_post rfl rfl (.cons (res_tmp rfl) .nil) (fun w1 hs1 => ?_)
    (rw [if_pos (by assumption)] at hins
     rw [hins, List.length_set]
     exact ⟨⟨some (r2, cap2, sp2), hrow.same (by rw [cat_len AcL.len, cat_len AcL.len, List.length_set])⟩, rfl, hs1.weakL (by simp [rowL])⟩)
  · try exact Bool.noConfusion h6
    try simp only [Z1, Z2, Z3, Z4, Z5, Z6, Z7, Z8, Z9, Z10, Z11, Z12, Z13] at h6
    refine HC_skip ?_; refine HQ_then ?_; refine hK4 _ _ _ _ ?_; clear hK4 K4; refine HC_seq fun K9 hK9 => ?_; refine HC_region ?_; refine HL_r rfl rfl rfl rfl (R_move rfl) ?_; refine HL_r rfl rfl rfl rfl (R_move rfl) ?_; refine HL_r rfl rfl rfl rfl (R_loadA (vs := AcL.cells y) rfl (Or.inl (List.mem_append_right _ List.mem_cons_self)) rfl rfl rfl rfl) ?_; refine HL_buildSlice (n := 1) (sz := 8) (vs := [_]) (zs := [_, _, _, _, _, _, _, _]) (r := AcL.cells y) rfl rfl rfl rfl rfl rfl rfl rfl rfl (by rw [made_list]; exact rfl) rfl fun rv => ?_; refine HL_callT (T := rowL 55 (xs.flatMap AcL.cells) row) (L0 := [(rv, _), (r1, _)]) (Rl := [(rv, Obj.cells (AcL.cells y).toArray 55 (0, 0))]) (by exact List.perm_middle.symm) rfl rfl rfl (enters_of Tryz.func139 (by kernel_rfl) rfl) (S_insertA (i := j) (y := y) hl hrow hjl List.mem_cons_self) (fun q hq => Or.inl (by rw [List.mem_singleton.1 hq]; exact List.mem_cons_self)) fun x => ?_
    obtain ⟨row2, hrow2⟩ := x
    refine HL_r rfl rfl rfl rfl (R_assign rfl) ?_; refine HL_nil ?_; refine HQ_then ?_; refine hK9 _ _ _ _ ?_; clear hK9 K9; refine HC_ret ?_; refine HQ_post rfl rfl (.cons (res_tmp rfl) .nil) (fun w1 hs1 => ?_)
    (rw [if_neg (by simp_all)] at hins
     have hln : (xs.take j ++ y :: xs.drop j).length = xs.length + 1 := by simp only [List.length_append, List.length_take, List.length_cons, List.length_drop]; omega
     rw [hins, hln]
     exact ⟨⟨row2, hrow2⟩, rfl, hs1.weakL (List.sublist_append_left _ _)⟩)
end Go.Proofs.YtnkmbkndpoghdaaGreat
namespace Go.Proofs.YtnkmbkndpoghdaaGreat
set_option linter.all false
open Go.SL Go.RowKit Go.Shelf
set_option maxRecDepth 10000 in
theorem S_withS {R : List (Nat × Obj)} {xs : List (BS × BS)} {p : Pl} (hl : xs.length ≤ 1000) (hs : Seg R xs.length (xs.flatMap slC) p) (hso : Sorted Prod.fst xs) (y : (BS × BS)) :
    PureT (α := { row : Row // rowOk 2 (insL Prod.fst y xs).length ((insL Prod.fst y xs).flatMap slC) row }) Tryz.prog 113 [plV xs.length p, vS y, fV 111].toArray (fun x => rowV (insL Prod.fst y xs).length x.1) [] (fun x => rowL 93 ((insL Prod.fst y xs).flatMap slC) x.1) R := by
  have hins := ins_lo (x := y) hso
  obtain ⟨j, hj⟩ : ∃ j, j = loL Prod.fst (Prod.fst y) xs := ⟨_, rfl⟩
  have hjl : j ≤ xs.length := hj ▸ lo_le _ _
  have hpl := S_placeS (k := Prod.fst y) hl hs hso
  have hlt : thereL Prod.fst (Prod.fst y) xs = true → j < xs.length := fun h => hj ▸ there_lt h
  rw [← hj] at hins hpl
  obtain ⟨b, hb⟩ : ∃ b, b = thereL Prod.fst (Prod.fst y) xs := ⟨_, rfl⟩
  rw [← hb] at hins hpl hlt; clear hj hb; refine pureT_of_HC Tryz.func113 rfl rfl fun w => ?_; refine HC_seq fun K1 hK1 => ?_; refine HC_region ?_; refine HL_box (cs := #[_, _]) rfl rfl rfl rfl fun r1 => ?_; refine HL_r rfl rfl rfl rfl (R_assign rfl) ?_; refine HL_nil ?_; refine HQ_then ?_; refine hK1 _ _ _ _ ?_; clear hK1 K1; refine HC_seq fun K2 hK2 => ?_; refine HC_region ?_; refine HL_r rfl rfl rfl rfl (R_move rfl) ?_; refine HL_r rfl rfl rfl rfl (R_move rfl) ?_; refine HL_r rfl rfl rfl rfl (R_loadA (vs := [_, _]) rfl (known_L (k := 0) rfl) rfl rfl rfl rfl) ?_; refine HL_callP rfl rfl rfl (enters_of Tryz.func111 (by kernel_rfl) rfl) (P_keyS y) ?_; refine HL_r rfl rfl rfl rfl (R_move rfl) ?_; refine HL_callR rfl rfl rfl (enters_of Tryz.func140 (by kernel_rfl) rfl) hpl (fun q hq => Or.inr hq) ?_; refine HL_r rfl rfl rfl rfl (R_move rfl) ?_; refine HL_r rfl rfl rfl rfl (R_extract rfl rfl) ?_; refine HL_r rfl rfl rfl rfl (R_extract rfl rfl) ?_; refine HL_r rfl rfl rfl rfl (R_assign rfl) ?_; refine HL_r rfl rfl rfl rfl (R_assign rfl) ?_; refine HL_nil ?_; refine HQ_then ?_; refine hK2 _ _ _ _ ?_; clear hK2 K2; refine HC_seq fun K3 hK3 => ?_; refine HC_region ?_; refine HL_r rfl rfl rfl rfl (R_move rfl) ?_; refine HL_callRE rfl rfl rfl (enters_of Tryz.func141 (by kernel_rfl) rfl) (S_cloneS hl hs) (fun q hq => Or.inr hq) fun x => ?_
  obtain ⟨row, hrow⟩ := x
  change HL _ _ ((20, rowV xs.length row) :: _) (rowL 93 (xs.flatMap slC) row ++ [(r1, _)]) _ _ _ _; refine HL_r rfl rfl rfl rfl (R_assign rfl) ?_; refine HL_nil ?_; refine HQ_then ?_; refine hK3 _ _ _ _ ?_; clear hK3 K3; refine HC_seq fun K4 hK4 => ?_; refine HC_seq fun K5 hK5 => ?_; refine HC_region ?_; refine HL_r rfl rfl rfl rfl (R_move rfl) ?_; refine HL_nil ?_; refine HQ_then ?_; refine hK5 _ _ _ _ ?_; clear hK5 K5; refine HC_cond rfl (fun h6 => ?_) (fun h6 => ?_)
  · try exact Bool.noConfusion h6
    try simp only [Z1, Z2, Z3, Z4, Z5, Z6, Z7, Z8, Z9, Z10, Z11, Z12, Z13] at h6
    refine HC_seq fun K7 hK7 => ?_
    have hltb := hlt (by assumption)
    obtain ⟨r2, cap2, sp2, rfl⟩ := row_some hrow (by omega)
    change HC _ _ _ [(r2, .cells (xs.flatMap slC ++ sp2).toArray 93 (0, 0)), (r1, _)] _ _ _; refine HC_region ?_; refine HL_r rfl rfl rfl rfl (R_move rfl) ?_; refine HL_r rfl rfl rfl rfl (R_move rfl) ?_; refine HL_r rfl rfl rfl rfl (R_loadA (vs := slC y) rfl (known_L (k := 1) rfl) rfl rfl rfl rfl) ?_; refine HL_r rfl rfl rfl rfl (R_indexS (j := j) (m := 2) rfl rfl rfl rfl rfl (by omega) rfl) ?_; refine HL_storeA (k := 0) (n := 2) (vs := (slC y).toArray) (cs' := ((xs.set j y).flatMap slC ++ sp2).toArray) rfl rfl rfl rfl rfl rfl (slC_one y) (by have := hrow.1; simp only [List.size_toArray, List.length_append, cat_len slC_len]; omega) (by apply Array.toList_inj.1; simp only [List.toList_toArray, Nat.zero_add]; exact cat_set slC_len hltb y sp2) rfl ?_; refine HL_nil ?_; refine HQ_then ?_; refine hK7 _ _ _ _ ?_; clear hK7 K7; refine HC_seq fun K8 hK8 => ?_; refine HC_region ?_; refine HL_r rfl rfl rfl rfl (R_move rfl) ?_; refine HL_r rfl rfl rfl rfl (R_assign rfl) ?_; refine HL_nil ?_; refine HQ_then ?_; refine hK8 _ _ _ _ ?_; clear hK8 K8; refine HC_ret ?_; refine HQ_thenR ?_; clear hK4 K4; refine HQ_post rfl rfl (.cons (res_tmp rfl) .nil) (fun w1 hs1 => ?_)
    (rw [if_pos (by assumption)] at hins
     rw [hins, List.length_set]
     exact ⟨⟨some (r2, cap2, sp2), hrow.same (by rw [cat_len slC_len, cat_len slC_len, List.length_set])⟩, rfl, hs1.weakL (by simp [rowL])⟩)
  · try exact Bool.noConfusion h6
    try simp only [Z1, Z2, Z3, Z4, Z5, Z6, Z7, Z8, Z9, Z10, Z11, Z12, Z13] at h6
    refine HC_skip ?_; refine HQ_then ?_; refine hK4 _ _ _ _ ?_; clear hK4 K4; refine HC_seq fun K9 hK9 => ?_; refine HC_region ?_; refine HL_r rfl rfl rfl rfl (R_move rfl) ?_; refine HL_r rfl rfl rfl rfl (R_move rfl) ?_; refine HL_r rfl rfl rfl rfl (R_loadA (vs := slC y) rfl (Or.inl (List.mem_append_right _ List.mem_cons_self)) rfl rfl rfl rfl) ?_; refine HL_buildSlice (n := 1) (sz := 2) (vs := [_]) (zs := [_, _]) (r := slC y) rfl rfl rfl rfl rfl rfl rfl rfl rfl (by rw [made_list]; exact rfl) rfl fun rv => ?_; refine HL_callT (T := rowL 93 (xs.flatMap slC) row) (L0 := [(rv, _), (r1, _)]) (Rl := [(rv, Obj.cells (slC y).toArray 93 (0, 0))]) (by exact List.perm_middle.symm) rfl rfl rfl (enters_of Tryz.func142 (by kernel_rfl) rfl) (S_insertS (i := j) (y := y) hl hrow hjl List.mem_cons_self) (fun q hq => Or.inl (by rw [List.mem_singleton.1 hq]; exact List.mem_cons_self)) fun x => ?_
    obtain ⟨row2, hrow2⟩ := x
    refine HL_r rfl rfl rfl rfl (R_assign rfl) ?_; refine HL_nil ?_; refine HQ_then ?_; refine hK9 _ _ _ _ ?_; clear hK9 K9; refine HC_ret ?_; refine HQ_post rfl rfl (.cons (res_tmp rfl) .nil) (fun w1 hs1 => ?_)
    (rw [if_neg (by simp_all)] at hins
     have hln : (xs.take j ++ y :: xs.drop j).length = xs.length + 1 := by simp only [List.length_append, List.length_take, List.length_cons, List.length_drop]; omega
     rw [hins, hln]
     exact ⟨⟨row2, hrow2⟩, rfl, hs1.weakL (List.sublist_append_left _ _)⟩)
end Go.Proofs.YtnkmbkndpoghdaaGreat
namespace Go.Proofs.YtnkmbkndpoghdaaGreat
set_option linter.all false
open Go.SL Go.RowKit Go.Shelf
theorem odd_int (x : BS × BS) : oddS x = (((x.1.length : Int) != 32) || ((x.2.length : Int) != 32)) := by
  have key : ∀ n : Nat, decide (n ≠ 32) = ((n : Int) != 32) := fun n => by
    by_cases h : n = 32
    · subst h; rfl
    · have h2 : ¬ (n : Int) = 32 := by omega
      simp [h, h2]
  unfold oddS
  rw [key, key]
set_option maxRecDepth 10000 in
theorem P_odd (x : BS × BS) : Pure Tryz.prog 107 [vS x].toArray (.bool (oddS x)) := by
  refine pure_of_HC Tryz.func107 rfl rfl fun w => ?_; refine HC_seq fun K1 hK1 => ?_; refine HC_region ?_; refine HL_box (cs := #[_, _]) rfl rfl rfl rfl fun r1 => ?_; refine HL_r rfl rfl rfl rfl (R_assign rfl) ?_; refine HL_nil ?_; refine HQ_then ?_; refine hK1 _ _ _ _ ?_; clear hK1 K1; refine HC_seq fun K2 hK2 => ?_; refine HC_region ?_
  refine HL_r rfl rfl rfl rfl (R_fieldAddr rfl rfl (by first | (simp only [Nat.zero_add, Nat.reduceAdd, Nat.reduceMul, Nat.zero_mul, Nat.mul_one, Nat.add_zero]; exact rfl) | exact rfl)) ?_; refine HL_r rfl rfl rfl rfl (R_load rfl (known_L (k := 0) rfl) rfl rfl) ?_; refine HL_r rfl rfl rfl rfl (R_lenBs rfl rfl) ?_; refine HL_r rfl rfl rfl rfl (R_pure rfl rfl rfl) ?_; refine HL_r rfl rfl rfl rfl (R_move rfl) ?_
  refine HL_case 7 rfl (fun hb3 => ?_) (fun hb3 => ?_) <;> (try simp only [Z1, Z2, Z3, Z4, Z5, Z6, Z7, Z8, Z9, Z10, Z11, Z12, Z13] at hb3) <;> first | (refine HL_r rfl rfl rfl rfl (R_fieldAddr rfl rfl (by first | (simp only [Nat.zero_add, Nat.reduceAdd, Nat.reduceMul, Nat.zero_mul, Nat.mul_one, Nat.add_zero]; exact rfl) | exact rfl)) ?_) | (refine HL_skip rfl rfl rfl ?_)
  all_goals first
    | (refine HL_r rfl rfl rfl rfl (R_load rfl (known_L (k := 0) rfl) rfl rfl) ?_)
    | (refine HL_skip rfl rfl rfl ?_)
  all_goals first
    | (refine HL_r rfl rfl rfl rfl (R_lenBs rfl rfl) ?_)
    | (refine HL_skip rfl rfl rfl ?_)
  all_goals first
    | (refine HL_r rfl rfl rfl rfl (R_pure rfl rfl rfl) ?_)
    | (refine HL_skip rfl rfl rfl ?_)
  all_goals first
    | (refine HL_r rfl rfl rfl rfl (R_pickT rfl rfl) ?_)
    | (refine HL_r rfl rfl rfl rfl (R_pickF rfl rfl) ?_)
  all_goals refine HL_r rfl rfl rfl rfl (R_assign rfl) ?_
  all_goals refine HL_nil ?_
  all_goals (
   refine HQ_then ?_; refine hK2 _ _ _ _ ?_; clear hK2 K2; refine HC_ret ?_; refine HQ_post rfl rfl (.cons (res_tmp rfl) .nil) (fun w1 hs1 => ?_); refine ⟨?_, hs1.keep⟩; rw [odd_int]
   simp_all [resVal]
   skip)
set_option maxRecDepth 10000 in
theorem P_spare (x : BS × BS) : Pure Tryz.prog 108 [vS x].toArray (.bool (spareS x)) := by
  refine pure_of_HC Tryz.func108 rfl rfl fun w => ?_; refine HC_seq fun K1 hK1 => ?_; refine HC_region ?_; refine HL_box (cs := #[_, _]) rfl rfl rfl rfl fun r1 => ?_; refine HL_r rfl rfl rfl rfl (R_assign rfl) ?_; refine HL_nil ?_; refine HQ_then ?_; refine hK1 _ _ _ _ ?_; clear hK1 K1; refine HC_seq fun K2 hK2 => ?_; refine HC_draw 5 (by kernel_rfl) (by kernel_rfl) ?_
  refine HD_r rfl rfl rfl (R_fieldAddr rfl rfl (by first | (simp only [Nat.zero_add, Nat.reduceAdd, Nat.reduceMul, Nat.zero_mul, Nat.mul_one, Nat.add_zero]; exact rfl) | exact rfl)) ?_; refine HD_r rfl rfl rfl (R_load rfl (known_L (k := 0) rfl) rfl rfl) ?_; refine HD_callP rfl rfl rfl (enters_of Tryz.func87 (by kernel_rfl) rfl) P_none ?_; refine HD_r rfl rfl rfl (R_strEq rfl rfl) ?_; refine HD_r rfl rfl rfl (R_assign rfl) ?_; refine HD_end ?_; refine HL_nil ?_; refine HQ_then ?_; refine hK2 _ _ _ _ ?_; clear hK2 K2; refine HC_ret ?_; refine HQ_post rfl rfl (.cons (res_tmp rfl) .nil) (fun w1 hs1 => ?_); exact ⟨rfl, hs1.keep⟩
set_option maxRecDepth 10000 in
theorem S_containsS {R : List (Nat × Obj)} {xs : List (BS × BS)} {p : Pl} (hl : xs.length ≤ 9223372036854775807) (hs : Seg R xs.length (xs.flatMap slC) p) {g : FuncId} {caps : List Value} {pr : BS × BS → Bool} (eg : Enters Tryz.prog g) (hg : ∀ x ∈ xs, PureR Tryz.prog g (vS x :: caps).toArray (.bool (pr x)) R) :
    PureR Tryz.prog 109 [plV xs.length p, .func (.func g) #[] caps.toArray].toArray (.bool (xs.any pr)) R := by
  have h := S_indexS hl hs eg hg
  refine pureR_of_HC Tryz.func109 rfl rfl fun w => ?_; refine HC_seq fun K1 hK1 => ?_; refine HC_region ?_; refine HL_r rfl rfl rfl rfl (R_assign rfl) ?_; refine HL_nil ?_; refine HQ_then ?_; refine hK1 _ _ _ _ ?_; clear hK1 K1; refine HC_seq fun K2 hK2 => ?_; refine HC_region ?_; refine HL_r rfl rfl rfl rfl (R_move rfl) ?_; refine HL_r rfl rfl rfl rfl (R_move rfl) ?_; refine HL_callR rfl rfl rfl (enters_of Tryz.func85 (by kernel_rfl) rfl) h (fun q hq => Or.inr hq) ?_; refine HL_r rfl rfl rfl rfl (R_pure rfl rfl rfl) ?_; refine HL_as (congrArg Value.bool idx_any) ?_; refine HL_r rfl rfl rfl rfl (R_assign rfl) ?_; refine HL_nil ?_; refine HQ_then ?_; refine hK2 _ _ _ _ ?_; clear hK2 K2; refine HC_ret ?_; refine HQ_post rfl rfl (.cons (res_tmp rfl) .nil) (fun w1 hs1 => ?_); exact ⟨rfl, hs1.keep⟩
set_option maxRecDepth 10000 in
theorem S_look {R : List (Nat × Obj)} {a : AcL} (ha : a.In R) : PureR Tryz.prog 88 [a.val].toArray (.int .i64 (lkE a.er)) R := by
  have h1 := S_containsS (g := 107) (caps := []) ha.len ha.seg (enters_of Tryz.func107 (by kernel_rfl) rfl) (fun x _ => (P_odd x).toR)
  have h2 := S_containsS (g := 108) (caps := []) ha.len ha.seg (enters_of Tryz.func108 (by kernel_rfl) rfl) (fun x _ => (P_spare x).toR)
  have h3 := S_risesS ha.len ha.seg
  have hl := ha.len
  have hseg := ha.seg
  have hE : lkE a.er = if ¬ ((a.addr.length : Int) = 20) ∨ a.slots.any oddS = true then 2 else if risesB Prod.fst a.slots = false then 11 else if (512 < (a.code.length : Int)) ∨ (16 < (a.slots.length : Int)) then 5 else if a.slots.any spareS = true then 8 else 0 := by
    exact ite_congr (propext (or_congr (by show ¬ a.addr.length = 20 ↔ _; omega) Iff.rfl)) (fun _ => rfl) (fun _ => ite_congr rfl (fun _ => rfl) (fun _ => ite_congr (propext (or_congr (by show a.code.length > 512 ↔ _; omega) (by show a.slots.length > 16 ↔ _; omega))) (fun _ => rfl) (fun _ => rfl)))
  rw [hE]; clear hE
  generalize a.slots.any oddS = oB at h1 ⊢
  generalize a.slots.any spareS = sB at h2 ⊢
  generalize risesB Prod.fst a.slots = rB at h3 ⊢
  refine pureR_of_HC Tryz.func88 rfl rfl fun w => ?_; refine HC_seq fun K1 hK1 => ?_; refine HC_region ?_; refine HL_box (cs := #[_, _, _, _, _, _, _, _]) rfl rfl rfl rfl fun r1 => ?_; refine HL_r rfl rfl rfl rfl (R_assign rfl) ?_; refine HL_nil ?_; refine HQ_then ?_; refine hK1 _ _ _ _ ?_; clear hK1 K1; refine HC_seq fun K2 hK2 => ?_; refine HC_region ?_; refine HL_r rfl rfl rfl rfl (R_assign rfl) ?_; refine HL_nil ?_; refine HQ_then ?_; refine hK2 _ _ _ _ ?_; clear hK2 K2; refine HC_seq fun K3 hK3 => ?_; refine HC_region ?_; refine HL_r rfl rfl rfl rfl (R_assign rfl) ?_; refine HL_nil ?_; refine HQ_then ?_; refine hK3 _ _ _ _ ?_; clear hK3 K3; refine HC_seq fun K4 hK4 => ?_; refine HC_block ?_; refine HC_seq fun K5 hK5 => ?_; refine HC_region ?_
  refine HL_r rfl rfl rfl rfl (R_fieldAddr rfl rfl (by first | (simp only [Nat.zero_add, Nat.reduceAdd, Nat.reduceMul, Nat.zero_mul, Nat.mul_one, Nat.add_zero]; exact rfl) | exact rfl)) ?_; refine HL_r rfl rfl rfl rfl (R_load rfl (known_L (k := 0) rfl) rfl rfl) ?_; refine HL_r rfl rfl rfl rfl (R_lenBs rfl rfl) ?_; refine HL_r rfl rfl rfl rfl (R_pure rfl rfl rfl) ?_; refine HL_r rfl rfl rfl rfl (R_move rfl) ?_
  refine HL_case 10 rfl (fun hb6 => ?_) (fun hb6 => ?_) <;> (try simp only [Z1, Z2, Z3, Z4, Z5, Z6, Z7, Z8, Z9, Z10, Z11, Z12, Z13] at hb6) <;> first | (refine HL_r rfl rfl rfl rfl (R_fieldAddr rfl rfl (by first | (simp only [Nat.zero_add, Nat.reduceAdd, Nat.reduceMul, Nat.zero_mul, Nat.mul_one, Nat.add_zero]; exact rfl) | exact rfl)) ?_) | (refine HL_skip rfl rfl rfl ?_)
  all_goals first
    | (refine HL_r rfl rfl rfl rfl (R_load rfl (known_L (k := 0) rfl) rfl rfl) ?_)
    | (refine HL_skip rfl rfl rfl ?_)
  all_goals first
    | (refine HL_r rfl rfl rfl rfl (R_move rfl) ?_)
    | (refine HL_skip rfl rfl rfl ?_)
  all_goals first
    | (refine HL_callR rfl rfl rfl (enters_of Tryz.func109 (by kernel_rfl) rfl) h1 (fun q hq => Or.inr hq) ?_)
    | (refine HL_skip rfl rfl rfl ?_)
  all_goals first
    | (refine HL_r rfl rfl rfl rfl (R_pickT rfl rfl) ?_)
    | (refine HL_r rfl rfl rfl rfl (R_pickF rfl rfl) ?_)
  all_goals refine HL_r rfl rfl rfl rfl (R_assign rfl) ?_
  all_goals refine HL_nil ?_
  all_goals (
   refine HQ_then ?_; refine hK5 _ _ _ _ ?_; clear hK5 K5; refine HC_cond rfl (fun h10 => ?_) (fun h10 => ?_)
   · try exact Bool.noConfusion h10
     try simp only [Z1, Z2, Z3, Z4, Z5, Z6, Z7, Z8, Z9, Z10, Z11, Z12, Z13] at h10
     refine HC_seq fun K11 hK11 => ?_; refine HC_region ?_; refine HL_r rfl rfl rfl rfl (R_assign rfl) ?_; refine HL_nil ?_; refine HQ_then ?_; refine hK11 _ _ _ _ ?_; clear hK11 K11; refine HC_ret ?_; refine HQ_blockR ?_; refine HQ_thenR ?_; clear hK4 K4; refine HQ_post rfl rfl (.cons (res_tmp rfl) .nil) (fun w1 hs1 => ?_); refine ⟨?_, hs1.keep⟩; simp only [resVal]
     simp_all
   · try exact Bool.noConfusion h10
     all_goals try simp only [Z1, Z2, Z3, Z4, Z5, Z6, Z7, Z8, Z9, Z10, Z11, Z12, Z13] at h10
     all_goals (
      refine HC_seq fun K12 hK12 => ?_; refine HC_region ?_
      refine HL_r rfl rfl rfl rfl (R_fieldAddr rfl rfl (by first | (simp only [Nat.zero_add, Nat.reduceAdd, Nat.reduceMul, Nat.zero_mul, Nat.mul_one, Nat.add_zero]; exact rfl) | exact rfl)) ?_; refine HL_r rfl rfl rfl rfl (R_load rfl (known_L (k := 0) rfl) rfl rfl) ?_; refine HL_callR rfl rfl rfl (enters_of Tryz.func110 (by kernel_rfl) rfl) h3 (fun q hq => Or.inr hq) ?_; refine HL_r rfl rfl rfl rfl (R_pure rfl rfl rfl) ?_; refine HL_r rfl rfl rfl rfl (R_assign rfl) ?_; refine HL_nil ?_; refine HQ_then ?_; refine hK12 _ _ _ _ ?_; clear hK12 K12; refine HC_cond rfl (fun h13 => ?_) (fun h13 => ?_)
      · try exact Bool.noConfusion h13
        try simp only [Z1, Z2, Z3, Z4, Z5, Z6, Z7, Z8, Z9, Z10, Z11, Z12, Z13] at h13
        refine HC_seq fun K14 hK14 => ?_; refine HC_region ?_; refine HL_r rfl rfl rfl rfl (R_assign rfl) ?_; refine HL_nil ?_; refine HQ_then ?_; refine hK14 _ _ _ _ ?_; clear hK14 K14; refine HC_ret ?_; refine HQ_blockR ?_; refine HQ_thenR ?_; clear hK4 K4; refine HQ_post rfl rfl (.cons (res_tmp rfl) .nil) (fun w1 hs1 => ?_); refine ⟨?_, hs1.keep⟩; simp only [resVal]
        simp_all
      · try exact Bool.noConfusion h13
        try simp only [Z1, Z2, Z3, Z4, Z5, Z6, Z7, Z8, Z9, Z10, Z11, Z12, Z13] at h13
        refine HC_seq fun K15 hK15 => ?_; refine HC_region ?_
        refine HL_r rfl rfl rfl rfl (R_fieldAddr rfl rfl (by first | (simp only [Nat.zero_add, Nat.reduceAdd, Nat.reduceMul, Nat.zero_mul, Nat.mul_one, Nat.add_zero]; exact rfl) | exact rfl)) ?_; refine HL_r rfl rfl rfl rfl (R_load rfl (known_L (k := 0) rfl) rfl rfl) ?_; refine HL_r rfl rfl rfl rfl (R_lenBs rfl rfl) ?_; refine HL_r rfl rfl rfl rfl (R_pure rfl rfl rfl) ?_; refine HL_r rfl rfl rfl rfl (R_move rfl) ?_
        refine HL_case 26 rfl (fun hb16 => ?_) (fun hb16 => ?_) <;> (try simp only [Z1, Z2, Z3, Z4, Z5, Z6, Z7, Z8, Z9, Z10, Z11, Z12, Z13] at hb16) <;> first | (refine HL_r rfl rfl rfl rfl (R_fieldAddr rfl rfl (by first | (simp only [Nat.zero_add, Nat.reduceAdd, Nat.reduceMul, Nat.zero_mul, Nat.mul_one, Nat.add_zero]; exact rfl) | exact rfl)) ?_) | (refine HL_skip rfl rfl rfl ?_)
        all_goals first
          | (refine HL_r rfl rfl rfl rfl (R_load rfl (known_L (k := 0) rfl) rfl rfl) ?_)
          | (refine HL_skip rfl rfl rfl ?_)
        all_goals first
          | (refine HL_r rfl rfl rfl rfl (R_lenPl rfl hseg rfl) ?_)
          | (refine HL_skip rfl rfl rfl ?_)
        all_goals first
          | (refine HL_r rfl rfl rfl rfl (R_pure rfl rfl rfl) ?_)
          | (refine HL_skip rfl rfl rfl ?_)
        all_goals first
          | (refine HL_r rfl rfl rfl rfl (R_pickT rfl rfl) ?_)
          | (refine HL_r rfl rfl rfl rfl (R_pickF rfl rfl) ?_)
        all_goals refine HL_r rfl rfl rfl rfl (R_assign rfl) ?_
        all_goals refine HL_nil ?_
        all_goals (
         refine HQ_then ?_; refine hK15 _ _ _ _ ?_; clear hK15 K15; refine HC_cond rfl (fun h20 => ?_) (fun h20 => ?_)
         · try exact Bool.noConfusion h20
           try simp only [Z1, Z2, Z3, Z4, Z5, Z6, Z7, Z8, Z9, Z10, Z11, Z12, Z13] at h20
           refine HC_seq fun K21 hK21 => ?_; refine HC_region ?_; refine HL_r rfl rfl rfl rfl (R_assign rfl) ?_; refine HL_nil ?_; refine HQ_then ?_; refine hK21 _ _ _ _ ?_; clear hK21 K21; refine HC_ret ?_; refine HQ_blockR ?_; refine HQ_thenR ?_; clear hK4 K4; refine HQ_post rfl rfl (.cons (res_tmp rfl) .nil) (fun w1 hs1 => ?_); refine ⟨?_, hs1.keep⟩; simp only [resVal]
           simp_all
         · try exact Bool.noConfusion h20
           all_goals try simp only [Z1, Z2, Z3, Z4, Z5, Z6, Z7, Z8, Z9, Z10, Z11, Z12, Z13] at h20
           all_goals (
            refine HC_seq fun K22 hK22 => ?_; refine HC_region ?_
            refine HL_r rfl rfl rfl rfl (R_fieldAddr rfl rfl (by first | (simp only [Nat.zero_add, Nat.reduceAdd, Nat.reduceMul, Nat.zero_mul, Nat.mul_one, Nat.add_zero]; exact rfl) | exact rfl)) ?_; refine HL_r rfl rfl rfl rfl (R_load rfl (known_L (k := 0) rfl) rfl rfl) ?_; refine HL_r rfl rfl rfl rfl (R_move rfl) ?_; refine HL_callR rfl rfl rfl (enters_of Tryz.func109 (by kernel_rfl) rfl) h2 (fun q hq => Or.inr hq) ?_; refine HL_r rfl rfl rfl rfl (R_assign rfl) ?_; refine HL_nil ?_; refine HQ_then ?_; refine hK22 _ _ _ _ ?_; clear hK22 K22; refine HC_cond rfl (fun h23 => ?_) (fun h23 => ?_)
            · try exact Bool.noConfusion h23
              try simp only [Z1, Z2, Z3, Z4, Z5, Z6, Z7, Z8, Z9, Z10, Z11, Z12, Z13] at h23
              refine HC_seq fun K24 hK24 => ?_; refine HC_region ?_; refine HL_r rfl rfl rfl rfl (R_assign rfl) ?_; refine HL_nil ?_; refine HQ_then ?_; refine hK24 _ _ _ _ ?_; clear hK24 K24; refine HC_ret ?_; refine HQ_blockR ?_; refine HQ_thenR ?_; clear hK4 K4; refine HQ_post rfl rfl (.cons (res_tmp rfl) .nil) (fun w1 hs1 => ?_); refine ⟨?_, hs1.keep⟩; simp only [resVal]
              simp_all
            · try exact Bool.noConfusion h23
              try simp only [Z1, Z2, Z3, Z4, Z5, Z6, Z7, Z8, Z9, Z10, Z11, Z12, Z13] at h23
              refine HC_skip ?_; refine HQ_blockN ?_; refine HQ_then ?_; refine hK4 _ _ _ _ ?_; clear hK4 K4; refine HC_seq fun K25 hK25 => ?_; refine HC_region ?_; refine HL_r rfl rfl rfl rfl (R_assign rfl) ?_; refine HL_nil ?_; refine HQ_then ?_; refine hK25 _ _ _ _ ?_; clear hK25 K25; refine HC_ret ?_; refine HQ_post rfl rfl (.cons (res_tmp rfl) .nil) (fun w1 hs1 => ?_); refine ⟨?_, hs1.keep⟩; simp only [resVal]
              simp_all
            skip)
         skip)
      skip)
   skip)
set_option maxRecDepth 10000 in
theorem S_find1 {R : List (Nat × Obj)} {rb e : Nat} {k : BS} (hb : (rb, Obj.cells #[strV k] e (0, 0)) ∈ R) (a : AcL) : PureR Tryz.prog 84 [vA a, .pointer (some ⟨rb, 0, none⟩)].toArray (.bool (decide (a.addr = k))) R := by
  refine pureR_of_HC Tryz.func84 rfl rfl fun w => ?_; refine HC_seq fun K1 hK1 => ?_; refine HC_region ?_; refine HL_box (cs := #[_, _, _, _, _, _, _, _]) rfl rfl rfl rfl fun r1 => ?_; refine HL_r rfl rfl rfl rfl (R_assign rfl) ?_; refine HL_nil ?_; refine HQ_then ?_; refine hK1 _ _ _ _ ?_; clear hK1 K1; refine HC_seq fun K2 hK2 => ?_; refine HC_region ?_
  refine HL_r rfl rfl rfl rfl (R_fieldAddr rfl rfl (by first | (simp only [Nat.zero_add, Nat.reduceAdd, Nat.reduceMul, Nat.zero_mul, Nat.mul_one, Nat.add_zero]; exact rfl) | exact rfl)) ?_; refine HL_r rfl rfl rfl rfl (R_load rfl (known_L (k := 0) rfl) rfl rfl) ?_; refine HL_r rfl rfl rfl rfl (R_load rfl (Or.inr hb) rfl rfl) ?_; refine HL_r rfl rfl rfl rfl (R_strEq rfl rfl) ?_; refine HL_r rfl rfl rfl rfl (R_assign rfl) ?_; refine HL_nil ?_; refine HQ_then ?_; refine hK2 _ _ _ _ ?_; clear hK2 K2; refine HC_ret ?_; refine HQ_post rfl rfl (.cons (res_tmp rfl) .nil) (fun w1 hs1 => ?_); exact ⟨rfl, hs1.keep⟩
set_option maxRecDepth 10000 in
theorem S_slot1 {R : List (Nat × Obj)} {rb e : Nat} {k : BS} (hb : (rb, Obj.cells #[strV k] e (0, 0)) ∈ R) (x : BS × BS) : PureR Tryz.prog 86 [vS x, .pointer (some ⟨rb, 0, none⟩)].toArray (.bool (decide (x.1 = k))) R := by
  refine pureR_of_HC Tryz.func86 rfl rfl fun w => ?_; refine HC_seq fun K1 hK1 => ?_; refine HC_region ?_; refine HL_box (cs := #[_, _]) rfl rfl rfl rfl fun r1 => ?_; refine HL_r rfl rfl rfl rfl (R_assign rfl) ?_; refine HL_nil ?_; refine HQ_then ?_; refine hK1 _ _ _ _ ?_; clear hK1 K1; refine HC_seq fun K2 hK2 => ?_; refine HC_region ?_
  refine HL_r rfl rfl rfl rfl (R_fieldAddr rfl rfl (by first | (simp only [Nat.zero_add, Nat.reduceAdd, Nat.reduceMul, Nat.zero_mul, Nat.mul_one, Nat.add_zero]; exact rfl) | exact rfl)) ?_; refine HL_r rfl rfl rfl rfl (R_load rfl (known_L (k := 0) rfl) rfl rfl) ?_; refine HL_r rfl rfl rfl rfl (R_load rfl (Or.inr hb) rfl rfl) ?_; refine HL_r rfl rfl rfl rfl (R_strEq rfl rfl) ?_; refine HL_r rfl rfl rfl rfl (R_assign rfl) ?_; refine HL_nil ?_; refine HQ_then ?_; refine hK2 _ _ _ _ ?_; clear hK2 K2; refine HC_ret ?_; refine HQ_post rfl rfl (.cons (res_tmp rfl) .nil) (fun w1 hs1 => ?_); exact ⟨rfl, hs1.keep⟩
set_option maxRecDepth 10000 in
theorem S_set1 {R : List (Nat × Obj)} {rb e : Nat} {k : BS} (hb : (rb, Obj.cells #[strV k] e (0, 0)) ∈ R) (x : BS × BS) : PureR Tryz.prog 115 [vS x, .pointer (some ⟨rb, 0, none⟩)].toArray (.bool (decide (x.1 = k))) R := by
  refine pureR_of_HC Tryz.func115 rfl rfl fun w => ?_; refine HC_seq fun K1 hK1 => ?_; refine HC_region ?_; refine HL_box (cs := #[_, _]) rfl rfl rfl rfl fun r1 => ?_; refine HL_r rfl rfl rfl rfl (R_assign rfl) ?_; refine HL_nil ?_; refine HQ_then ?_; refine hK1 _ _ _ _ ?_; clear hK1 K1; refine HC_seq fun K2 hK2 => ?_; refine HC_region ?_
  refine HL_r rfl rfl rfl rfl (R_fieldAddr rfl rfl (by first | (simp only [Nat.zero_add, Nat.reduceAdd, Nat.reduceMul, Nat.zero_mul, Nat.mul_one, Nat.add_zero]; exact rfl) | exact rfl)) ?_; refine HL_r rfl rfl rfl rfl (R_load rfl (known_L (k := 0) rfl) rfl rfl) ?_; refine HL_r rfl rfl rfl rfl (R_load rfl (Or.inr hb) rfl rfl) ?_; refine HL_r rfl rfl rfl rfl (R_strEq rfl rfl) ?_; refine HL_r rfl rfl rfl rfl (R_assign rfl) ?_; refine HL_nil ?_; refine HQ_then ?_; refine hK2 _ _ _ _ ?_; clear hK2 K2; refine HC_ret ?_; refine HQ_post rfl rfl (.cons (res_tmp rfl) .nil) (fun w1 hs1 => ?_); exact ⟨rfl, hs1.keep⟩
set_option maxRecDepth 10000 in
theorem S_Find {R : List (Nat × Obj)} {s : StL} (hs : s.In R) (k : BS) : PureR Tryz.prog 40 [s.val, strV k].toArray (.tuple #[(findL s k).val, .bool (foundB s k)]) R := by
  have hl := hs.len
  have hseg := hs.seg
  refine pureR_of_HC Tryz.func40 rfl rfl fun w => ?_; refine HC_seq fun K1 hK1 => ?_; refine HC_region ?_; refine HL_box (cs := #[_]) rfl rfl rfl rfl fun r1 => ?_; refine HL_box (cs := #[_]) rfl rfl rfl rfl fun r2 => ?_; refine HL_alloc (cs := #[_, _, _, _, _, _, _, _]) rfl rfl rfl rfl fun r3 => ?_; refine HL_r rfl rfl rfl rfl (R_assign rfl) ?_; refine HL_nil ?_; refine HQ_then ?_; refine hK1 _ _ _ _ ?_; clear hK1 K1; refine HC_seq fun K2 hK2 => ?_; refine HC_region ?_
  refine HL_r rfl rfl rfl rfl (R_fieldAddr rfl rfl (by first | (simp only [Nat.zero_add, Nat.reduceAdd, Nat.reduceMul, Nat.zero_mul, Nat.mul_one, Nat.add_zero]; exact rfl) | exact rfl)) ?_; refine HL_r rfl rfl rfl rfl (R_load rfl (known_L (k := 2) rfl) rfl rfl) ?_; refine HL_r rfl rfl rfl rfl (R_makeFunc rfl rfl) ?_; refine HL_callR (Rl := (r2, Obj.cells #[strV k] 9 (0, 0)) :: R) rfl rfl rfl (enters_of Tryz.func83 (by kernel_rfl) rfl) (S_indexA (caps := [.pointer (some ⟨r2, 0, none⟩)]) (pr := fun a => decide (a.addr = k)) hl (hseg.mono fun q hq => List.mem_cons_of_mem _ hq) (enters_of Tryz.func84 (by kernel_rfl) rfl) (fun a _ => S_find1 List.mem_cons_self a)) (fun q hq => (List.mem_cons.1 hq).elim (fun h => Or.inl (by rw [h]; simp)) Or.inr) ?_; refine HL_r rfl rfl rfl rfl (R_assign rfl) ?_; refine HL_nil ?_; refine HQ_then ?_; refine hK2 _ _ _ _ ?_; clear hK2 K2; refine HC_seq fun K3 hK3 => ?_; refine HC_seq fun K4 hK4 => ?_; refine HC_region ?_; refine HL_r rfl rfl rfl rfl (R_move rfl) ?_; refine HL_r rfl rfl rfl rfl (R_pure rfl rfl rfl) ?_; refine HL_nil ?_; refine HQ_then ?_; refine hK4 _ _ _ _ ?_; clear hK4 K4; refine HC_cond rfl (fun h5 => ?_) (fun h5 => ?_)
  · try exact Bool.noConfusion h5
    try simp only [Z1, Z2, Z3, Z4, Z5, Z6, Z7, Z8, Z9, Z10, Z11, Z12, Z13] at h5
    refine HC_seq fun K6 hK6 => ?_
    have hf := idx_miss (by assumption)
    refine HC_region ?_; refine HL_r rfl rfl rfl rfl (R_build (r := [_, _, _, _, _, _, _, _]) rfl rfl) ?_
    refine HL_storeA (k := 0) (n := 8) (cs' := #[_, _, _, _, _, _, _, _]) (vs := #[_, _, _, _, _, _, _, _]) rfl rfl rfl rfl rfl rfl rfl (by exact Nat.le_of_ble_eq_true rfl) rfl (by first | (simp only [List.set_cons_zero, List.set_cons_succ]; exact rfl) | exact rfl) ?_; refine HL_r rfl rfl rfl rfl (R_assign rfl) ?_; refine HL_nil ?_; refine HQ_then ?_; refine hK6 _ _ _ _ ?_; clear hK6 K6; refine HC_ret ?_; refine HQ_thenR ?_; clear hK3 K3; refine HQ_post rfl rfl (.cons (res_cellA (vs := [_, _, _, _, _, _, _, _]) rfl (known_L (k := 0) rfl) rfl rfl) (.cons (res_tmp rfl) .nil)) (fun w1 hs1 => ?_); refine ⟨?_, hs1.keep⟩; rw [(find_miss hf).1, (find_miss hf).2]; rfl
  · try exact Bool.noConfusion h5
    try simp only [Z1, Z2, Z3, Z4, Z5, Z6, Z7, Z8, Z9, Z10, Z11, Z12, Z13] at h5
    refine HC_skip ?_; refine HQ_then ?_; refine hK3 _ _ _ _ ?_; clear hK3 K3; refine HC_seq fun K7 hK7 => ?_
    obtain ⟨i, a, hidx, ha, hf⟩ := idx_hit (by assumption)
    refine HC_region ?_
    refine HL_r rfl rfl rfl rfl (R_fieldAddr rfl rfl (by first | (simp only [Nat.zero_add, Nat.reduceAdd, Nat.reduceMul, Nat.zero_mul, Nat.mul_one, Nat.add_zero]; exact rfl) | exact rfl)) ?_; refine HL_r rfl rfl rfl rfl (R_load rfl (known_L (k := 2) rfl) rfl rfl) ?_; refine HL_r rfl rfl rfl rfl (R_move rfl) ?_
    refine HL_r rfl rfl rfl rfl (R_indexPl (j := i) rfl hseg rfl rfl rfl (by first | rfl | omega) (by have := (List.getElem?_eq_some_iff.1 ha).1; omega)) ?_; refine HL_r rfl rfl rfl rfl (R_loadEl AcL.len (fun q hq => Or.inr hq) rfl hseg ha rfl rfl) ?_
    refine HL_storeA (k := 0) (n := 8) (cs' := #[_, _, _, _, _, _, _, _]) (vs := #[_, _, _, _, _, _, _, _]) rfl rfl rfl rfl rfl rfl rfl (by exact Nat.le_of_ble_eq_true rfl) rfl (by first | (simp only [List.set_cons_zero, List.set_cons_succ]; exact rfl) | exact rfl) ?_; refine HL_r rfl rfl rfl rfl (R_assign rfl) ?_; refine HL_nil ?_; refine HQ_then ?_; refine hK7 _ _ _ _ ?_; clear hK7 K7; refine HC_ret ?_; refine HQ_post rfl rfl (.cons (res_cellA (vs := [_, _, _, _, _, _, _, _]) rfl (known_L (k := 0) rfl) rfl rfl) (.cons (res_tmp rfl) .nil)) (fun w1 hs1 => ?_); refine ⟨?_, hs1.keep⟩; rw [(find_hit hf).1, (find_hit hf).2]; rfl
end Go.Proofs.YtnkmbkndpoghdaaGreat
namespace Go.Proofs.YtnkmbkndpoghdaaGreat
set_option linter.all false
open Go.SL Go.RowKit Go.Shelf
set_option maxRecDepth 10000 in
theorem S_Check {R : List (Nat × Obj)} {s : StL} (hs : s.In R) : PureR Tryz.prog 44 [s.val].toArray (.int .i64 (chkS s.er)) R := by
  have hl : s.accts.length ≤ 9223372036854775807 := hs.len
  have hseg := hs.seg
  obtain ⟨hc5, hcg⟩ := chk_len s
  refine pureR_of_HC Tryz.func44 rfl rfl fun w => ?_; refine HC_seq fun K1 hK1 => ?_; refine HC_region ?_; refine HL_box (cs := #[_]) rfl rfl rfl rfl fun r1 => ?_; refine HL_r rfl rfl rfl rfl (R_assign rfl) ?_; refine HL_nil ?_; refine HQ_then ?_; refine hK1 _ _ _ _ ?_; clear hK1 K1; refine HC_seq fun K2 hK2 => ?_; refine HC_seq fun K3 hK3 => ?_; refine HC_region ?_
  refine HL_r rfl rfl rfl rfl (R_fieldAddr rfl rfl (by first | (simp only [Nat.zero_add, Nat.reduceAdd, Nat.reduceMul, Nat.zero_mul, Nat.mul_one, Nat.add_zero]; exact rfl) | exact rfl)) ?_; refine HL_r rfl rfl rfl rfl (R_load rfl (known_L (k := 0) rfl) rfl rfl) ?_; refine HL_r rfl rfl rfl rfl (R_lenPl rfl hseg rfl) ?_; refine HL_r rfl rfl rfl rfl (R_pure rfl rfl rfl) ?_; refine HL_nil ?_; refine HQ_then ?_; refine hK3 _ _ _ _ ?_; clear hK3 K3; refine HC_cond rfl (fun h4 => ?_) (fun h4 => ?_)
  · try exact Bool.noConfusion h4
    try simp only [Z1, Z2, Z3, Z4, Z5, Z6, Z7, Z8, Z9, Z10, Z11, Z12, Z13] at h4
    refine HC_seq fun K5 hK5 => ?_; refine HC_region ?_; refine HL_r rfl rfl rfl rfl (R_assign rfl) ?_; refine HL_nil ?_; refine HQ_then ?_; refine hK5 _ _ _ _ ?_; clear hK5 K5; refine HC_ret ?_; refine HQ_thenR ?_; clear hK2 K2; refine HQ_post rfl rfl (.cons (res_tmp rfl) .nil) (fun w1 hs1 => ?_); refine ⟨?_, hs1.keep⟩; rw [hc5 (by assumption)]; rfl
  · try exact Bool.noConfusion h4
    try simp only [Z1, Z2, Z3, Z4, Z5, Z6, Z7, Z8, Z9, Z10, Z11, Z12, Z13] at h4
    refine HC_skip ?_; refine HQ_then ?_; refine hK2 _ _ _ _ ?_; clear hK2 K2; refine HC_seq fun K6 hK6 => ?_; refine HC_seq fun K7 hK7 => ?_; refine HC_region ?_
    refine HL_r rfl rfl rfl rfl (R_fieldAddr rfl rfl (by first | (simp only [Nat.zero_add, Nat.reduceAdd, Nat.reduceMul, Nat.zero_mul, Nat.mul_one, Nat.add_zero]; exact rfl) | exact rfl)) ?_; refine HL_r rfl rfl rfl rfl (R_load rfl (known_L (k := 0) rfl) rfl rfl) ?_; refine HL_r rfl rfl rfl rfl (R_lenPl rfl hseg rfl) ?_; refine HL_r rfl rfl rfl rfl (R_move rfl) ?_; refine HL_nil ?_; refine HQ_then ?_; refine hK7 _ _ _ _ ?_; clear hK7 K7; refine HC_block ?_; refine HC_loop (σ := Nat) (fun i => i ≤ s.accts.length ∧ goS (lastE s.er i) (s.er.drop i) = goS none s.er) (fun i => [(1, .pointer (some ⟨r1, 0, none⟩)), (11, plV s.accts.length s.p), (12, .int .i64 (s.accts.length : Int)), (13, .int .i64 (i : Int))]) (fun _ => [(r1, .cells s.cells.toArray 24 (0, 0))]) (fun _ _ _ => True) (fun i => s.accts.length - i) 0 ⟨Nat.zero_le _, rfl⟩ (.cons rfl (.cons rfl (.cons rfl (.cons rfl .nil)))) (List.Sublist.refl _) (fun _ _ h => h) ?_; rintro i ⟨hi1, hinv⟩; refine HC_seq fun K8 hK8 => ?_; refine HC_region ?_; refine HL_r rfl rfl rfl rfl (R_pure rfl rfl rfl) ?_; refine HL_nil ?_; refine HQ_then ?_; refine hK8 _ _ _ _ ?_; clear hK8 K8; refine HC_seq fun K9 hK9 => ?_; refine HC_cond rfl (fun h10 => ?_) (fun h10 => ?_)
    · try exact Bool.noConfusion h10
      try simp only [Z1, Z2, Z3, Z4, Z5, Z6, Z7, Z8, Z9, Z10, Z11, Z12, Z13] at h10
      refine HC_skip ?_; refine HQ_then ?_; refine hK9 _ _ _ _ ?_; clear hK9 K9; refine HC_seq fun K11 hK11 => ?_; refine HC_block ?_; refine HC_seq fun K12 hK12 => ?_
      obtain ⟨a, ha, hma⟩ := getI (show i < s.accts.length by omega)
      rw [go_step (er_get ha)] at hinv; refine HC_region ?_; refine HL_r rfl rfl rfl rfl (R_move rfl) ?_
      refine HL_r rfl rfl rfl rfl (R_indexPl (j := i) rfl hseg rfl rfl rfl (by first | rfl | omega) (by omega)) ?_; refine HL_r rfl rfl rfl rfl (R_loadEl AcL.len (fun q hq => Or.inr hq) rfl hseg ha rfl rfl) ?_; refine HL_alloc (cs := #[_, _, _, _, _, _, _, _]) rfl rfl rfl rfl fun r2 => ?_; refine HL_r rfl rfl rfl rfl (R_assign rfl) ?_; refine HL_storeArr (k := 0) (n := 8) (ys := a.cells) rfl rfl rfl rfl rfl a.len rfl a.one rfl ?_; refine HL_nil ?_; refine HQ_then ?_; refine hK12 _ _ _ _ ?_; clear hK12 K12; refine HC_seq fun K13 hK13 => ?_; refine HC_region ?_; refine HL_r rfl rfl rfl rfl (R_loadArr (xs := a.cells) (n := 8) rfl (known_L (k := 0) rfl) rfl rfl a.len) ?_; refine HL_callR rfl rfl rfl (enters_of Tryz.func88 (by kernel_rfl) rfl) (S_look (hs.accts a hma)) (fun q hq => Or.inr hq) ?_; refine HL_r rfl rfl rfl rfl (R_assign rfl) ?_; refine HL_nil ?_; refine HQ_then ?_; refine hK13 _ _ _ _ ?_; clear hK13 K13; refine HC_seq fun K14 hK14 => ?_; refine HC_seq fun K15 hK15 => ?_; refine HC_region ?_; refine HL_r rfl rfl rfl rfl (R_move rfl) ?_; refine HL_r rfl rfl rfl rfl (R_pure rfl rfl rfl) ?_; refine HL_r rfl rfl rfl rfl (R_move rfl) ?_
      refine HL_case 22 rfl (fun hb16 => ?_) (fun hb16 => ?_) <;> (try simp only [Z1, Z2, Z3, Z4, Z5, Z6, Z7, Z8, Z9, Z10, Z11, Z12, Z13] at hb16) <;> first | (refine HL_r rfl rfl rfl rfl (R_move rfl) ?_) | (refine HL_skip rfl rfl rfl ?_)
      all_goals first
        | (refine HL_r rfl rfl rfl rfl (R_pure rfl rfl rfl) ?_)
        | (refine HL_skip rfl rfl rfl ?_)
      all_goals first
        | (refine HL_r rfl rfl rfl rfl (R_pickT rfl rfl) ?_)
        | (refine HL_r rfl rfl rfl rfl (R_pickF rfl rfl) ?_)
      all_goals refine HL_r rfl rfl rfl rfl (R_move rfl) ?_
      all_goals first
        | (refine HL_skip rfl rfl rfl ?_)
        | (refine HL_case 26 rfl (fun hb18 => ?_) (fun hb18 => ?_) <;> (try simp only [Z1, Z2, Z3, Z4, Z5, Z6, Z7, Z8, Z9, Z10, Z11, Z12, Z13] at hb18) <;> first | (refine HL_r rfl rfl rfl rfl (R_fieldAddr rfl rfl (by first | (simp only [Nat.zero_add, Nat.reduceAdd, Nat.reduceMul, Nat.zero_mul, Nat.mul_one, Nat.add_zero]; exact rfl) | exact rfl)) ?_) | (refine HL_skip rfl rfl rfl ?_))
      all_goals first
        | (refine HL_r rfl rfl rfl rfl (R_load rfl (known_L (k := 1) rfl) rfl rfl) ?_)
        | (refine HL_skip rfl rfl rfl ?_)
      all_goals first
        | (refine HL_r rfl rfl rfl rfl (R_move rfl) ?_)
        | (refine HL_skip rfl rfl rfl ?_)
      all_goals first
        | (refine HL_r rfl rfl rfl rfl (R_pure rfl rfl rfl) ?_; refine HL_wrap_i64 (by omega) (by omega) ?_)
        | (refine HL_skip rfl rfl rfl ?_)
      all_goals first
        | (refine HL_r rfl rfl rfl rfl (R_move rfl) ?_)
        | (refine HL_skip rfl rfl rfl ?_)
      all_goals first
        | (refine HL_r rfl rfl rfl rfl (R_pure rfl rfl rfl) ?_; refine HL_wrap_i64 (by omega) (by omega) ?_)
        | (refine HL_skip rfl rfl rfl ?_)
      all_goals first
        | (obtain ⟨x, hx, hmx⟩ := getI (show i - 1 < s.accts.length by omega); refine HL_r rfl rfl rfl rfl (R_slicePl (sz := 8) (a := i - 1) (b := i + 1) (m := 2) rfl hseg rfl rfl (by omega) (by omega) rfl rfl (by omega) (by omega) (by omega)) ?_; have hlast := last_er hx (show i - 1 + 1 = i by omega))
        | (refine HL_skip rfl rfl rfl ?_)
      all_goals first
        | (refine HL_callR rfl rfl rfl (enters_of Tryz.func89 (by kernel_rfl) rfl) (S_risesA (xs := [x, a]) (show 2 ≤ 9223372036854775807 by decide) (hseg.two AcL.len hx ha (by omega))) (fun q hq => Or.inr hq) ?_; refine HL_as (congrArg Value.bool (risesB_two x a)) ?_)
        | (refine HL_skip rfl rfl rfl ?_)
      all_goals first
        | (refine HL_r rfl rfl rfl rfl (R_pure rfl rfl rfl) ?_)
        | (refine HL_skip rfl rfl rfl ?_)
      all_goals first
        | (refine HL_r rfl rfl rfl rfl (R_pickT rfl rfl) ?_)
        | (refine HL_r rfl rfl rfl rfl (R_pickF rfl rfl) ?_)
      all_goals refine HL_nil ?_
      all_goals (
       refine HQ_then ?_; refine hK15 _ _ _ _ ?_; clear hK15 K15; refine HC_cond rfl (fun h27 => ?_) (fun h27 => ?_)
       · try exact Bool.noConfusion h27
         all_goals try simp only [Z1, Z2, Z3, Z4, Z5, Z6, Z7, Z8, Z9, Z10, Z11, Z12, Z13] at h27
         all_goals (
          refine HC_region ?_; refine HL_r rfl rfl rfl rfl (R_assign rfl) ?_; refine HL_nil ?_; refine HQ_then ?_; refine hK14 _ _ _ _ ?_; clear hK14 K14; refine HC_seq fun K28 hK28 => ?_
          have hst : stepE (lastE s.er i) a.er = 11 ∨ stepE (lastE s.er i) a.er = lkE a.er := by unfold stepE; split <;> simp
          have hst : stepE (lastE s.er i) a.er = 11 := step_11 (by assumption) hlast (by assumption)
          rw [hst] at hinv; refine HC_region ?_; refine HL_r rfl rfl rfl rfl (R_move rfl) ?_; refine HL_r rfl rfl rfl rfl (R_pure rfl rfl rfl) ?_; refine HL_nil ?_; refine HQ_then ?_; refine hK28 _ _ _ _ ?_; clear hK28 K28; refine HC_cond rfl (fun h29 => ?_) (fun h29 => ?_)
          · try exact Bool.noConfusion h29
            try simp only [Z1, Z2, Z3, Z4, Z5, Z6, Z7, Z8, Z9, Z10, Z11, Z12, Z13] at h29
            refine HC_seq fun K30 hK30 => ?_; refine HC_region ?_; refine HL_r rfl rfl rfl rfl (R_move rfl) ?_; refine HL_r rfl rfl rfl rfl (R_assign rfl) ?_; refine HL_nil ?_; refine HQ_then ?_; refine hK30 _ _ _ _ ?_; clear hK30 K30; refine HC_ret ?_; refine HQ_blockR ?_; refine HQ_thenR ?_; clear hK11 K11; refine HQ_thenR ?_; refine HQ_blockR ?_; refine HQ_thenR ?_; clear hK6 K6; refine HQ_post rfl rfl (.cons (res_tmp rfl) .nil) (fun w1 hs1 => ?_); refine ⟨?_, hs1.keep⟩; rw [hcg (by omega), ← hinv, if_pos (by simp_all)]; rfl
          · try exact Bool.noConfusion h29
          skip)
       · try exact Bool.noConfusion h27
         try simp only [Z1, Z2, Z3, Z4, Z5, Z6, Z7, Z8, Z9, Z10, Z11, Z12, Z13] at h27
         refine HC_skip ?_; refine HQ_then ?_; refine hK14 _ _ _ _ ?_; clear hK14 K14; refine HC_seq fun K31 hK31 => ?_
         have hst : stepE (lastE s.er i) a.er = 11 ∨ stepE (lastE s.er i) a.er = lkE a.er := by unfold stepE; split <;> simp
         have hst : stepE (lastE s.er i) a.er = lkE a.er := step_lk (by first | exact Or.inl (by assumption) | exact Or.inr (Or.inl (by rw [show i = 0 by omega]; rfl)) | exact Or.inr (Or.inr ⟨_, hlast, by assumption⟩))
         rw [hst] at hinv; refine HC_region ?_; refine HL_r rfl rfl rfl rfl (R_move rfl) ?_; refine HL_r rfl rfl rfl rfl (R_pure rfl rfl rfl) ?_; refine HL_nil ?_; refine HQ_then ?_; refine hK31 _ _ _ _ ?_; clear hK31 K31; refine HC_cond rfl (fun h32 => ?_) (fun h32 => ?_)
         · try exact Bool.noConfusion h32
           try simp only [Z1, Z2, Z3, Z4, Z5, Z6, Z7, Z8, Z9, Z10, Z11, Z12, Z13] at h32
           refine HC_seq fun K33 hK33 => ?_; refine HC_region ?_; refine HL_r rfl rfl rfl rfl (R_move rfl) ?_; refine HL_r rfl rfl rfl rfl (R_assign rfl) ?_; refine HL_nil ?_; refine HQ_then ?_; refine hK33 _ _ _ _ ?_; clear hK33 K33; refine HC_ret ?_; refine HQ_blockR ?_; refine HQ_thenR ?_; clear hK11 K11; refine HQ_thenR ?_; refine HQ_blockR ?_; refine HQ_thenR ?_; clear hK6 K6; refine HQ_post rfl rfl (.cons (res_tmp rfl) .nil) (fun w1 hs1 => ?_); refine ⟨?_, hs1.keep⟩; rw [hcg (by omega), ← hinv, if_pos (by simp_all)]; rfl
         · try exact Bool.noConfusion h32
           try simp only [Z1, Z2, Z3, Z4, Z5, Z6, Z7, Z8, Z9, Z10, Z11, Z12, Z13] at h32
           refine HC_skip ?_; refine HQ_blockN ?_; refine HQ_then ?_; refine hK11 _ _ _ _ ?_; clear hK11 K11; refine HC_region ?_; refine HL_r rfl rfl rfl rfl (R_pure rfl rfl rfl) ?_; refine HL_wrap_i64 (by omega) (by omega) ?_; refine HL_r rfl rfl rfl rfl (R_move rfl) ?_; refine HL_nil ?_; refine HQ_then ?_; exact HQ_again (i + 1) ⟨by omega, by rw [if_neg (by simp_all)] at hinv; exact hinv⟩ (by omega) (.cons rfl (.cons rfl (.cons rfl (.cons rfl .nil)))) (List.sublist_cons_self _ _) (fun _ _ h => h)
       skip)
    · try exact Bool.noConfusion h10
      try simp only [Z1, Z2, Z3, Z4, Z5, Z6, Z7, Z8, Z9, Z10, Z11, Z12, Z13] at h10
      refine HC_exit ?_; refine HQ_thenE ?_; clear hK9 K9; refine HQ_thenE ?_; refine HQ_blockE ?_; refine HQ_then ?_; refine hK6 _ _ _ _ ?_; clear hK6 K6; refine HC_seq fun K34 hK34 => ?_; refine HC_region ?_; refine HL_r rfl rfl rfl rfl (R_assign rfl) ?_; refine HL_nil ?_; refine HQ_then ?_; refine hK34 _ _ _ _ ?_; clear hK34 K34; refine HC_ret ?_; refine HQ_post rfl rfl (.cons (res_tmp rfl) .nil) (fun w1 hs1 => ?_); refine ⟨?_, hs1.keep⟩; rw [hcg (by omega), ← hinv, List.drop_of_length_le (by rw [s.er_len]; omega)]; rfl
set_option maxRecDepth 10000 in
theorem S_Slot {R : List (Nat × Obj)} {a : AcL} (ha : a.In R) (k : BS) : PureR Tryz.prog 42 [a.val, strV k].toArray (strV (slotE a.er k)) R := by
  have hl : a.slots.length ≤ 9223372036854775807 := ha.len
  have hseg := ha.seg
  refine pureR_of_HC Tryz.func42 rfl rfl fun w => ?_; refine HC_seq fun K1 hK1 => ?_; refine HC_region ?_; refine HL_box (cs := #[_, _, _, _, _, _, _, _]) rfl rfl rfl rfl fun r1 => ?_; refine HL_box (cs := #[_]) rfl rfl rfl rfl fun r2 => ?_; refine HL_r rfl rfl rfl rfl (R_assign rfl) ?_; refine HL_nil ?_; refine HQ_then ?_; refine hK1 _ _ _ _ ?_; clear hK1 K1; refine HC_seq fun K2 hK2 => ?_; refine HC_region ?_
  refine HL_r rfl rfl rfl rfl (R_fieldAddr rfl rfl (by first | (simp only [Nat.zero_add, Nat.reduceAdd, Nat.reduceMul, Nat.zero_mul, Nat.mul_one, Nat.add_zero]; exact rfl) | exact rfl)) ?_; refine HL_r rfl rfl rfl rfl (R_load rfl (known_L (k := 1) rfl) rfl rfl) ?_; refine HL_r rfl rfl rfl rfl (R_makeFunc rfl rfl) ?_; refine HL_callR (Rl := (r2, Obj.cells #[strV k] 9 (0, 0)) :: R) rfl rfl rfl (enters_of Tryz.func85 (by kernel_rfl) rfl) (S_indexS (caps := [.pointer (some ⟨r2, 0, none⟩)]) (pr := fun x => decide (x.1 = k)) hl (hseg.mono fun q hq => List.mem_cons_of_mem _ hq) (enters_of Tryz.func86 (by kernel_rfl) rfl) (fun x _ => S_slot1 List.mem_cons_self x)) (fun q hq => (List.mem_cons.1 hq).elim (fun h => Or.inl (by rw [h]; simp)) Or.inr) ?_; refine HL_r rfl rfl rfl rfl (R_assign rfl) ?_; refine HL_nil ?_; refine HQ_then ?_; refine hK2 _ _ _ _ ?_; clear hK2 K2; refine HC_seq fun K3 hK3 => ?_; refine HC_seq fun K4 hK4 => ?_; refine HC_region ?_; refine HL_r rfl rfl rfl rfl (R_move rfl) ?_; refine HL_r rfl rfl rfl rfl (R_pure rfl rfl rfl) ?_; refine HL_nil ?_; refine HQ_then ?_; refine hK4 _ _ _ _ ?_; clear hK4 K4; refine HC_cond rfl (fun h5 => ?_) (fun h5 => ?_)
  · try exact Bool.noConfusion h5
    try simp only [Z1, Z2, Z3, Z4, Z5, Z6, Z7, Z8, Z9, Z10, Z11, Z12, Z13] at h5
    refine HC_seq fun K6 hK6 => ?_
    have hf := idx_miss (by assumption)
    refine HC_region ?_; refine HL_callP rfl rfl rfl (enters_of Tryz.func87 (by kernel_rfl) rfl) P_none ?_; refine HL_r rfl rfl rfl rfl (R_assign rfl) ?_; refine HL_nil ?_; refine HQ_then ?_; refine hK6 _ _ _ _ ?_; clear hK6 K6; refine HC_ret ?_; refine HQ_thenR ?_; clear hK3 K3; refine HQ_post rfl rfl (.cons (res_tmp rfl) .nil) (fun w1 hs1 => ?_); refine ⟨?_, hs1.keep⟩; rw [slot_miss (a := a.er) hf]; rfl
  · try exact Bool.noConfusion h5
    try simp only [Z1, Z2, Z3, Z4, Z5, Z6, Z7, Z8, Z9, Z10, Z11, Z12, Z13] at h5
    refine HC_skip ?_; refine HQ_then ?_; refine hK3 _ _ _ _ ?_; clear hK3 K3; refine HC_seq fun K7 hK7 => ?_
    obtain ⟨i, x, hidx, hx, hf⟩ := idx_hit (by assumption)
    refine HC_region ?_
    refine HL_r rfl rfl rfl rfl (R_fieldAddr rfl rfl (by first | (simp only [Nat.zero_add, Nat.reduceAdd, Nat.reduceMul, Nat.zero_mul, Nat.mul_one, Nat.add_zero]; exact rfl) | exact rfl)) ?_; refine HL_r rfl rfl rfl rfl (R_load rfl (known_L (k := 1) rfl) rfl rfl) ?_; refine HL_r rfl rfl rfl rfl (R_move rfl) ?_
    refine HL_r rfl rfl rfl rfl (R_indexPl (j := i) rfl hseg rfl rfl rfl (by first | rfl | omega) (by have := (List.getElem?_eq_some_iff.1 hx).1; omega)) ?_; refine HL_r rfl rfl rfl rfl (R_fieldAddr (off' := plO a.p + (i * 2 + 1)) rfl rfl (by show plO a.p + i * 2 + 1 = _; omega)) ?_; refine HL_r rfl rfl rfl rfl (R_loadEf slC_len (k := 1) (v := strV x.2) (fun q hq => Or.inr hq) rfl hseg hx rfl rfl) ?_; refine HL_r rfl rfl rfl rfl (R_assign rfl) ?_; refine HL_nil ?_; refine HQ_then ?_; refine hK7 _ _ _ _ ?_; clear hK7 K7; refine HC_ret ?_; refine HQ_post rfl rfl (.cons (res_tmp rfl) .nil) (fun w1 hs1 => ?_); refine ⟨?_, hs1.keep⟩; rw [slot_hit (a := a.er) hf]; rfl
end Go.Proofs.YtnkmbkndpoghdaaGreat
namespace Go.Proofs.YtnkmbkndpoghdaaGreat
set_option linter.all false
open Go.SL Go.RowKit Go.Shelf
set_option maxRecDepth 10000 in
theorem S_delete {R : List (Nat × Obj)} {xs : List (BS × BS)} {row : Row} (hl : xs.length ≤ 1000) (hrow : rowOk 2 xs.length (xs.flatMap slC) row) {g : FuncId} {caps : List Value} {pr : BS × BS → Bool} (eg : Enters Tryz.prog g) (hg : ∀ x ∈ xs, PureR Tryz.prog g (vS x :: caps).toArray (.bool (pr x)) R) :
    PureT (α := { row' : Row // rowOk 2 (xs.filter fun x => !pr x).length ((xs.filter fun x => !pr x).flatMap slC) row' }) Tryz.prog 114 [rowV xs.length row, .func (.func g) #[] caps.toArray].toArray (fun x => rowV (xs.filter fun x => !pr x).length x.1) (rowL 93 (xs.flatMap slC) row) (fun x => rowL 93 ((xs.filter fun x => !pr x).flatMap slC) x.1) R := by
  have hseg := rowP_seg (e := 93) hrow (by decide)
  have hV := rowP_V xs.length row (fun h => by subst h; exact hrow.1)
  have hidx := S_indexS (R := rowL 93 (xs.flatMap slC) row ++ R) (by omega) (hseg.mono fun q hq => List.mem_append_left _ hq) eg (fun x hx => (hg x hx).mono fun q hq => List.mem_append_right _ hq)
  rw [hV] at hidx
  obtain ⟨m, hm⟩ : ∃ m, m = idxI pr xs := ⟨_, rfl⟩
  rw [← hm] at hidx; refine pureT_of_HC Tryz.func114 rfl rfl fun w => ?_; refine HC_seq fun K1 hK1 => ?_; refine HC_region ?_; refine HL_r rfl rfl rfl rfl (R_assign rfl) ?_; refine HL_nil ?_; refine HQ_then ?_; refine hK1 _ _ _ _ ?_; clear hK1 K1; refine HC_seq fun K2 hK2 => ?_; refine HC_region ?_; refine HL_r rfl rfl rfl rfl (R_move rfl) ?_; refine HL_r rfl rfl rfl rfl (R_move rfl) ?_; refine HL_callR (Rl := rowL 93 (xs.flatMap slC) row ++ R) rfl rfl rfl (enters_of Tryz.func85 (by kernel_rfl) rfl) hidx (fun q hq => (List.mem_append.1 hq).elim Or.inl Or.inr) ?_; refine HL_r rfl rfl rfl rfl (R_assign rfl) ?_; refine HL_nil ?_; refine HQ_then ?_; refine hK2 _ _ _ _ ?_; clear hK2 K2; refine HC_seq fun K3 hK3 => ?_; refine HC_seq fun K4 hK4 => ?_; refine HC_region ?_; refine HL_r rfl rfl rfl rfl (R_move rfl) ?_; refine HL_r rfl rfl rfl rfl (R_pure rfl rfl rfl) ?_; refine HL_nil ?_; refine HQ_then ?_; refine hK4 _ _ _ _ ?_; clear hK4 K4; refine HC_cond rfl (fun h5 => ?_) (fun h5 => ?_)
  · try exact Bool.noConfusion h5
    try simp only [Z1, Z2, Z3, Z4, Z5, Z6, Z7, Z8, Z9, Z10, Z11, Z12, Z13] at h5
    refine HC_seq fun K6 hK6 => ?_; refine HC_region ?_; refine HL_r rfl rfl rfl rfl (R_move rfl) ?_; refine HL_r rfl rfl rfl rfl (R_assign rfl) ?_; refine HL_nil ?_; refine HQ_then ?_; refine hK6 _ _ _ _ ?_; clear hK6 K6; refine HC_ret ?_; refine HQ_thenR ?_; clear hK3 K3; refine HQ_post rfl rfl (.cons (res_tmp rfl) .nil) (fun w1 hs1 => ?_)
    (have hall := idx_all (pr := pr) (xs := xs) (by omega)
     rw [hall]
     exact ⟨⟨row, hrow⟩, rfl, hs1⟩)
  · try exact Bool.noConfusion h5
    try simp only [Z1, Z2, Z3, Z4, Z5, Z6, Z7, Z8, Z9, Z10, Z11, Z12, Z13] at h5
    refine HC_skip ?_; refine HQ_then ?_; refine hK3 _ _ _ _ ?_; clear hK3 K3; refine HC_seq fun K7 hK7 => ?_; refine HC_seq fun K8 hK8 => ?_
    obtain ⟨i, e0⟩ : ∃ i : Nat, m = (i : Int) := by
      rcases idx_find (pr := pr) (xs := xs) with ⟨h, _⟩ | ⟨i, _, h, _⟩
      · unfold idxI at hm h; split at hm <;> split at h <;> first | omega | simp_all
      · exact ⟨i, hm.trans h⟩
    subst e0
    obtain ⟨hil, hif⟩ := idx_cut hm.symm
    obtain ⟨r, cap, sp, rfl⟩ := row_some hrow (by omega)
    obtain ⟨hr1, hr2⟩ := hrow
    obtain ⟨x0, hx0, _⟩ := getI hil
    have hsplit : xs.flatMap slC ++ sp = ((xs.take (i + 1)).filter fun x => !pr x).flatMap slC ++ (slC x0 ++ ((xs.drop (i + 1)).flatMap slC ++ sp)) := by
      rw [hif, ← List.append_assoc (slC x0), ← cat_drop hx0, ← List.append_assoc, ← List.flatMap_append, List.take_append_drop]
    change HC _ _ _ [(r, .cells (xs.flatMap slC ++ sp).toArray 93 (0, 0))] _ _ _; rw [hsplit]
    have hcap : xs.length ≤ cap := by omega
    have hi1 : ((xs.take (i + 1)).filter fun x => !pr x).length = i := by rw [hif, List.length_take]; omega
    refine HC_region ?_; refine HL_r rfl rfl rfl rfl (R_move rfl) ?_; refine HL_r rfl rfl rfl rfl (R_pure rfl rfl rfl) ?_; refine HL_wrap_i64 (by omega) (by omega) ?_; refine HL_r rfl rfl rfl rfl (R_assign rfl) ?_; refine HL_nil ?_; refine HQ_then ?_; refine hK8 _ _ _ _ ?_; clear hK8 K8; refine HC_block ?_; refine HC_loop (σ := Nat × List Value) (fun s => s.1 ≤ xs.length ∧ ((xs.take s.1).filter fun x => !pr x).length < s.1 ∧ s.2.length + ((xs.take s.1).filter fun x => !pr x).length * 2 = s.1 * 2) (fun s => [(0, .slice (some ⟨r, 0, none⟩) xs.length cap), (1, .func (.func g) #[] caps.toArray), (5, .int .i64 (((xs.take s.1).filter fun x => !pr x).length : Nat)), (6, .int .i64 (s.1 : Int))]) (fun s => [(r, .cells (((xs.take s.1).filter fun x => !pr x).flatMap slC ++ (s.2 ++ ((xs.drop s.1).flatMap slC ++ sp))).toArray 93 (0, 0))]) (fun _ _ _ => True) (fun s => xs.length - s.1) (i + 1, slC x0) ⟨by simp only; omega, by simp only; omega, by simp only [slC_len]; omega⟩ (.cons rfl (.cons rfl (.cons (by rw [hi1]; rfl) (.cons rfl .nil)))) (List.Sublist.refl _) (fun _ _ h => h) ?_; rintro ⟨j, G⟩ ⟨hj1, hj2, hG⟩; simp only at hj1 hj2 hG; change HC _ _ [(0, _), (1, _), (5, .int .i64 (((xs.take j).filter fun x => !pr x).length : Nat)), (6, .int .i64 (j : Int))] [(r, .cells (((xs.take j).filter fun x => !pr x).flatMap slC ++ (G ++ ((xs.drop j).flatMap slC ++ sp))).toArray 93 (0, 0))] _ _ _; refine HC_seq fun K9 hK9 => ?_; refine HC_seq fun K10 hK10 => ?_; refine HC_region ?_; refine HL_r rfl rfl rfl rfl (R_move rfl) ?_; refine HL_r rfl rfl rfl rfl (R_move rfl) ?_; refine HL_r rfl rfl rfl rfl (R_lenSl rfl rfl) ?_; refine HL_r rfl rfl rfl rfl (R_pure rfl rfl rfl) ?_; refine HL_nil ?_; refine HQ_then ?_; refine hK10 _ _ _ _ ?_; clear hK10 K10; refine HC_cond rfl (fun h11 => ?_) (fun h11 => ?_)
    · try exact Bool.noConfusion h11
      try simp only [Z1, Z2, Z3, Z4, Z5, Z6, Z7, Z8, Z9, Z10, Z11, Z12, Z13] at h11
      refine HC_skip ?_; refine HQ_then ?_; refine hK9 _ _ _ _ ?_; clear hK9 K9; refine HC_seq fun K12 hK12 => ?_; refine HC_block ?_; refine HC_seq fun K13 hK13 => ?_
      obtain ⟨x, hx, hmx⟩ := getI (show j < xs.length by omega)
      rw [cat_drop hx, List.append_assoc (slC x)]; refine HC_region ?_; refine HL_r rfl rfl rfl rfl (R_move rfl) ?_; refine HL_r rfl rfl rfl rfl (R_move rfl) ?_; refine HL_r rfl rfl rfl rfl (R_indexS (j := j) (m := 2) rfl rfl rfl rfl rfl (by omega) rfl) ?_; refine HL_r rfl rfl rfl rfl (R_loadA (n := 2) (vs := slC x) rfl (known_L (k := 0) rfl) rfl rfl (by simp only [List.toList_toArray]; rw [← List.append_assoc, List.drop_left' (by rw [List.length_append, cat_len slC_len]; omega), List.take_left' (slC_len x)]) rfl) ?_; refine HL_alloc (cs := #[_, _]) rfl rfl rfl rfl fun r1 => ?_; refine HL_storeArr (k := 0) (n := 2) (ys := slC x) rfl rfl rfl rfl rfl rfl rfl rfl rfl ?_; refine HL_nil ?_; refine HQ_then ?_; refine hK13 _ _ _ _ ?_; clear hK13 K13; refine HC_seq fun K14 hK14 => ?_; refine HC_region ?_; refine HL_r rfl rfl rfl rfl (R_move rfl) ?_; refine HL_r rfl rfl rfl rfl (R_loadArr (xs := slC x) (n := 2) rfl (known_L (k := 0) rfl) rfl rfl rfl) ?_; refine HL_callR rfl rfl rfl eg (hg x hmx) (fun q hq => Or.inr hq) ?_; refine HL_r rfl rfl rfl rfl (R_pure rfl rfl rfl) ?_; refine HL_nil ?_; refine HQ_then ?_; refine hK14 _ _ _ _ ?_; clear hK14 K14; refine HC_cond rfl (fun h15 => ?_) (fun h15 => ?_)
      · try exact Bool.noConfusion h15
        try simp only [Z1, Z2, Z3, Z4, Z5, Z6, Z7, Z8, Z9, Z10, Z11, Z12, Z13] at h15
        refine HC_seq fun K16 hK16 => ?_
        obtain ⟨M, G2, hcut, lM⟩ := cut (l := G ++ slC x) (a := 2) (by rw [List.length_append, slC_len]; omega)
        have lG2 : G2.length = G.length := by have := congrArg List.length hcut; simp only [List.length_append, slC_len] at this; omega
        have hkeep := take_filter_succ (pr := fun x => !pr x) hx
        rw [if_pos (by simp_all)] at hkeep; refine HC_region ?_; refine HL_r rfl rfl rfl rfl (R_move rfl) ?_; refine HL_r rfl rfl rfl rfl (R_move rfl) ?_; refine HL_r rfl rfl rfl rfl (R_loadArr (xs := slC x) (n := 2) rfl (known_L (k := 0) rfl) rfl rfl rfl) ?_; refine HL_r rfl rfl rfl rfl (R_indexS (j := ((xs.take j).filter fun x => !pr x).length) (m := 2) rfl rfl rfl rfl rfl (by omega) rfl) ?_; refine HL_storeA (k := 1) (n := 2) (vs := (slC x).toArray) (cs' := (((xs.take j).filter fun x => !pr x).flatMap slC ++ (slC x ++ (G2 ++ ((xs.drop (j + 1)).flatMap slC ++ sp)))).toArray) rfl rfl rfl rfl rfl rfl rfl (by simp only [List.size_toArray, List.length_append, cat_len slC_len]; omega) (by apply Array.toList_inj.1; simp only [List.toList_toArray, Nat.zero_add]; rw [show G ++ (slC x ++ ((xs.drop (j + 1)).flatMap slC ++ sp)) = M ++ (G2 ++ ((xs.drop (j + 1)).flatMap slC ++ sp)) by rw [← List.append_assoc, hcut, List.append_assoc]]; exact splice (cat_len slC_len _) lM) rfl ?_; refine HL_nil ?_; refine HQ_then ?_; refine hK16 _ _ _ _ ?_; clear hK16 K16; refine HC_region ?_; refine HL_r rfl rfl rfl rfl (R_move rfl) ?_; refine HL_r rfl rfl rfl rfl (R_pure rfl rfl rfl) ?_; refine HL_wrap_i64 (by omega) (by omega) ?_; refine HL_r rfl rfl rfl rfl (R_assign rfl) ?_; refine HL_nil ?_; refine HQ_blockN ?_; refine HQ_then ?_; refine hK12 _ _ _ _ ?_; clear hK12 K12; refine HC_region ?_; refine HL_r rfl rfl rfl rfl (R_move rfl) ?_; refine HL_r rfl rfl rfl rfl (R_pure rfl rfl rfl) ?_; refine HL_wrap_i64 (by omega) (by omega) ?_; refine HL_r rfl rfl rfl rfl (R_assign rfl) ?_; refine HL_nil ?_; refine HQ_then ?_; exact HQ_again (j + 1, G2) ⟨by simp only; omega, by simp only; rw [hkeep, List.length_append, List.length_singleton]; omega, by simp only; rw [hkeep, List.length_append, List.length_singleton]; omega⟩ (by simp only; omega) (.cons rfl (.cons rfl (.cons (by simp only [look]; rw [hkeep, List.length_append, List.length_singleton]; rfl) (.cons rfl .nil)))) (by simp only [hkeep, List.flatMap_append, List.flatMap_singleton, List.append_assoc]; exact List.sublist_cons_self _ _) (fun _ _ h => h)
      · try exact Bool.noConfusion h15
        try simp only [Z1, Z2, Z3, Z4, Z5, Z6, Z7, Z8, Z9, Z10, Z11, Z12, Z13] at h15
        refine HC_skip ?_; refine HQ_blockN ?_; refine HQ_then ?_; refine hK12 _ _ _ _ ?_; clear hK12 K12; refine HC_region ?_; refine HL_r rfl rfl rfl rfl (R_move rfl) ?_; refine HL_r rfl rfl rfl rfl (R_pure rfl rfl rfl) ?_; refine HL_wrap_i64 (by omega) (by omega) ?_; refine HL_r rfl rfl rfl rfl (R_assign rfl) ?_; refine HL_nil ?_; refine HQ_then ?_
        (have hdel := take_filter_succ (pr := fun x => !pr x) hx
         rw [if_neg (by simp_all), List.append_nil] at hdel
         exact HQ_again (j + 1, G ++ slC x) ⟨by simp only; omega, by simp only; rw [hdel]; omega, by simp only [List.length_append, slC_len]; rw [hdel]; omega⟩ (by simp only; omega) (.cons rfl (.cons rfl (.cons (by simp only [look]; rw [hdel]; rfl) (.cons rfl .nil)))) (by simp only [hdel, List.append_assoc]; exact List.sublist_cons_self _ _) (fun _ _ h => h))
    · try exact Bool.noConfusion h11
      try simp only [Z1, Z2, Z3, Z4, Z5, Z6, Z7, Z8, Z9, Z10, Z11, Z12, Z13] at h11
      refine HC_exit ?_; refine HQ_thenE ?_; clear hK9 K9; refine HQ_thenE ?_; refine HQ_blockE ?_; refine HQ_then ?_; refine hK7 _ _ _ _ ?_; clear hK7 K7; refine HC_seq fun K17 hK17 => ?_
      have hjn : j = xs.length := by omega
      have hdrop : (xs.drop j).flatMap slC = [] := by rw [List.drop_of_length_le (by omega)]; rfl
      rw [hdrop, List.nil_append]; refine HC_region ?_; refine HL_r rfl rfl rfl rfl (R_move rfl) ?_; refine HL_r rfl rfl rfl rfl (R_move rfl) ?_; refine HL_r rfl rfl rfl rfl (R_sliceSl (sz := 2) (m := ((xs.take j).filter fun x => !pr x).length) (kl := some ((xs.take j).filter fun x => !pr x).length) (kh := none) (km := none) (q := xs.length) (z := cap) (off' := ((xs.take j).filter fun x => !pr x).length * 2) rfl rfl rfl ⟨_, rfl⟩ trivial trivial rfl rfl rfl (by omega) (by omega) (by omega) (fun _ => rfl) (by rw [if_neg (by omega)]; omega)) ?_; refine HL_clear0 (k := 0) (sz := 2) rfl rfl rfl rfl rfl rfl rfl (by decide) (by simp only [List.size_toArray, List.length_append, cat_len slC_len, List.length_drop]; omega) (splice (P := ((xs.take j).filter fun x => !pr x).flatMap slC) (M := G) (S := sp) (cat_len slC_len _) (by omega)) rfl ?_; refine HL_nil ?_; refine HQ_then ?_; refine hK17 _ _ _ _ ?_; clear hK17 K17; refine HC_seq fun K18 hK18 => ?_; refine HC_region ?_; refine HL_r rfl rfl rfl rfl (R_move rfl) ?_; refine HL_r rfl rfl rfl rfl (R_move rfl) ?_
      refine HL_r rfl rfl rfl rfl (R_sliceSl (sz := 2) (q := ((xs.take j).filter fun x => !pr x).length) (kl := none) (kh := some ((xs.take j).filter fun x => !pr x).length) (km := none) (m := 0) (z := cap) (off' := 0) rfl rfl rfl trivial ⟨_, rfl⟩ trivial rfl rfl rfl (by omega) (by omega) (by omega) (fun h => by cases h) (by split <;> omega)) ?_; refine HL_r rfl rfl rfl rfl (R_assign rfl) ?_; refine HL_nil ?_; refine HQ_then ?_; refine hK18 _ _ _ _ ?_; clear hK18 K18; refine HC_ret ?_; refine HQ_post rfl rfl (.cons (res_tmp rfl) .nil) (fun w1 hs1 => ?_)
      (have hfull : (xs.take j).filter (fun x => !pr x) = xs.filter fun x => !pr x := by rw [hjn, List.take_length]
       rw [hfull] at hs1 ⊢; refine ⟨⟨some (r, cap, _), cat_len slC_len _, ?_⟩, rfl, hs1.weakL (by simp only [rowL]; exact List.Sublist.refl _)⟩
       have hz : ∀ n, (Builtin.zeroCells (Value.agg #[Value.string ⟨#[]⟩, Value.string ⟨#[]⟩]).cells n).toList.length = n * 2 := fun n => by rw [Array.length_toList, size_zeroCells]; rfl
       rw [List.length_append, hz]
       have := List.length_filter_le (fun x => !pr x) xs
       omega)
end Go.Proofs.YtnkmbkndpoghdaaGreat
namespace Go.Proofs.YtnkmbkndpoghdaaGreat
set_option linter.all false
open Go.SL Go.RowKit Go.Shelf
set_option maxRecDepth 10000 in
theorem S_Set {R : List (Nat × Obj)} {a : AcL} (ha : a.In R) (k v : BS) : PureT (α := AcRes R (setE a.er k v)) Tryz.prog 93 [a.val, strV k, strV v].toArray (fun x => x.val) [] (fun x => x.L) R := by
  have hlk := S_look ha
  have hl := ha.len
  have hseg := ha.seg
  have hset : setE a.er k v = if lkE a.er ≠ 0 then (a.er, lkE a.er) else if k.length ≠ 32 ∨ v.length ≠ 32 then (a.er, 2) else if (withE a.slots k v).length > 16 then (a.er, 5) else (⟨a.addr, a.nonce, a.bal, a.code, withE a.slots k v⟩, 0) := rfl
  refine pureT_of_HC Tryz.func93 rfl rfl fun w => ?_; refine HC_seq fun K1 hK1 => ?_; refine HC_region ?_; refine HL_box (cs := #[_, _, _, _, _, _, _, _]) rfl rfl rfl rfl fun r1 => ?_; refine HL_box (cs := #[_]) rfl rfl rfl rfl fun r2 => ?_; refine HL_alloc (cs := #[_, _, _, _, _, _, _, _]) rfl rfl rfl rfl fun r3 => ?_; refine HL_r rfl rfl rfl rfl (R_assign rfl) ?_; refine HL_nil ?_; refine HQ_then ?_; refine hK1 _ _ _ _ ?_; clear hK1 K1; refine HC_seq fun K2 hK2 => ?_; refine HC_seq fun K3 hK3 => ?_; refine HC_region ?_; refine HL_r rfl rfl rfl rfl (R_loadA (vs := [_, _, _, _, _, _, _, _]) rfl (known_L (k := 2) rfl) rfl rfl rfl rfl) ?_; refine HL_callR rfl rfl rfl (enters_of Tryz.func88 (by kernel_rfl) rfl) hlk (fun q hq => Or.inr hq) ?_; refine HL_r rfl rfl rfl rfl (R_assign rfl) ?_; refine HL_nil ?_; refine HQ_then ?_; refine hK3 _ _ _ _ ?_; clear hK3 K3; refine HC_seq fun K4 hK4 => ?_; refine HC_region ?_; refine HL_r rfl rfl rfl rfl (R_move rfl) ?_; refine HL_r rfl rfl rfl rfl (R_pure rfl rfl rfl) ?_; refine HL_nil ?_; refine HQ_then ?_; refine hK4 _ _ _ _ ?_; clear hK4 K4; refine HC_cond rfl (fun h5 => ?_) (fun h5 => ?_)
  · try exact Bool.noConfusion h5
    try simp only [Z1, Z2, Z3, Z4, Z5, Z6, Z7, Z8, Z9, Z10, Z11, Z12, Z13] at h5
    refine HC_seq fun K6 hK6 => ?_; refine HC_region ?_; refine HL_r rfl rfl rfl rfl (R_loadA (vs := [_, _, _, _, _, _, _, _]) rfl (known_L (k := 2) rfl) rfl rfl rfl rfl) ?_; refine HL_r rfl rfl rfl rfl (R_move rfl) ?_
    refine HL_storeA (k := 0) (n := 8) (cs' := #[_, _, _, _, _, _, _, _]) (vs := #[_, _, _, _, _, _, _, _]) rfl rfl rfl rfl rfl rfl rfl (by exact Nat.le_of_ble_eq_true rfl) rfl (by first | (simp only [List.set_cons_zero, List.set_cons_succ]; exact rfl) | exact rfl) ?_; refine HL_r rfl rfl rfl rfl (R_assign rfl) ?_; refine HL_nil ?_; refine HQ_then ?_; refine hK6 _ _ _ _ ?_; clear hK6 K6; refine HC_ret ?_; refine HQ_thenR ?_; clear hK2 K2; refine HQ_post rfl rfl (.cons (res_cellA (vs := [_, _, _, _, _, _, _, _]) rfl (known_L (k := 0) rfl) rfl rfl) (.cons (res_tmp rfl) .nil)) (fun w1 hs1 => ?_); rw [hset, if_pos (by omega)]; exact ⟨⟨a, lkE a.er, [], ha, rfl⟩, rfl, hs1.weakL (List.nil_sublist _)⟩
  · try exact Bool.noConfusion h5
    try simp only [Z1, Z2, Z3, Z4, Z5, Z6, Z7, Z8, Z9, Z10, Z11, Z12, Z13] at h5
    refine HC_skip ?_; refine HQ_then ?_; refine hK2 _ _ _ _ ?_; clear hK2 K2; refine HC_seq fun K7 hK7 => ?_; refine HC_seq fun K8 hK8 => ?_; refine HC_region ?_; refine HL_r rfl rfl rfl rfl (R_load rfl (known_L (k := 1) rfl) rfl rfl) ?_; refine HL_r rfl rfl rfl rfl (R_lenBs rfl rfl) ?_; refine HL_r rfl rfl rfl rfl (R_pure rfl rfl rfl) ?_; refine HL_r rfl rfl rfl rfl (R_move rfl) ?_
    refine HL_case 19 rfl (fun hb9 => ?_) (fun hb9 => ?_) <;> (try simp only [Z1, Z2, Z3, Z4, Z5, Z6, Z7, Z8, Z9, Z10, Z11, Z12, Z13] at hb9) <;> first | (refine HL_r rfl rfl rfl rfl (R_move rfl) ?_) | (refine HL_skip rfl rfl rfl ?_)
    all_goals first
      | (refine HL_r rfl rfl rfl rfl (R_lenBs rfl rfl) ?_)
      | (refine HL_skip rfl rfl rfl ?_)
    all_goals first
      | (refine HL_r rfl rfl rfl rfl (R_pure rfl rfl rfl) ?_)
      | (refine HL_skip rfl rfl rfl ?_)
    all_goals first
      | (refine HL_r rfl rfl rfl rfl (R_pickT rfl rfl) ?_)
      | (refine HL_r rfl rfl rfl rfl (R_pickF rfl rfl) ?_)
    all_goals refine HL_nil ?_
    all_goals (
     refine HQ_then ?_; refine hK8 _ _ _ _ ?_; clear hK8 K8; refine HC_cond rfl (fun h12 => ?_) (fun h12 => ?_)
     · try exact Bool.noConfusion h12
       try simp only [Z1, Z2, Z3, Z4, Z5, Z6, Z7, Z8, Z9, Z10, Z11, Z12, Z13] at h12
       refine HC_seq fun K13 hK13 => ?_; refine HC_region ?_; refine HL_r rfl rfl rfl rfl (R_loadA (vs := [_, _, _, _, _, _, _, _]) rfl (known_L (k := 2) rfl) rfl rfl rfl rfl) ?_
       refine HL_storeA (k := 0) (n := 8) (cs' := #[_, _, _, _, _, _, _, _]) (vs := #[_, _, _, _, _, _, _, _]) rfl rfl rfl rfl rfl rfl rfl (by exact Nat.le_of_ble_eq_true rfl) rfl (by first | (simp only [List.set_cons_zero, List.set_cons_succ]; exact rfl) | exact rfl) ?_; refine HL_r rfl rfl rfl rfl (R_assign rfl) ?_; refine HL_nil ?_; refine HQ_then ?_; refine hK13 _ _ _ _ ?_; clear hK13 K13; refine HC_ret ?_; refine HQ_thenR ?_; clear hK7 K7; refine HQ_post rfl rfl (.cons (res_cellA (vs := [_, _, _, _, _, _, _, _]) rfl (known_L (k := 0) rfl) rfl rfl) (.cons (res_tmp rfl) .nil)) (fun w1 hs1 => ?_); rw [hset, if_neg (by omega), if_pos (by omega)]; exact ⟨⟨a, 2, [], ha, rfl⟩, rfl, hs1.weakL (List.nil_sublist _)⟩
     · try exact Bool.noConfusion h12
       all_goals try simp only [Z1, Z2, Z3, Z4, Z5, Z6, Z7, Z8, Z9, Z10, Z11, Z12, Z13] at h12
       all_goals (
        refine HC_skip ?_; refine HQ_then ?_; refine hK7 _ _ _ _ ?_; clear hK7 K7; refine HC_seq fun K14 hK14 => ?_
        have hok : Sorted Prod.fst a.slots ∧ a.slots.length ≤ 16 := ⟨(look_ok (a := a.er) (by omega)).2.2.1, (look_ok (a := a.er) (by omega)).2.2.2.2⟩
        have hinl : (insL Prod.fst (k, v) a.slots).length ≤ 17 := by
          have := hok.2
          rw [ins_len hok.1]
          split <;> omega
        refine HC_region ?_
        refine HL_r rfl rfl rfl rfl (R_fieldAddr rfl rfl (by first | (simp only [Nat.zero_add, Nat.reduceAdd, Nat.reduceMul, Nat.zero_mul, Nat.mul_one, Nat.add_zero]; exact rfl) | exact rfl)) ?_; refine HL_r rfl rfl rfl rfl (R_load rfl (known_L (k := 2) rfl) rfl rfl) ?_; refine HL_r rfl rfl rfl rfl (R_load rfl (known_L (k := 1) rfl) rfl rfl) ?_; refine HL_r rfl rfl rfl rfl (R_move rfl) ?_; refine HL_r rfl rfl rfl rfl (R_build (r := [_, _]) rfl rfl) ?_; refine HL_callRE rfl rfl rfl (enters_of Tryz.func113 (by kernel_rfl) rfl) (S_withS (by have := hok.2; omega) hseg hok.1 (k, v)) (fun q hq => Or.inr hq) fun x => ?_
        obtain ⟨row, hrow⟩ := x
        refine HL_perm List.perm_append_comm ?_; change HL _ _ ((30, rowV (insL Prod.fst (k, v) a.slots).length row) :: _) ((r3, _) :: (r2, _) :: (r1, _) :: rowL _ _ row) _ _ _ _; refine HL_r rfl rfl rfl rfl (R_assign rfl) ?_; refine HL_nil ?_; refine HQ_then ?_; refine hK14 _ _ _ _ ?_; clear hK14 K14; refine HC_seq fun K15 hK15 => ?_; refine HC_seq fun K16 hK16 => ?_; refine HC_region ?_; refine HL_r rfl rfl rfl rfl (R_move rfl) ?_; refine HL_callP rfl rfl rfl (enters_of Tryz.func87 (by kernel_rfl) rfl) P_none ?_; refine HL_r rfl rfl rfl rfl (R_strEq rfl rfl) ?_; refine HL_nil ?_; refine HQ_then ?_; refine hK16 _ _ _ _ ?_; clear hK16 K16; refine HC_cond rfl (fun h17 => ?_) (fun h17 => ?_)
        · try exact Bool.noConfusion h17
          try simp only [Z1, Z2, Z3, Z4, Z5, Z6, Z7, Z8, Z9, Z10, Z11, Z12, Z13] at h17
          have hdC := S_delete (R := [(r2, Obj.cells #[strV k] 9 (0, 0))]) (caps := [.pointer (some ⟨r2, 0, none⟩)]) (pr := fun x => decide (x.1 = k)) (by omega) hrow (enters_of Tryz.func115 (by kernel_rfl) rfl) (fun x _ => S_set1 List.mem_cons_self x)
          rw [filter_del, show delL Prod.fst k a.slots = withE a.slots k v from by unfold withE; rw [if_pos (by assumption)]] at hdC; refine HC_region ?_; refine HL_r rfl rfl rfl rfl (R_move rfl) ?_; refine HL_r rfl rfl rfl rfl (R_makeFunc rfl rfl) ?_; refine HL_callT (T := rowL _ _ row) (L0 := [(r3, _), (r2, _), (r1, _)]) (Rl := [(r2, Obj.cells #[strV k] 9 (0, 0))]) (List.perm_append_comm (l₁ := [_, _, _])) rfl rfl rfl (enters_of Tryz.func114 (by kernel_rfl) rfl) hdC (fun q hq => Or.inl (by rw [List.mem_singleton.1 hq]; exact List.mem_cons_of_mem _ List.mem_cons_self)) fun x => ?_
          obtain ⟨row2, hrow2⟩ := x
          refine HL_perm List.perm_append_comm ?_; change HL _ _ ((36, rowV (withE a.slots k v).length row2) :: _) ((r3, _) :: (r2, _) :: (r1, _) :: rowL _ _ row2) _ _ _ _; refine HL_r rfl rfl rfl rfl (R_assign rfl) ?_; refine HL_nil ?_; refine HQ_then ?_; refine hK15 _ _ _ _ ?_; clear hK15 K15; refine HC_seq fun K18 hK18 => ?_; refine HC_seq fun K19 hK19 => ?_
          try rw [show insL Prod.fst (k, v) a.slots = withE a.slots k v from by unfold withE; rw [if_neg (by assumption)]] at hrow ⊢
          refine HC_region ?_; refine HL_r rfl rfl rfl rfl (R_move rfl) ?_; refine HL_r rfl rfl rfl rfl (R_lenRow rfl hrow2.zero rfl) ?_; refine HL_r rfl rfl rfl rfl (R_pure rfl rfl rfl) ?_; refine HL_nil ?_; refine HQ_then ?_; refine hK19 _ _ _ _ ?_; clear hK19 K19; refine HC_cond rfl (fun h20 => ?_) (fun h20 => ?_)
          · try exact Bool.noConfusion h20
            try simp only [Z1, Z2, Z3, Z4, Z5, Z6, Z7, Z8, Z9, Z10, Z11, Z12, Z13] at h20
            refine HC_seq fun K21 hK21 => ?_; refine HC_region ?_; refine HL_r rfl rfl rfl rfl (R_loadA (vs := [_, _, _, _, _, _, _, _]) rfl (known_L (k := 2) rfl) rfl rfl rfl rfl) ?_
            refine HL_storeA (k := 0) (n := 8) (cs' := #[_, _, _, _, _, _, _, _]) (vs := #[_, _, _, _, _, _, _, _]) rfl rfl rfl rfl rfl rfl rfl (by exact Nat.le_of_ble_eq_true rfl) rfl (by first | (simp only [List.set_cons_zero, List.set_cons_succ]; exact rfl) | exact rfl) ?_; refine HL_r rfl rfl rfl rfl (R_assign rfl) ?_; refine HL_nil ?_; refine HQ_then ?_; refine hK21 _ _ _ _ ?_; clear hK21 K21; refine HC_ret ?_; refine HQ_thenR ?_; clear hK18 K18; refine HQ_post rfl rfl (.cons (res_cellA (vs := [_, _, _, _, _, _, _, _]) rfl (known_L (k := 0) rfl) rfl rfl) (.cons (res_tmp rfl) .nil)) (fun w1 hs1 => ?_); rw [hset, if_neg (by omega), if_neg (by omega), if_pos (by omega)]; exact ⟨⟨a, 5, [], ha, rfl⟩, rfl, hs1.weakL (List.nil_sublist _)⟩
          · try exact Bool.noConfusion h20
            try simp only [Z1, Z2, Z3, Z4, Z5, Z6, Z7, Z8, Z9, Z10, Z11, Z12, Z13] at h20
            refine HC_skip ?_; refine HQ_then ?_; refine hK18 _ _ _ _ ?_; clear hK18 K18; refine HC_seq fun K22 hK22 => ?_; refine HC_region ?_; refine HL_r rfl rfl rfl rfl (R_move rfl) ?_
            refine HL_r rfl rfl rfl rfl (R_fieldAddr rfl rfl (by first | (simp only [Nat.zero_add, Nat.reduceAdd, Nat.reduceMul, Nat.zero_mul, Nat.mul_one, Nat.add_zero]; exact rfl) | exact rfl)) ?_; refine HL_store (k := 2) (cs' := #[strV a.addr, uV a.nonce, uV a.bal.a, uV a.bal.b, uV a.bal.c, uV a.bal.d, strV a.code, rowV (withE a.slots k v).length row2]) rfl rfl rfl rfl rfl (rowV_one _ _) rfl rfl rfl rfl ?_; refine HL_nil ?_; refine HQ_then ?_; refine hK22 _ _ _ _ ?_; clear hK22 K22; refine HC_seq fun K23 hK23 => ?_; refine HC_region ?_; refine HL_r rfl rfl rfl rfl (R_loadA (vs := [_, _, _, _, _, _, _, _]) rfl (known_L (k := 2) rfl) rfl rfl rfl rfl) ?_; refine HL_storeA (k := 0) (n := 8) (cs' := #[strV a.addr, uV a.nonce, uV a.bal.a, uV a.bal.b, uV a.bal.c, uV a.bal.d, strV a.code, rowV (withE a.slots k v).length row2]) (vs := #[_, _, _, _, _, _, _, _]) rfl rfl rfl rfl rfl rfl (by show (oneB (rowV _ _) && true) = true; rw [rowV_one]; rfl) (by exact Nat.le_of_ble_eq_true rfl) rfl rfl ?_; refine HL_r rfl rfl rfl rfl (R_assign rfl) ?_; refine HL_nil ?_; refine HQ_then ?_; refine hK23 _ _ _ _ ?_; clear hK23 K23; refine HC_ret ?_; refine HQ_post rfl rfl (.cons (res_cellA (vs := [_, _, _, _, _, _, _, _]) rfl (known_L (k := 0) rfl) rfl rfl) (.cons (res_tmp rfl) .nil)) (fun w1 hs1 => ?_)
            (rw [hset, if_neg (by omega), if_neg (by omega), if_neg (by omega)]
             exact ⟨⟨⟨a.addr, a.nonce, a.bal, a.code, withE a.slots k v, rowP row2⟩, 0, rowL 93 ((withE a.slots k v).flatMap slC) row2, ac_in_with ha (by omega) (by omega) (by omega) (rowP_seg hrow2 (by decide)), rfl⟩, by show Ending.returned _ = Ending.returned (Value.tuple #[Value.agg #[strV a.addr, uV a.nonce, uV a.bal.a, uV a.bal.b, uV a.bal.c, uV a.bal.d, strV a.code, plV (withE a.slots k v).length (rowP row2)], .int .i64 0]); rw [rowP_V _ _ hrow2.zero]; rfl, hs1.weakL (List.sublist_append_right [_, _, _] _)⟩)
        · try exact Bool.noConfusion h17
          try simp only [Z1, Z2, Z3, Z4, Z5, Z6, Z7, Z8, Z9, Z10, Z11, Z12, Z13] at h17
          refine HC_skip ?_; refine HQ_then ?_; refine hK15 _ _ _ _ ?_; clear hK15 K15; refine HC_seq fun K24 hK24 => ?_; refine HC_seq fun K25 hK25 => ?_
          try rw [show insL Prod.fst (k, v) a.slots = withE a.slots k v from by unfold withE; rw [if_neg (by assumption)]] at hrow ⊢
          refine HC_region ?_; refine HL_r rfl rfl rfl rfl (R_move rfl) ?_; refine HL_r rfl rfl rfl rfl (R_lenRow rfl hrow.zero rfl) ?_; refine HL_r rfl rfl rfl rfl (R_pure rfl rfl rfl) ?_; refine HL_nil ?_; refine HQ_then ?_; refine hK25 _ _ _ _ ?_; clear hK25 K25; refine HC_cond rfl (fun h26 => ?_) (fun h26 => ?_)
          · try exact Bool.noConfusion h26
            try simp only [Z1, Z2, Z3, Z4, Z5, Z6, Z7, Z8, Z9, Z10, Z11, Z12, Z13] at h26
            refine HC_seq fun K27 hK27 => ?_; refine HC_region ?_; refine HL_r rfl rfl rfl rfl (R_loadA (vs := [_, _, _, _, _, _, _, _]) rfl (known_L (k := 2) rfl) rfl rfl rfl rfl) ?_
            refine HL_storeA (k := 0) (n := 8) (cs' := #[_, _, _, _, _, _, _, _]) (vs := #[_, _, _, _, _, _, _, _]) rfl rfl rfl rfl rfl rfl rfl (by exact Nat.le_of_ble_eq_true rfl) rfl (by first | (simp only [List.set_cons_zero, List.set_cons_succ]; exact rfl) | exact rfl) ?_; refine HL_r rfl rfl rfl rfl (R_assign rfl) ?_; refine HL_nil ?_; refine HQ_then ?_; refine hK27 _ _ _ _ ?_; clear hK27 K27; refine HC_ret ?_; refine HQ_thenR ?_; clear hK24 K24; refine HQ_post rfl rfl (.cons (res_cellA (vs := [_, _, _, _, _, _, _, _]) rfl (known_L (k := 0) rfl) rfl rfl) (.cons (res_tmp rfl) .nil)) (fun w1 hs1 => ?_); rw [hset, if_neg (by omega), if_neg (by omega), if_pos (by omega)]; exact ⟨⟨a, 5, [], ha, rfl⟩, rfl, hs1.weakL (List.nil_sublist _)⟩
          · try exact Bool.noConfusion h26
            try simp only [Z1, Z2, Z3, Z4, Z5, Z6, Z7, Z8, Z9, Z10, Z11, Z12, Z13] at h26
            refine HC_skip ?_; refine HQ_then ?_; refine hK24 _ _ _ _ ?_; clear hK24 K24; refine HC_seq fun K28 hK28 => ?_; refine HC_region ?_; refine HL_r rfl rfl rfl rfl (R_move rfl) ?_
            refine HL_r rfl rfl rfl rfl (R_fieldAddr rfl rfl (by first | (simp only [Nat.zero_add, Nat.reduceAdd, Nat.reduceMul, Nat.zero_mul, Nat.mul_one, Nat.add_zero]; exact rfl) | exact rfl)) ?_; refine HL_store (k := 2) (cs' := #[strV a.addr, uV a.nonce, uV a.bal.a, uV a.bal.b, uV a.bal.c, uV a.bal.d, strV a.code, rowV (withE a.slots k v).length row]) rfl rfl rfl rfl rfl (rowV_one _ _) rfl rfl rfl rfl ?_; refine HL_nil ?_; refine HQ_then ?_; refine hK28 _ _ _ _ ?_; clear hK28 K28; refine HC_seq fun K29 hK29 => ?_; refine HC_region ?_; refine HL_r rfl rfl rfl rfl (R_loadA (vs := [_, _, _, _, _, _, _, _]) rfl (known_L (k := 2) rfl) rfl rfl rfl rfl) ?_; refine HL_storeA (k := 0) (n := 8) (cs' := #[strV a.addr, uV a.nonce, uV a.bal.a, uV a.bal.b, uV a.bal.c, uV a.bal.d, strV a.code, rowV (withE a.slots k v).length row]) (vs := #[_, _, _, _, _, _, _, _]) rfl rfl rfl rfl rfl rfl (by show (oneB (rowV _ _) && true) = true; rw [rowV_one]; rfl) (by exact Nat.le_of_ble_eq_true rfl) rfl rfl ?_; refine HL_r rfl rfl rfl rfl (R_assign rfl) ?_; refine HL_nil ?_; refine HQ_then ?_; refine hK29 _ _ _ _ ?_; clear hK29 K29; refine HC_ret ?_; refine HQ_post rfl rfl (.cons (res_cellA (vs := [_, _, _, _, _, _, _, _]) rfl (known_L (k := 0) rfl) rfl rfl) (.cons (res_tmp rfl) .nil)) (fun w1 hs1 => ?_)
            (rw [hset, if_neg (by omega), if_neg (by omega), if_neg (by omega)]
             exact ⟨⟨⟨a.addr, a.nonce, a.bal, a.code, withE a.slots k v, rowP row⟩, 0, rowL 93 ((withE a.slots k v).flatMap slC) row, ac_in_with ha (by omega) (by omega) (by omega) (rowP_seg hrow (by decide)), rfl⟩, by show Ending.returned _ = Ending.returned (Value.tuple #[Value.agg #[strV a.addr, uV a.nonce, uV a.bal.a, uV a.bal.b, uV a.bal.c, uV a.bal.d, strV a.code, plV (withE a.slots k v).length (rowP row)], .int .i64 0]); rw [rowP_V _ _ hrow.zero]; rfl, hs1.weakL (List.sublist_append_right [_, _, _] _)⟩)
        skip)
     skip)
end Go.Proofs.YtnkmbkndpoghdaaGreat
/-! ### Comparing structs; results in new blocks -/
namespace Go.SL
set_option linter.all false
open Go Go.RowKit Go.Shelf
open Go.Proofs (Enters enters_of)
/-! ### Structs are compared -/
inductive EqF (P : Program) (xs ys : List Value) : List Field → Bool → Prop
  | nil : EqF P xs ys [] true
  | scal {f : Field} {fs : List Field} {a b : Value} {r : Bool} (hn : (f.name == "_") = false) (he : aggB P f.type = some false) (ga : nth xs f.offset = some a) (gb : nth ys f.offset = some b) (ha : scalB P f.type a = true) (hb : scalB P f.type b = true) (h : EqF P xs ys fs r) : EqF P xs ys (f :: fs) (eqS a b && r)
  | arr {f : Field} {fs : List Field} {n e : Nat} {va vb : List Value} {r : Bool} (hn : (f.name == "_") = false) (ht : arrOf P f.type = some (n, e)) (hz : szOf P f.type = some n) (he : aggB P e = some false) (hs : szOf P e = some 1) (ga : (xs.drop f.offset).take n = va) (gb : (ys.drop f.offset).take n = vb) (hla : va.length = n) (hlb : vb.length = n)
      (h1 : va.all (scalB P e) = true) (h2 : vb.all (scalB P e) = true) (h : EqF P xs ys fs r) : EqF P xs ys (f :: fs) (eqCells va vb && r)
theorem run_partA {P : Program} {t n : Nat} {cs va : List Value} {off : Nat} {e m : Nat} (ht : arrOf P t = some (m, e)) (hz : szOf P t = some n) (ga : (cs.drop off).take n = va) (hl : va.length = n) (w : World) : (part t cs.toArray off).run P w = .ok (.agg va.toArray) w := by
  have e1 : (cs.toArray.extract off (off + n)) = va.toArray := by
    apply Array.toList_inj.1
    rw [← ga, List.extract_toArray, List.extract_eq_take_drop, Nat.add_sub_cancel_left]
  unfold part
  simp only [Sem.run_bind, run_agg (show aggB P t = some true from by unfold aggB; rw [und_arr ht]), Result.andThen, run_sz hz, if_true, e1]
  rfl
theorem run_eqFields {P : Program} {xs ys : List Value} {d : Nat} {w : World} : ∀ {fs : List Field} {b : Bool}, EqF P xs ys fs b → (Op.eqFields (d + 2) xs.toArray ys.toArray fs).run P w = .ok b w := by
  intro fs b h
  induction h with
  | nil => simp [Op.eqFields]
  | @scal f fs a b r hn he ga gb ha hb h ih =>
    have hn' : f.name ≠ "_" := by intro e; rw [e] at hn; simp at hn
    simp only [Op.eqFields, Sem.run_ite, if_pos hn', Sem.run_bind, run_part1 he (show xs.toArray[f.offset]? = some a from by rw [List.getElem?_toArray, ← nth_eq]; exact ga), run_part1 he (show ys.toArray[f.offset]? = some b from by rw [List.getElem?_toArray, ← nth_eq]; exact gb), Result.andThen, run_eqS ha hb]
    cases hab : eqS a b
    · simp
    · simpa using ih
  | @arr f fs n e va vb r hn ht hz he hs ga gb hla hlb h1 h2 h ih =>
    have hn' : f.name ≠ "_" := by intro e; rw [e] at hn; simp at hn
    simp only [Op.eqFields, Sem.run_ite, if_pos hn', Sem.run_bind, run_partA ht hz ga hla, run_partA ht hz gb hlb, Result.andThen, run_eqArr ht he hs hla hlb h1 h2]
    cases hab : eqCells va vb
    · simp
    · simpa using ih
section
variable {c : Cx} {l : List (Nat × Value)} {L : List (Nat × Obj)} {X : XP} {d : List Deferred}
variable {i : Nat} {t : TypeId} {ps : String} {af : Array Edge} {gd : Option (Nat × Bool)} {ty t2 : TypeId}
theorem R_eqStr {x y : Operand} {xs ys : List Value} {b : Bool} (hx : evl l x = some (.agg xs.toArray)) (hy : evl l y = some (.agg ys.toArray)) (ht : c.P.underlying t = some (.struct (c.P.fieldsOf t))) (hp : c.P.stoodInHeld t = false) (hgt : c.P.eqGuardType c.P.depth t = false) (hE : EqF c.P xs ys (c.P.fieldsOf t).toList b) :
    RunsTo c d l L X ⟨some i, .binOp .eql t x y t2, ty, ps, af, gd⟩ (.bool b) := fun a' w hf _ => by
  have hr := run_equalIn_struct (P := c.P) w 9999 t xs.toArray ys.toArray ht hp
  rw [run_eqFields hE] at hr
  have h0 := run_eql_struct (P := c.P) w t xs.toArray ys.toArray
  rw [hr] at h0
  simp only [execOp]
  rw [hf.eval hx, hf.eval hy]
  simp only [Sem.run_bind, run_eqGuard_agg w .eql t x y _ _ hgt, Result.andThen, h0]
  rfl
theorem R_neStr {x y : Operand} {xs ys : List Value} {b : Bool} (hx : evl l x = some (.agg xs.toArray)) (hy : evl l y = some (.agg ys.toArray)) (ht : c.P.underlying t = some (.struct (c.P.fieldsOf t))) (hp : c.P.stoodInHeld t = false) (hgt : c.P.eqGuardType c.P.depth t = false) (hE : EqF c.P xs ys (c.P.fieldsOf t).toList b) :
    RunsTo c d l L X ⟨some i, .binOp .neq t x y t2, ty, ps, af, gd⟩ (.bool (!b)) := fun a' w hf _ => by
  have hr := run_equalIn_struct (P := c.P) w 9999 t xs.toArray ys.toArray ht hp
  rw [run_eqFields hE] at hr
  have h0 := run_neq_struct (P := c.P) w t xs.toArray ys.toArray
  rw [hr] at h0
  simp only [execOp]
  rw [hf.eval hx, hf.eval hy]
  simp only [Sem.run_bind, run_eqGuard_agg w .neq t x y _ _ hgt, Result.andThen, h0]
  rfl
end
theorem eqS_str (a b : BS) : eqS (strV a) (strV b) = decide (a = b) := str_beq a b
theorem slot_eq (x y : BS × BS) : (eqS (strV x.1) (strV y.1) && (eqS (strV x.2) (strV y.2) && true)) = decide (x = y) := by
  rw [eqS_str, eqS_str]
  obtain ⟨a, b⟩ := x
  obtain ⟨c, d⟩ := y
  by_cases h1 : a = c <;> by_cases h2 : b = d <;> simp [h1, h2]
theorem lst_eq {α : Type} {xs ys : List α} {i : Nat} (hl : xs.length = ys.length) (hi : xs.length ≤ i) (h : ∀ j, j < i → xs[j]? = ys[j]?) : xs = ys := by
  apply List.ext_getElem?
  intro j
  by_cases hj : j < i
  · exact h j hj
  · rw [List.getElem?_eq_none (by omega), List.getElem?_eq_none (by omega)]
theorem lst_ne {α : Type} {xs ys : List α} {i : Nat} {x y : α} (hx : xs[i]? = some x) (hy : ys[i]? = some y) (h : ¬ x = y) : ¬ xs = ys := by
  rintro rfl; rw [hx] at hy; exact h (Option.some.inj hy)
theorem eqU (a b : Nat) : eqS (uV a) (uV b) = decide (a = b) := by
  show ((a : Int) == (b : Int)) = _
  by_cases h : a = b
  · subst h; simp
  · have : ¬ (a : Int) = b := by omega
    simp [h, this]
theorem eqW (x y : W4) : eqCells [uV x.a, uV x.b, uV x.c, uV x.d] [uV y.a, uV y.b, uV y.c, uV y.d] = decide (x = y) := by
  simp only [eqCells, eqU]
  obtain ⟨a, b, c, d⟩ := x
  obtain ⟨a', b', c', d'⟩ := y
  by_cases h1 : a = a' <;> by_cases h2 : b = b' <;> by_cases h3 : c = c' <;> by_cases h4 : d = d' <;> simp [h1, h2, h3, h4]
end Go.SL
