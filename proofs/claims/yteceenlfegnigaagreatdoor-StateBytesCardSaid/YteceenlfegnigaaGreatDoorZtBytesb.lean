import Derived.Test.YteceenlfegnigaaGreatDoorZtBytesa
import Derived.Carry
import Derived.ChangeArms
import Derived.Lib.Overlaps
import Derived.Lib.AppendZerosOnto
import Derived.Laws.StructEq
import Derived.Lib.AppendStr
import Derived.Lib.UnsafeStr
import Derived.Lib.Builder
set_option maxRecDepth 100000
namespace Go.SL
set_option linter.all false
open Go Go.RowKit Go.Shelf Go.ChangeShapes Go.WideShapes
open Go.Proofs (Enters enters_of)
variable {a a' : Act} {K K' : Act → World → Prop} {af : Array Edge} {fs : Array Field} {es : Array MapEntry} {ops : Array Oper} {args : Array Operand} {at_ : Array TypeId} {cs cs2 : Array Value} {b : Bool} {body code : Code} {τ : Type} {E : Code → τ → Prop} {c c3 : Cx} {R : Ending → World → Prop} {Q Q' : Exit → Act → World → Prop} {fn : Func} {g : FuncId} {B E' L L' L0 R' Rl : Jp} {T : Jp → Array Bool → Act → Prop} {pa : List (Nat × Operand)} {d : List Deferred} {cs' : List Frame} {ts : List Nat} {rest tail : List Oper} {s : List UInt8} {caps vs ys zs : List Value} {α : Type} {xs : List α} {b0 c2 cap clock fuel h i id j m off off2 q r r2 sz : Nat} {fr fr2 : Nat × Nat} {o' ob : Obj} {o oi : Oper} {f x y : Operand} {gd : Option (Nat × Bool)} {dst ro : Option Nat} {P : Program} {ps : String} {ι σ : Type} {e e1 e2 kt src t tt ty : TypeId} {v v' z : Value} {dom : Value → Prop} {eq : Value → Value → Bool} {row : Vn} {w w' : World} {X XF : XP} {x0 : α} {pr : α → Bool} {LL : α → Jp} {V : α → Value} {X' : α → XP} {p0 : ι} {nx : ι → List Value → ι → Prop} {fin : ι → Prop} {LI : σ → Jp} {lI : σ → Kx} {μ : σ → Nat} {I : σ → Prop} {XI : σ → XP}
abbrev Pl : Type := Option (Addr × Nat)
def plA : Pl → Option Addr
 | none => none
 | some (a, _) => some a
def plC : Pl → Nat
 | none => 0
 | some (_, cap) => cap
def KE (n : Nat) (p : Pl) : Value := .slice (plA p) n (plC p)
def plB : Pl → Nat
 | none => 0
 | some (a, _) => a.block
def YC : Pl → Nat
 | none => 0
 | some (a, _) => a.off
def Seg (R : Jp) (n : Nat) (cs : List Value) : Pl → Prop
 | none => n = 0
 | some (a, cap) => n ≤ cap ∧ (0 < n → a.spot = none ∧ ∃ all e fr, (a.block, Obj.cells all e fr) ∈ R ∧ (all.toList.drop a.off).take cs.length = cs)
theorem Seg.nil {R : Jp} : Seg R 0 [] none := rfl
theorem Seg.mono {R : Jp} {n : Nat} {cs : List Value} {p : Pl} (h : Seg R n cs p) (hs : ∀ q ∈ R, q ∈ R') : Seg R' n cs p := by
 cases p with
 | none => exact h
 | some q => obtain ⟨a, cap⟩ := q; exact ⟨h.1, fun h0 => by obtain ⟨h1, all, e, fr, h2, h3⟩ := h.2 h0; exact ⟨h1, all, e, fr, hs _ h2, h3⟩⟩
theorem Joy {all cs : List α} {o : Nat} {v : α} (h : (all.drop o).take cs.length = cs) (hv : cs[j]? = some v) : all[o + j]? = some v := by
 rw [← h, List.getElem?_take] at hv
 split at hv
 ·rwa [List.getElem?_drop] at hv
 ·cases hv
theorem Jdx {all cs vs : List α} {o : Nat} (h : (all.drop o).take cs.length = cs) (hv : (cs.drop j).take m = vs) (hm : vs.length = m) : (all.drop (o + j)).take m = vs := by
 have h1 : j + m ≤ cs.length ∨ m = 0 := by
  have := congrArg List.length hv
  rw [List.length_take, List.length_drop, hm] at this
  omega
 rcases h1 with h1 | h1
 ·rw [← hv, ← h, List.drop_take, List.drop_drop, List.take_take, Nat.min_eq_left m0]
 ·subst h1; rw [List.take_zero] at hv ⊢; exact hv
theorem Yq {α : Type} {f : α → List Value} {m : Nat} (hf : ∀ x, (f x).length = m) : ∀ {l : List α} {j : Nat} {x : α}, l[j]? = some x → ((l.flatMap f).drop (j * m)).take m = f x
 | [], _, _, h => by simp at h
 | y :: l, 0, x, h => by
  obtain rfl : y = x := by simpa using h
  rw [Nat.zero_mul, List.drop_zero, List.flatMap_cons, List.take_left' (hf y)]
 | y :: l, j + 1, x, h => by
  have e : (j + 1) * m = (f y).length + j * m := by rw [hf, Nat.succ_mul, Nat.add_comm]
  rw [e, List.flatMap_cons, ← List.drop_drop, List.drop_left' rfl]
  exact Yq hf nz
theorem Qq {α : Type} {f : α → List Value} {m : Nat} (hf : ∀ x, (f x).length = m) : ∀ l : List α, (l.flatMap f).length = l.length * m
 | [] => by simp
 | y :: l => by rw [List.flatMap_cons, List.length_append, hf, Qq hf l, List.length_cons, Nat.succ_mul, Nat.add_comm]
section
variable {c : Cx} {l : Kx} {L : Jp} {X : XP} {Q : Exit → Act → World → Prop} {d : List Deferred}
variable {ops : Array Oper} {rest : List Oper} {i : Nat} {v : Value} {t : TypeId} {ps : String} {af : Array Edge} {gd : Option (Nat × Bool)} {ty : TypeId}
theorem Jl {p : Pl} {n : Nat} {R : Jp} {cs : List Value} (hx : Kq l x = some (KE n p)) (hs : Seg R n cs p) (ht : Kw c.P t = some e) :
  JC c d l L X ⟨some i, .call ⟨.builtin .len, #[x], #[t]⟩, ty, ps, af, gd⟩ (.int .i64 n) := by
 cases p with
 | none => have h : n = 0 := hs; subst h; exact KS hx ht
 | some q => obtain ⟨a, cap⟩ := q; exact KS hx ht
theorem Jf {p : Pl} {R : Jp} {cs : List Value} {n e : Nat} {k : IntKind} {z : Int} (hx : Kq l x = some (KE n p)) (hs : Seg R n cs p) (hy : Kq l y = some (.int k z)) (ha : Kw c.P t = some e) (hm : KZ c.P e = some m) (hz : z = (j : Int)) (hj : j < n) :
  JC c d l L X ⟨some i, .indexAddr t x y, ty, ps, af, gd⟩ (.pointer (some ⟨plB p, YC p + j * m, none⟩)) := by
 cases p with
 | none => have h : n = 0 := hs; omega
 | some q =>
  obtain ⟨⟨b, o, s⟩, cap⟩ := q
  have h1 : s = none := (hs.2 m0).1
  subst h1
  exact Kg hx hy ha hm hz hj rfl
theorem ZK {p : Pl} {R : Jp} {cs : List Value} {n : Nat} (hR : ∀ q ∈ R, known c L q.1 q.2) (hx : Kq l x = some (.pointer (some ⟨plB p, YC p + j, none⟩))) (hs : Seg R n cs p) (hn : 0 < n) (ht : W3 c.P t = some false) (hv : cs[j]? = some v) :
  JC c d l L X ⟨some i, .load t x, ty, ps, af, gd⟩ v := by
 cases p with
 | none => have h : n = 0 := hs; omega
 | some q =>
  obtain ⟨⟨b, o, s⟩, cap⟩ := q
  obtain ⟨_, all, e, fr, h1, h2⟩ := hs.2 hn
  exact Jd hx (hR _ h1) ht (by rw [V1]; exact Joy h2 hv)
theorem XC {p : Pl} {R : Jp} {cs : List Value} {n : Nat} (hR : ∀ q ∈ R, known c L q.1 q.2) (hx : Kq l x = some (.pointer (some ⟨plB p, YC p + j, none⟩))) (hs : Seg R n cs p) (hn : 0 < n) (ht : W3 c.P t = some true) (hm : KZ c.P t = some m) (hv : (cs.drop j).take m = vs) (hl : vs.length = m) :
  JC c d l L X ⟨some i, .load t x, ty, ps, af, gd⟩ (.agg vs.toArray) := by
 cases p with
 | none => have h : n = 0 := hs; omega
 | some q =>
  obtain ⟨⟨b, o, s⟩, cap⟩ := q
  obtain ⟨_, all, e, fr, h1, h2⟩ := hs.2 hn
  exact Jq hx (hR _ h1) ht hm (Jdx h2 hv hl) hl
end
theorem Ka (z : Array Value) (n : Nat) : (madeCells z n).toList = (List.range n).map (fun i => z.toList.getD (i % z.size) default) := by
 unfold madeCells
 simp
 intro a _
 rw [getElem!_def]
 cases z[a % z.size]? <;> rfl
def Zy (z : Int) : Prop := -9223372036854775808 ≤ z ∧ z ≤ 9223372036854775807
inductive Ty : Type
  | mk (k n : Int) (p : Pl) (ins : List Ty)
def Ty.k : Ty → Int
 | .mk k _ _ _ => k
def Ty.n : Ty → Int
 | .mk _ n _ _ => n
def Ty.p : Ty → Pl
 | .mk _ _ p _ => p
def Ty.ins : Ty → List Ty
 | .mk _ _ _ ins => ins
def Ty.cells : Ty → List Value
 | .mk k n p ins => [.int .i64 k, .int .i64 n, KE ins.length p]
def Ty.val (t : Ty) : Value := .agg t.cells.toArray
def xu (l : List Ty) : List Value := l.flatMap Ty.cells
theorem Ty.one (t : Ty) : t.cells.all Va = true := by cases t; rfl
theorem Ty.len (t : Ty) : t.cells.length = 3 := by cases t; rfl
inductive Ty.In (R : Jp) : Ty → Prop
  | mk {k n : Int} {p : Pl} {ins : List Ty} (hk : Zy k) (hn : Zy n) (hl : ins.length ≤ 9223372036854775807) (hs : Seg R ins.length (xu ins) p) (hi : ∀ x ∈ ins, Ty.In R x) : Ty.In R (.mk k n p ins)
theorem Ty.In.mono {R : Jp} (hs : ∀ q ∈ R, q ∈ R') {t : Ty} (h : Ty.In R t) : Ty.In R' t := by
 induction h with
 | mk hk hn hl hg hi ih => exact .mk hk hn hl (hg.mono hs) ih
theorem Ty.In.sub {R : Jp} {k n : Int} {p : Pl} {ins : List Ty} (h : Ty.In R (.mk k n p ins)) : ∀ x ∈ ins, Ty.In R x := by
 cases h; assumption
inductive Vl : Type
  | mk (a b c d : Nat) (bits : List Bool) (pb : Pl) (items : List Vl) (pi : Pl) (pick : Int)
def Vl.num : Vl → List Nat
 | .mk a b c d _ _ _ _ _ => [a, b, c, d]
def Vl.bits : Vl → List Bool
 | .mk _ _ _ _ l _ _ _ _ => l
def Vl.items : Vl → List Vl
 | .mk _ _ _ _ _ _ l _ _ => l
def Vl.pick : Vl → Int
 | .mk _ _ _ _ _ _ _ _ k => k
def Vl.cells : Vl → List Value
 | .mk a b c d bits pb items pi pick => [uV a, uV b, uV c, uV d, KE bits.length pb, KE items.length pi, .int .i64 pick]
def Vl.val (t : Vl) : Value := .agg t.cells.toArray
def KL (l : List Vl) : List Value := l.flatMap Vl.cells
def Qd (l : List Bool) : List Value := l.map .bool
theorem Vl.one (t : Vl) : t.cells.all Va = true := by cases t; rfl
theorem Vl.len (t : Vl) : t.cells.length = 7 := by cases t; rfl
def XD (n : Nat) : Prop := n < 18446744073709551616
inductive Vl.In (R : Jp) : Vl → Prop
  | mk {a b c d : Nat} {bits : List Bool} {pb : Pl} {items : List Vl} {pi : Pl} {pick : Int} (ha : XD a) (hb : XD b) (hc : XD c) (hd : XD d) (hlb : bits.length ≤ 9223372036854775807) (hsb : Seg R bits.length (Qd bits) pb)
      (hl : items.length ≤ 9223372036854775807) (hs : Seg R items.length (KL items) pi) (hp : Zy pick) (hi : ∀ x ∈ items, Vl.In R x) : Vl.In R (.mk a b c d bits pb items pi pick)
theorem Vl.In.mono {R : Jp} (hs : ∀ q ∈ R, q ∈ R') {t : Vl} (h : Vl.In R t) : Vl.In R' t := by
 induction h with
 | mk ha hb hc hd hlb hsb hl hg hp hi ih => exact .mk ha hb hc hd hlb (hsb.mono hs) hl (hg.mono hs) hp ih
theorem Vl.In.sub {R : Jp} {a b c d : Nat} {bits : List Bool} {pb : Pl} {items : List Vl} {pi : Pl} {pick : Int} (h : Vl.In R (.mk a b c d bits pb items pi pick)) : ∀ x ∈ items, Vl.In R x := by
 cases h; assumption
section
variable {c : Cx} {l : Kx} {L : Jp} {X : XP} {d : List Deferred} {i : Nat} {t : TypeId} {ps : String} {af : Array Edge} {gd : Option (Nat × Bool)} {ty : TypeId}
theorem qo {l : List α} {y : α} (h : l[j]? = some y) : 0 < l.length := by
 have := (List.getElem?_eq_some_iff.1 h).1; omega
theorem Ko {p : Pl} {R : Jp} {ins : List Ty} {y : Ty} (hR : ∀ q ∈ R, known c L q.1 q.2) (hx : Kq l x = some (.pointer (some ⟨plB p, YC p + j * 3, none⟩))) (hs : Seg R ins.length (xu ins) p) (hy : ins[j]? = some y) (ht : W3 c.P t = some true) (hm : KZ c.P t = some 3) :
  JC c d l L X ⟨some i, .load t x, ty, ps, af, gd⟩ y.val :=
 XC hR hx hs (qo hy) ht hm (Yq Ty.len hy) y.len
theorem KV {p : Pl} {R : Jp} {ins : List Vl} {y : Vl} (hR : ∀ q ∈ R, known c L q.1 q.2) (hx : Kq l x = some (.pointer (some ⟨plB p, YC p + j * 7, none⟩))) (hs : Seg R ins.length (KL ins) p) (hy : ins[j]? = some y) (ht : W3 c.P t = some true) (hm : KZ c.P t = some 7) :
  JC c d l L X ⟨some i, .load t x, ty, ps, af, gd⟩ y.val :=
 XC hR hx hs (qo hy) ht hm (Yq Vl.len hy) y.len
theorem Wx {p : Pl} {R : Jp} {cs : List Value} {n : Nat} (hR : ∀ q ∈ R, known c L q.1 q.2) (hx : Kq l x = some (.pointer (some ⟨plB p, YC p + j * 1, none⟩))) (hs : Seg R n cs p) (hn : j < n) (ht : W3 c.P t = some false) (hv : cs[j]? = some v) :
  JC c d l L X ⟨some i, .load t x, ty, ps, af, gd⟩ v :=
 ZK hR (by rw [Nat.mul_one] at hx; exact hx) hs m0 ht hv
theorem WX {p : Pl} {R : Jp} {bits : List Bool} {y : Bool} (hR : ∀ q ∈ R, known c L q.1 q.2) (hx : Kq l x = some (.pointer (some ⟨plB p, YC p + j * 1, none⟩))) (hs : Seg R bits.length (Qd bits) p) (hy : bits[j]? = some y) (ht : W3 c.P t = some false) :
  JC c d l L X ⟨some i, .load t x, ty, ps, af, gd⟩ (.bool y) :=
 ZK hR (by rw [Nat.mul_one] at hx; exact hx) hs (qo hy) ht (by unfold Qd; rw [List.getElem?_map, hy]; rfl)
end
section
variable {c : Cx} {l : Kx} {L : Jp} {X : XP} {d : List Deferred} {i : Nat} {v : Value} {ps : String} {af : Array Edge} {gd : Option (Nat × Bool)} {ty : TypeId}
theorem V8 {T : Act → Prop}
  (hg : Kv l ops ⟨some i, .call ⟨.value f, args, at_⟩, ty, ps, af, gd⟩ = some true) (hi : Nat.ble (i + 1) c.n = true) (hca : KT l f args = some (g, vs)) (eg : Enters c.P g)
  (hp : PureR c.P g vs.toArray v Rl) (hk : ∀ p ∈ Rl, known c L p.1 p.2) (h : HD c d ((i, v) :: l) L X ops rest T) : HD c d l L X ops (⟨some i, .call ⟨.value f, args, at_⟩, ty, ps, af, gd⟩ :: rest) T := fun a hf => by
 refine ⟨fun _ _ _ _ => trivial, ?_⟩
 rw [if_pos (JH hf hg)]
 refine ⟨v, fun w hs => ?_, h _ (hf.put (Nat.le_of_ble_eq_true hi))⟩
 unfold Oper.quietAtIn
 rw [VW hf hca c.P w _ rfl eg]
 refine ⟨rfl, fun hdep => M1, ?_⟩
 have hc := callsIn_wide (n := 0) |>.2 (hp.run w fun p hp => hs.known (hk p hp))
 refine CallsIn.mono nd ?_
 rintro e w' ⟨rfl, hk⟩
 exact ⟨rfl, hs.more hk⟩
end
theorem QN {l : List α} (h : j < l.length) : ∃ y, l[j]? = some y ∧ y ∈ l := ⟨l[j], List.getElem?_eq_getElem h, List.getElem_mem h⟩
theorem X7 {l : List α} {y : α} (h : l[j]? = some y) : l.drop j = y :: l.drop (j + 1) := by
 exact DW
def Jg1 (w : World) : Jp := w.heap.toList.zipIdx.map fun p => (p.2, p.1)
theorem has_allB (w : World) : wm (Jg1 w) w := by
 intro p hp
 obtain ⟨q, hq, rfl⟩ := List.mem_map.1 hp
 have := List.mem_zipIdx_iff_getElem?.1 hq
 rw [Array.getElem?_toList] at this
 exact this
theorem Joz {o : Obj} (h : w.heap[r]? = some o) : (r, o) ∈ Jg1 w :=
 List.mem_map.2 ⟨(o, r), List.mem_zipIdx_iff_getElem?.2 (by rw [Array.getElem?_toList]; exact h), rfl⟩
def JM (k n : Int) (m : Nat) : Bool :=
 if k = 1 then decide (m = 0) && (decide (n = 1) || decide (n = 2) || decide (n = 4) || decide (n = 8) || decide (n = 32))
 else if k = 2 then decide (m = 0) && decide (n = 0)
 else if k = 3 ∨ k = 4 then decide (m = 1) && decide (1 ≤ n) && decide (n ≤ 512)
 else if k = 5 ∨ k = 6 then decide (m = 0) && decide (1 ≤ n) && decide (n ≤ 512)
 else if k = 7 then decide (n = 0) && decide (1 ≤ m) && decide (m ≤ 16)
 else decide (n = 0) && decide (1 ≤ m) && decide (m ≤ 8)
mutual
def Vp : Ty → Int → Int
 | .mk k n _ ins, d => if k < 1 ∨ 8 < k then 9 else if JM k n ins.length = false then 2 else if 6 ≤ d then 7 else Xw ins (d + 1)
def Xw : List Ty → Int → Int
 | [], _ => 0
 | x :: xs, d => if Vp x d = 0 then Xw xs d else Vp x d
end
mutual
def Wi : Ty → Bool
 | .mk k _ _ ins => !(decide (k = 4) || decide (k = 6) || decide (k = 8)) && Zf ins
def Zf : List Ty → Bool
 | [] => true
 | x :: xs => Wi x && Zf xs
end
mutual
def JV : Ty → Int
 | .mk k n _ ins => if k = 1 then n else if k = 2 then 1 else if k = 5 then (n + 7) / 8 else if k = 3 then n * VL ins else VL ins
def VL : List Ty → Int
 | [] => 0
 | x :: xs => JV x + VL xs
end
def JL (t : Ty) : Bool := decide (Vp t 0 = 0) && Wi t
def YD (t : Ty) : Int := if JL t then JV t else 0
mutual
def XR : Vl → Vl → Bool
 | .mk a b c d bits _ items _ pick, v => decide ([a, b, c, d] = v.num) && decide (pick = v.pick) && decide (bits = v.bits) && Wy items v.items
def Wy : List Vl → List Vl → Bool
 | [], [] => true
 | x :: xs, y :: ys => XR x y && Wy xs ys
 | _, _ => false
end
theorem Ty.ind {M : Ty → Prop} (h : ∀ k n p ins, (∀ x ∈ ins, M x) → M (.mk k n p ins)) : ∀ t, M t
 | .mk k n p ins => h k n p ins fun x hx => Ty.ind h x
theorem Vl.ind {M : Vl → Prop} (h : ∀ a b c d bits pb items pi pick, (∀ x ∈ items, M x) → M (.mk a b c d bits pb items pi pick)) : ∀ t, M t
 | .mk a b c d bits pb items pi pick => h a b c d bits pb items pi pick fun x hx => Vl.ind h x
theorem chkL_mem : ∀ {l : List Ty} {d : Int}, Xw l d = 0 → ∀ x ∈ l, Vp x d = 0
 | [], _, _, x, hx => by simp at hx
 | y :: l, d, h, x, hx => by
  rw [Xw] at h
  split at h
  ·rename_i h0
   rcases List.mem_cons.1 hx with rfl | hx
   ·exact h0
   ·exact chkL_mem h x hx
  ·rename_i h0; exact absurd h h0
theorem ZL : ∀ {l : List Ty}, Zf l = true ↔ ∀ x ∈ l, Wi x = true
 | [] => by simp [Zf]
 | y :: l => by rw [Zf, Bool.and_eq_true, ZL]; simp
theorem QE {k n : Int} {p : Pl} {ins : List Ty} {d : Int} (h : Vp (.mk k n p ins) d = 0) : (1 ≤ k ∧ k ≤ 8) ∧ JM k n ins.length = true ∧ d < 6 ∧ ∀ x ∈ ins, Vp x (d + 1) = 0 := by
 rw [Vp] at h
 split at h
 ·cases h
 ·split at h
  ·cases h
  ·split at h
   ·cases h
   ·rename_i h1 h2 h3
    exact ⟨by omega, by simpa using h2, by omega, chkL_mem h⟩
def bnd : Nat → Int
 | 0 => 64
 | m + 1 => 512 * bnd m
theorem wF : ∀ m, 64 ≤ bnd m
 | 0 => by decide
 | m + 1 => by have := wF m; rw [bnd]; omega
theorem Jbf (h : m ≤ 5) : bnd m ≤ 2251799813685248 := by
 have : ∀ m : Nat, m < 6 → bnd m ≤ 2251799813685248 := by decide
 exact this m m0
theorem wG {B : Int} : ∀ {l : List Ty}, (∀ x ∈ l, 1 ≤ JV x ∧ JV x ≤ B) → (l.length : Int) ≤ VL l ∧ VL l ≤ l.length * B
 | [], _ => by simp [VL]
 | y :: l, h => by
  have h1 := h y mh
  have h2 := wG (l := l) fun x hx => h x (by simp [hx])
  rw [VL, List.length_cons]
  have e : ((l.length + 1 : Nat) : Int) * B = l.length * B + B := by rw [Int.natCast_add, Int.add_mul]; simp
  omega
theorem jI (t : Ty) : ∀ d : Int, 0 ≤ d → Vp t d = 0 → Wi t = true → 1 ≤ JV t ∧ JV t ≤ bnd (5 - d).toNat := by
 induction t using Ty.ind with
 | h k n p ins ih =>
  intro d hd hc hf
  obtain ⟨hk, ho, h6, hi⟩ := QE hc
  rw [Wi, Bool.and_eq_true] at hf
  have hb := wF (5 - d).toNat
  have hfix := ZL.1 hf.2
  have hne : (k ≠ 4 ∧ k ≠ 6) ∧ k ≠ 8 := by simpa using hf.1
  unfold JM at ho
  rw [JV]
  by_cases h1 : k = 1
  ·subst h1; exact EJ
  by_cases h2 : k = 2
  ·subst h2; simp; omega
  by_cases h5 : k = 5
  ·subst h5; exact EJ
  have hne0 : 1 ≤ ins.length ∧ ins.length ≤ 16 := by
   by_cases h3 : k = 3
   ·subst h3; simp at ho; omega
   ·have : k = 7 := by omega
    subst this; simp at ho; omega
  have hd5 : d < 5 := by
   obtain ⟨x, hx⟩ : ∃ x, x ∈ ins := ⟨ins[0], List.getElem_mem m0⟩
   cases x with
   | mk a b c e => have := (QE (hi _ hx)).2.2.1; omega
  have hs := wG (B := bnd (5 - (d + 1)).toNat) fun x hx => ih x hx (d + 1) m0 (hi x hx) (hfix x hx)
  have e : (5 - d).toNat = (5 - (d + 1)).toNat + 1 := by omega
  rw [e, bnd]
  have hb2 := wF (5 - (d + 1)).toNat
  generalize bnd (5 - (d + 1)).toNat = B at *
  rw [if_neg h1, if_neg h2, if_neg h5]
  by_cases h3 : k = 3
  ·subst h3
   simp at ho
   have hl : (ins.length : Int) = 1 := by omega
   rw [hl] at hs
   rw [if_pos rfl]
   generalize VL ins = z at *
   constructor
   ·exact Int.le_trans m0 (Int.mul_le_mul ho.1.2 hs.1 m0 m0)
   ·exact Int.le_trans (Int.mul_le_mul ho.2 hs.2 m0 m0) m0
  ·rw [if_neg h3]
   generalize VL ins = z at *
   exact EG
theorem WY : ∀ {xs ys : List Vl}, Wy xs ys = true ↔ xs.length = ys.length ∧ ∀ (i : Nat) (x y : Vl), xs[i]? = some x → ys[i]? = some y → XR x y = true
 | [], [] => by simp [Wy]
 | [], y :: ys => by simp [Wy]
 | x :: xs, [] => by simp [Wy]
 | x :: xs, y :: ys => by
  rw [Wy, Bool.and_eq_true, WY]
  constructor
  ·rintro ⟨h1, h2, h3⟩
   refine ⟨by simp [h2], fun i a b ha hb => ?_⟩
   cases i with
   | zero => simp at ha hb; subst ha; subst hb; exact h1
   | succ i => exact h3 i a b (by simpa using ha) ME
  ·rintro ⟨h1, h2⟩
   exact ⟨h2 0 x y rfl rfl, by simpa using h1, fun i a b ha hb => h2 (i + 1) a b (by simpa using ha) ME⟩
theorem Jg2 (v : Vl) : XR v v = true := by
 induction v using Vl.ind with
 | h a b c d bits pb items pi pick ih =>
  rw [XR]
  have : Wy items items = true := WY.2 ⟨rfl, fun i x y hx hy => by rw [hx] at hy; cases hy; exact ih x (List.mem_of_getElem? hx)⟩
  simp [Vl.num, Vl.pick, Vl.bits, Vl.items, this]
open Go Go.RowKit Go.Shelf
structure PureMR (P : Program) (f : FuncId) (args : Array Value) (v : Value) (r : Nat) (o o' : Obj) (Rl : Jp) : Prop where
  run : ∀ w, w.heap[r]? = some o → wm Rl w → Calls P f args w fun e w' => e = .returned v ∧ Keep [r] w w' ∧ w'.heap[r]? = some o'
def Jbg (P : Program) (w : World) (r : Nat) (Rl : Jp) (n : Nat) : Cx := ⟨P, none, w, [r], [], Rl, n⟩
theorem St.startMR  {n : Nat} {o : Obj} (h : w.heap[r]? = some o) (hR : wm Rl w) (hne : ∀ p ∈ Rl, p.1 ≠ r) : St (Jbg P w r Rl n) [(r, o)] (fun _ _ => True) w :=
 ⟨Keep.refl _ _, fun p hp => by rw [List.mem_singleton.1 hp]; exact ⟨.inl List.mem_cons_self, by simp [Jbg], h⟩, List.pairwise_singleton _ _, fun p hp => ⟨by simp [Jbg]; exact hne p hp, by simp [Jbg], hR p hp⟩, by simp [Jbg], ⟨[], by simp, fun _ _ => trivial⟩⟩
theorem X9 {f : FuncId} {o : Obj} (hne : ∀ p ∈ Rl, p.1 ≠ r) (hf : P.funcs[f]? = some fn) (hb : fn.body = some code) (hlen : Nat.ble vs.length fn.ntmps = true)
  (h : ∀ w, HC (Jbg P w r Rl fn.ntmps) [] (V2 0 vs) [(r, o)] (fun _ _ => True) code (bodyPostM (FW none) 0 P fn (fun e w' => e = .returned v ∧ ∃ L, (r, o') ∈ L ∧ St (Jbg P w r Rl fn.ntmps) L (fun _ _ => True) w'))) : PureMR P f vs.toArray v r o o' Rl := ⟨fun w hr hR =>
 (QP (Jbg P w r Rl fn.ntmps) hf hb rfl rfl rfl hlen (St.startMR hr hR hne) (h w)).mono fun _ _ ⟨he, L, hm, hs⟩ => ⟨he, by have := hs.keep; simpa [Jbg] using this, (hs.own _ hm).2.2⟩⟩
section
variable {c : Cx} {l : Kx} {L : Jp} {X : XP} {Q : Exit → Act → World → Prop} {d : List Deferred}
variable {ops : Array Oper} {rest : List Oper} {i : Nat} {v : Value} {t : TypeId} {ps : String} {af : Array Edge} {gd : Option (Nat × Bool)} {ty t2 : TypeId}
theorem St.apart (hs : St c L X w) {k : Nat} {o : Obj} (hk : L[k]? = some (r, o)) : ∀ p ∈ c.R, p.1 ≠ r := by
 rintro p hp rfl
 have h1 := (hs.own _ (List.mem_of_getElem? hk)).1
 obtain ⟨h2, _, h3⟩ := hs.ext p hp
 rcases h1 with h1 | h1
 ·exact h2 h1
 ·have := J1 h3
  exact absurd this (Nat.not_lt.2 h1)
theorem Jlt {k : Nat} {o : Obj}
  (hg : Kv l ops ⟨some i, .call ⟨.value f, args, at_⟩, ty, ps, af, gd⟩ = some true) (hi : Nat.ble (i + 1) c.n = true) (hca : KT l f args = some (g, vs)) (eg : Enters c.P g) (hk : L[k]? = some (r, o))
  (hp : (∀ p ∈ Rl, p.1 ≠ r) → PureMR c.P g vs.toArray v r o o' Rl) (hR : ∀ p ∈ Rl, p ∈ c.R) (hL : L.set k (r, o') = L') (h : HL c d ((i, v) :: l) L' X ops rest Q) : HL c d l L X ops (⟨some i, .call ⟨.value f, args, at_⟩, ty, ps, af, gd⟩ :: rest) Q :=
 Y7 (α := Unit) (V := fun _ => v) (L' := fun _ => L') (X' := fun _ => X) hg hi hca eg (fun w hs => ((hp fun p hq => hs.apart hk p (hR p hq)).run w (hs.get hk) (fun p hq => hs.readR (hR p hq))).mono fun _ _ ⟨he, hkp, ho⟩ => ⟨(), he, hL ▸ hs.set hk hkp ho⟩) (fun _ => h)
theorem yC (hg : Kv l ops ⟨some i, .makeMap t none, ty, ps, af, gd⟩ = some true) (hi : Nat.ble (i + 1) c.n = true)
  (h : ∀ r, HL c d ((i, .map (some r)) :: l) ((r, .map #[] 0) :: L) X ops rest Q) : HL c d l L X ops (⟨some i, .makeMap t none, ty, ps, af, gd⟩ :: rest) Q :=
 W6 (α := Nat) (V := fun r => .map (some r)) (L' := fun r => (r, .map #[] 0) :: L) (X' := fun _ => X) hg rfl rfl hi (fun a w _ hs => ⟨w.heap.size, w.alloc (.map #[] 0), by simp only [execOp, Sem.run_bind, Option.map]; rfl, hs.alloc _⟩) h
theorem Qt {m : Operand} {kt et : Nat} {key val : Value} (K : KeyL c.P kt dom eq) (hg : Kv l ops ⟨none, .insert t m x y, ty, ps, af, gd⟩ = some true)
  (hm : Kq l m = some (.map (some r))) (hx : Kq l x = some key) (hy : Kq l y = some val) (hq : L[q]? = some (r, .map es clock)) (ht : xE c.P t = some (kt, et)) (hk : dom key) (he : ∀ e ∈ es.toList, dom e.key) (hn : Vm eq key (es.toList.map Yx) = none)
  (hL : L.set q (r, .map (es.push { key := key, val := val, born := clock }) (clock + 1)) = L') (h : HL c d l L' X ops rest Q) : HL c d l L X ops (⟨none, .insert t m x y, ty, ps, af, gd⟩ :: rest) Q :=
 Jay hg rfl rfl (fun a w hf hs => ⟨_, by
  simp only [execOp, Sem.run_bind]
  rw [hf.eval hm, hf.eval hx, hf.eval hy, Jgt K ht (hs.get hq) hk he hn]; rfl, hL ▸ hs.set hq (Keep.putObj r _) (World.putObj_heap_same (J1 (hs.get hq)))⟩) h
end
def isI (v : Value) : Prop := ∃ n, v = .int .i64 n
def Zz (x y : Value) : Bool := eqS x y
theorem yD (ht : P.underlying t = some (.int .i64)) (b : Bool) (n : Nat) (x : Int) (w : World) : (Instr.checkKey b (n + 1) t (.int .i64 x)).run P w = .ok () w := by
 simp [Instr.checkKey, Sem.run_bind, Qx ht, Result.andThen]
theorem Yi (ht : P.underlying t = some (.int .i64)) : KeyL P t isI Zz where
 now := ⟨_, ht, fun a b ⟨a1, ha⟩ ⟨b1, hb⟩ => by subst ha hb; exact .inr (by simp [Instr.sameNow, Zz, eqS])⟩
 equal := by
  rintro _ _ w ⟨a, rfl⟩ ⟨b, rfl⟩
  exact Ja6 (by simp [W8, ht]) (by simp [W8, ht]) 9999 w
 check := by
  rintro _ b w ⟨x, rfl⟩
  exact yD ht b 9999 x w
theorem Jo0 (a b : Int) : Zz (.int .i64 a) (.int .i64 b) = (a == b) := rfl
structure GE where
  α : Type
  V : α → Value
  LL : α → Jp
  x0 : α
inductive Kb
  | quiet
  | pure
  | grow (e : GE)
  | turn
  | dep (ts : List Nat) (e : List Value → GE)
abbrev qp := Nat → Kb
variable {tb : qp}
def Kb.isGrow : Kb → Bool
 | .grow _ => true
 | .dep _ _ => true
 | _ => false
def XS (a : Act) (ts : List Nat) : List Value := ts.map fun t => a.eval (.tmp t)
def Kb.ge : Kb → Act → Option GE
 | .grow e, _ => some e
 | .dep ts e, a => some (e (XS a ts))
 | _, _ => none
def Jlu (ops : Array Oper) (tb : qp) (m : Nat) : Prop :=
 ∀ j, j < m → ∀ o, ops[j]? = some o → ∀ ts e, tb j = .dep ts e → ∀ t ∈ ts, t ∈ o.looksAt ops
theorem Jlv {dst : Option Tmp} (h : ∀ d, dst = some d → d ∉ o.looksAt ops) (ht : ∀ t ∈ ts, t ∈ o.looksAt ops) : XS (a.put dst v) ts = XS a ts :=
 List.map_congr_left fun t hm => Act.eval_put fun d hd e => by cases e; exact h t hd (ht t hm)
theorem yE {dst : Option Tmp} (hd : Jlu ops tb m) (hj : j < m) (ho : ops[j]? = some o) (h : ∀ d, dst = some d → d ∉ o.looksAt ops) : (tb j).ge (a.put dst v) = (tb j).ge a := by
 cases ht : tb j with
 | dep ts e => show some (e (XS (a.put dst v) ts)) = some (e (XS a ts)); rw [Jlv h (hd j hj o ho ts e ht)]
 | _ => rfl
theorem xJ {k : Kb} (a : Act) (h : k.isGrow = true) : ∃ e, k.ge a = some e := by
 cases k with
 | grow e => exact ⟨e, rfl⟩
 | dep ts e => exact ⟨_, rfl⟩
 | _ => cases h
def Kb.isTurn : Kb → Bool
 | .turn => true
 | _ => false
def Kb.isQuiet : Kb → Bool
 | .quiet => true
 | _ => false
section
variable {c : Cx} {X : XP} {S : Jp} {ops : Array Oper} {md : Region.Mode}
def Jo1 (LL : Jp) (w w' : World) : Prop := Keep [] w w' ∧ (∀ p ∈ LL, w.heap.size ≤ p.1 ∧ w'.heap[p.1]? = some p.2) ∧ LL.Pairwise fun p q => p.1 ≠ q.1
def YG (c : Cx) (X : XP) (S : Jp) (ops : Array Oper) (o : Oper) (e : GE) (a : Act) : Prop :=
 Region.wanted o (yielded ops a.tmps) = true ∧ ∀ E, SubS S E → ∀ w, St c E X w → actAt c o a w fun u w' => ∃ x, u = e.V x ∧ Jo1 (e.LL x) w w'
theorem YG.same {e : GE} (hy : YG c X S ops o e a) (he : execOp a'.eval o = execOp a.eval o) (hw : Region.wanted o (yielded ops a'.tmps) = Region.wanted o (yielded ops a.tmps)) : YG c X S ops o e a' :=
 ⟨hw.trans hy.1, fun E hE w hs => (hy.2 E hE w hs).same he⟩
def YT (c : Cx) (E : Jp) (X : XP) (ops : Array Oper) (o : Oper) {α : Type} (V : α → Value) (G : α → Jp) (a : Act) : Prop :=
 Region.wanted o (yielded ops a.tmps) = true ∧ ∀ w, St c E X w → actAt c o a w fun u w' => ∃ x, u = V x ∧ St c (G x) X w'
def stB (c : Cx) (X : XP) (S : Jp) (ops : Array Oper) (tb : qp) (i : Nat) (K : Jp → Act → Prop) (E : Jp) (a : Act) : Prop :=
 ∃ o, ops[i]? = some o ∧ match tb i with
  | .quiet => ∃ v, YQ c E X ops o v a ∧ K E (a.put o.dst v)
  | .pure => ∃ v, YP c X S ops o v a ∧ K E (a.put o.dst v)
  | .grow e => (YG c X S ops o e a ∧ ∀ x, K (e.LL x ++ E) (a.put o.dst (e.V x))) ∨ (Region.wanted o (yielded ops a.tmps) = false ∧ K E (a.put o.dst undef))
  | .turn => (∃ (α : Type) (V : α → Value) (G : α → Jp), YT c E X ops o V G a ∧ ∀ x, SubS S (G x) ∧ K (G x) (a.put o.dst (V x))) ∨ (Region.wanted o (yielded ops a.tmps) = false ∧ K E (a.put o.dst undef))
  | .dep ts e => (YG c X S ops o (e (XS a ts)) a ∧ ∀ x, K ((e (XS a ts)).LL x ++ E) (a.put o.dst ((e (XS a ts)).V x))) ∨ (Region.wanted o (yielded ops a.tmps) = false ∧ K E (a.put o.dst undef))
theorem vg {K : Jp → Act → Prop} {E : Jp} {e : GE} (h : (tb i).ge a = some e) :
  stB c X S ops tb i K E a ↔ ∃ o, ops[i]? = some o ∧ ((YG c X S ops o e a ∧ ∀ x, K (e.LL x ++ E) (a.put o.dst (e.V x))) ∨ (Region.wanted o (yielded ops a.tmps) = false ∧ K E (a.put o.dst undef))) := by
 unfold stB
 cases ht : tb i with
 | grow e' => rw [ht] at h; cases h; exact Iff.rfl
 | dep ts e' => rw [ht] at h; cases h; exact Iff.rfl
 | _ => rw [ht] at h; cases h
def Y0 (c : Cx) (X : XP) (S : Jp) (ops : Array Oper) (md : Region.Mode) (tb : qp) (m : Nat) (T : Jp → Array Bool → Act → Prop) : Nat → Array Bool → Jp → Act → Prop
 | 0, listed, E, a => T E listed a
 | f + 1, listed, E, a => Region.ready md ops listed ≠ [] ∧ ∀ i ∈ Region.ready md ops listed, i < m ∧ stB c X S ops tb i (fun E' a' => Y0 c X S ops md tb m T f (listed.setIfInBounds i true) E' a') E a
theorem SubS.grow {E LL : Jp} (h : SubS S E) : SubS S (LL ++ E) := fun p hp => List.mem_append_right _ (h p hp)
theorem YQ.perm {E : Jp} (hy : YQ c E X ops o v a) (hp : E.Perm E') : YQ c E' X ops o v a := by
 rcases hy with ⟨h1, h2⟩ | h
 ·exact .inl ⟨h1, fun w hs => h2 w (hs.perm hp.symm)⟩
 ·exact .inr h
theorem Wz {tb : qp} {m : Nat} {T : Jp → Array Bool → Act → Prop} (hTp : ∀ E E' listed a, E.Perm E' → T E listed a → T E' listed a) :
  ∀ (f : Nat) (listed : Array Bool) (E E' : Jp) (a : Act), E.Perm E' → Y0 c X S ops md tb m T f listed E a → Y0 c X S ops md tb m T f listed E' a
 | 0, listed, E, E', a, hp, h => hTp _ _ _ _ hp h
 | f + 1, listed, E, E', a, hp, h => by
  refine ⟨h.1, fun i hi => ⟨(h.2 i hi).1, ?_⟩⟩
  obtain ⟨o, ho, hm⟩ := (h.2 i hi).2
  refine ⟨o, ho, ?_⟩
  cases ha : tb i with
  | quiet => rw [ha] at hm; obtain ⟨v, h1, h2⟩ := hm; exact ⟨v, h1.perm hp, Wz hTp f _ _ _ _ hp h2⟩
  | pure => rw [ha] at hm; obtain ⟨v, h1, h2⟩ := hm; exact ⟨v, h1, Wz hTp f _ _ _ _ hp h2⟩
  | grow e =>
   rw [ha] at hm
   rcases hm with ⟨h1, h2⟩ | ⟨h1, h2⟩
   ·exact .inl ⟨h1, fun x => Wz hTp f _ _ _ _ (hp.append_left _) (h2 x)⟩
   ·exact .inr ⟨h1, Wz hTp f _ _ _ _ hp h2⟩
  | turn =>
   rw [ha] at hm
   rcases hm with ⟨α, V, G, ⟨h1, h2⟩, h3⟩ | ⟨h1, h2⟩
   ·exact .inl ⟨α, V, G, ⟨h1, fun w hs => h2 w (hs.perm hp.symm)⟩, h3⟩
   ·exact .inr ⟨h1, Wz hTp f _ _ _ _ hp h2⟩
  | dep ts e =>
   rw [ha] at hm
   rcases hm with ⟨h1, h2⟩ | ⟨h1, h2⟩
   ·exact .inl ⟨h1, fun x => Wz hTp f _ _ _ _ (hp.append_left _) (h2 x)⟩
   ·exact .inr ⟨h1, Wz hTp f _ _ _ _ hp h2⟩
theorem Jyu {K : Jp → Act → Prop} {E : Jp} (hnd : ∀ (j : Nat) (o : Oper), ops[j]? = some o → KI o.op = true)
  (hs : St c E X w) (hE : SubS S E) (h : ∀ E a w', SubS S E → St c E X w' → K E a → K' a w') (hh : stB c X S ops tb i K E a) : wpOpIn (FW c.ro) 0 c.P ops Q' i K' a w := by
 obtain ⟨o, ho, hm⟩ := hh
 have no : Region.wanted o (yielded ops a.tmps) = false → K E (a.put o.dst undef) → wpOpIn (FW c.ro) 0 c.P ops Q' i K' a w := fun hw hk => by
  exact DI
 have yes : ∀ v, YQ c E X ops o v a → K E (a.put o.dst v) → wpOpIn (FW c.ro) 0 c.P ops Q' i K' a w := fun v hy hk => by
  rcases hy with ⟨hw, hq⟩ | ⟨hw, rfl⟩
  ·exact Dx
  ·exact no hw hk
 cases ha : tb i with
 | quiet => rw [ha] at hm; obtain ⟨v, h1, h2⟩ := hm; exact yes v h1 h2
 | pure => rw [ha] at hm; obtain ⟨v, h1, h2⟩ := hm; exact yes v (h1.quiet hE) h2
 | grow e =>
  rw [ha] at hm
  rcases hm with ⟨⟨hw, hr⟩, h2⟩ | ⟨hw, h2⟩
  ·exact Hu
  ·exact no hw h2
 | turn =>
  rw [ha] at hm
  rcases hm with ⟨α, V, G, ⟨hw, hr⟩, h2⟩ | ⟨hw, h2⟩
  ·exact Dj
  ·exact no hw h2
 | dep ts e =>
  rw [ha] at hm
  rcases hm with ⟨⟨hw, hr⟩, h2⟩ | ⟨hw, h2⟩
  ·exact Hu
  ·exact no hw h2
theorem Ji0 {tb : qp} {m g : Nat} {T : Jp → Array Bool → Act → Prop} {Q' : Exit → Act → World → Prop} (hnd : ∀ (j : Nat) (o : Oper), ops[j]? = some o → KI o.op = true)
  (hT : ∀ E listed a w, SubS S E → St c E X w → T E listed a → wpAnyIn (FW c.ro) 0 c.P md ops Q' g listed a w) :
  ∀ (f : Nat) (listed : Array Bool) (E : Jp) (a : Act) (w : World), SubS S E → St c E X w → Y0 c X S ops md tb m T f listed E a → wpAnyIn (FW c.ro) 0 c.P md ops Q' (f + g) listed a w
 | 0, listed, E, a, w, hE, hw, h => by rw [Nat.zero_add]; exact hT _ _ _ _ hE hw h
 | f + 1, listed, E, a, w, hE, hw, h => by
  rw [show f + 1 + g = (f + g) + 1 from by omega]
  exact ⟨fun h0 => absurd h0 h.1, fun i hi => Jyu hnd hw hE (fun E' a' w' hE' hw' h' => Ji0 hnd hT f _ E' a' w' hE' hw' h') (h.2 i hi).2⟩
def Jg3 (md : Region.Mode) (ops : Array Oper) (tb : qp) (m i : Nat) : Prop :=
 tb i = .quiet → ∀ j, j < m → tb j = .turn → ∀ listed, i ∈ Region.ready md ops listed → j ∈ Region.ready md ops listed → False
def okG (md : Region.Mode) (ops : Array Oper) (tb : qp) (i : Nat) : Nat → Array Bool → Bool
 | 0, listed => (Region.ready md ops listed).all fun j => j == i
 | f + 1, listed => (Region.ready md ops listed).all fun j => j == i || ((tb j).isGrow && okG md ops tb i f (listed.setIfInBounds j true))
theorem Jg4 (hi : ops[i]? = some oi) (hai : tb i = .quiet ∨ tb i = .pure) (hsel : ∀ (j : Nat) (o : Oper) cs b, ops[j]? = some o → o.op ≠ .select cs b)
  (hbd : Jg3 md ops tb m i) (hdep : Jlu ops tb m)
  (hlt : ∀ listed, HeadInv md ops m listed → listed.getD i true = false → ∀ j ∈ Region.ready md ops listed, j < m)
  (hT : ∀ E listed a, T E listed a → ∀ j ∈ Region.ready md ops listed, m ≤ j) :
  ∀ (f : Nat) (listed : Array Bool) (E : Jp) (a : Act), HeadInv md ops m listed →
   (∀ j oj, ops[j]? = some oj → j ≠ i → listed.getD j true = false → (∀ e ∈ oj.after, Region.binds md e = true → e.on ≠ i) → oi.apart ops oj = true) →
   SubS S E → i ∈ Region.ready md ops listed → (YQ c E X ops oi v a ∧ (tb i = .pure → YP c X S ops oi v a)) →
   Y0 c X S ops md tb m T f (listed.setIfInBounds i true) E (a.put oi.dst v) → Y0 c X S ops md tb m T (f + 1) listed E a := by
 have self : ∀ {K : Jp → Act → Prop} {E : Jp} {a : Act}, (YQ c E X ops oi v a ∧ (tb i = .pure → YP c X S ops oi v a)) → K E (a.put oi.dst v) → stB c X S ops tb i K E a := by
  intro K E a hy H
  refine ⟨oi, hi, ?_⟩
  rcases hai with h | h <;> rw [h]
  ·exact ⟨v, hy.1, H⟩
  ·exact ⟨v, hy.2 h, H⟩
 intro f
 induction f with
 | zero =>
  intro listed E a inv _ hSE hr hy H
  refine ⟨fun h => nf, fun j hj => ⟨hlt _ inv (mem_ready.1 hr).1 j hj, ?_⟩⟩
  by_cases hji : j = i
  ·subst hji; exact self hy H
  ·exact Es
 | succ f ih =>
  intro listed E a inv hfree hSE hr hy H
  refine ⟨fun h => nf, fun j hj => ?_⟩
  have hjm := hlt _ inv (mem_ready.1 hr).1 j hj
  refine ⟨hjm, ?_⟩
  by_cases hji : j = i
  ·subst hji; exact self hy H
  ·obtain ⟨oj, hoj, hm⟩ := (H.2 j (ready_mono hj hji)).2
   obtain ⟨hjun, oj', hoj', hall⟩ := mem_ready.1 hj
   rw [hoj] at hoj'
   cases hoj'
   have hnot : ∀ e ∈ oj.after, Region.binds md e = true → e.on ≠ i := fun e he hb heq => by
    have h2 := hall e he hb
    rw [heq, getD_both (mem_ready.1 hr).1] at h2
    cases h2
   obtain ⟨h1, h2, h3⟩ := Oper.apart_spec (hfree j oj hoj hji hjun hnot)
   have hfree' : ∀ k ok, ops[k]? = some ok → k ≠ i → (listed.setIfInBounds j true).getD k true = false →
     (∀ e ∈ ok.after, Region.binds md e = true → e.on ≠ i) → oi.apart ops ok = true := fun k ok hk hki hun hno => by
    refine hfree k ok hk hki ?_ hno
    by_cases hjk : j = k
    ·subst hjk; exact hjun
    ·exact Ea
   have back1 := fun u => (execOp_put oj (fun cs b => hsel j oj cs b hoj) a oi.dst u h1)
   have back2 := fun u => (wanted_put oj a oi.dst u h1)
   have forth1 := fun u => (execOp_put oi (fun cs b => hsel i oi cs b hi) a oj.dst u h3)
   have forth2 := fun u => (wanted_put oi a oj.dst u h3)
   have go : ∀ E' u, SubS S E' → (E.Sublist E' ∨ tb i = .pure) → Y0 c X S ops md tb m T f ((listed.setIfInBounds i true).setIfInBounds j true) E' ((a.put oi.dst v).put oj.dst u) →
     Y0 c X S ops md tb m T (f + 1) (listed.setIfInBounds j true) E' (a.put oj.dst u) := fun E' u hSE' hsub hK => by
    refine ih (listed.setIfInBounds j true) E' (a.put oj.dst u) (inv.set hj hjm) hfree' hSE' (ready_mono hr (Ne.symm hji)) ⟨?_, fun hp => (hy.2 hp).same (forth1 u) (forth2 u)⟩ ?_
    ·rcases hsub with hsub | hp
     ·exact (hy.1.weak hsub).same (forth1 u) (forth2 u)
     ·exact ((hy.2 hp).same (forth1 u) (forth2 u)).quiet hSE'
    ·rw [Array.setIfInBounds_comm _ _ hji, ← Act.put_comm a v u h2]
     exact hK
   refine ⟨oj, hoj, ?_⟩
   cases ha : tb j with
   | quiet => rw [ha] at hm; obtain ⟨u, g1, g2⟩ := hm; exact ⟨u, g1.same (back1 v).symm (back2 v).symm, go E u hSE (.inl (List.Sublist.refl _)) g2⟩
   | pure => rw [ha] at hm; obtain ⟨u, g1, g2⟩ := hm; exact ⟨u, g1.same (back1 v).symm (back2 v).symm, go E u hSE (.inl (List.Sublist.refl _)) g2⟩
   | grow e =>
    rw [ha] at hm
    rcases hm with ⟨g1, g2⟩ | ⟨g1, g2⟩
    ·exact HK
    ·exact GT
   | turn =>
    rw [ha] at hm
    rcases hm with ⟨α, V, G, ⟨g0, g1⟩, g2⟩ | ⟨g1, g2⟩
    ·refine .inl ⟨α, V, G, ⟨(back2 v).symm.trans g0, fun w hs => (g1 w hs).same (back1 v).symm⟩, fun x => ⟨(g2 x).1, go _ _ (g2 x).1 ?_ (g2 x).2⟩⟩
     rcases hai with hq | hp
     ·exact (hbd hq j hjm ha listed hr hj).elim
     ·exact .inr hp
    ·exact GT
   | dep ts e =>
    obtain ⟨o', ho', hm'⟩ := (vg (e := e (XS a ts)) ((yE hdep hjm hoj h1).trans M5)).1 (H.2 j (ready_mono hj hji)).2
    rw [hoj] at ho'
    cases ho'
    rcases hm' with ⟨g1, g2⟩ | ⟨g1, g2⟩
    ·exact HK
    ·exact GT
theorem Jdy (hi : ops[i]? = some oi) (hai : (tb i).isGrow = true) (hdep : Jlu ops tb m) (hsel : ∀ (j : Nat) (o : Oper) cs b, ops[j]? = some o → o.op ≠ .select cs b)
  (hlt : ∀ listed, HeadInv md ops m listed → listed.getD i true = false → ∀ j ∈ Region.ready md ops listed, j < m)
  (hT : ∀ E listed a, T E listed a → ∀ j ∈ Region.ready md ops listed, m ≤ j) :
  ∀ (f : Nat) (listed : Array Bool) (E : Jp) (a : Act), HeadInv md ops m listed →
   (∀ j oj, ops[j]? = some oj → j ≠ i → listed.getD j true = false → (∀ e ∈ oj.after, Region.binds md e = true → e.on ≠ i) → oi.apart ops oj = true) →
   SubS S E → i ∈ Region.ready md ops listed → Region.wanted oi (yielded ops a.tmps) = false →
   Y0 c X S ops md tb m T f (listed.setIfInBounds i true) E (a.put oi.dst undef) → Y0 c X S ops md tb m T (f + 1) listed E a := by
 have self : ∀ {K : Jp → Act → Prop} {E : Jp} {a : Act}, Region.wanted oi (yielded ops a.tmps) = false → K E (a.put oi.dst undef) → stB c X S ops tb i K E a := by
  intro K E a hy H
  obtain ⟨e, he⟩ := xJ a hai
  exact (vg he).2 ⟨oi, hi, .inr ⟨hy, H⟩⟩
 intro f
 induction f with
 | zero =>
  intro listed E a inv _ hSE hr hy H
  refine ⟨fun h => nf, fun j hj => ⟨hlt _ inv (mem_ready.1 hr).1 j hj, ?_⟩⟩
  by_cases hji : j = i
  ·subst hji; exact self hy H
  ·exact Es
 | succ f ih =>
  intro listed E a inv hfree hSE hr hy H
  refine ⟨fun h => nf, fun j hj => ?_⟩
  have hjm := hlt _ inv (mem_ready.1 hr).1 j hj
  refine ⟨hjm, ?_⟩
  by_cases hji : j = i
  ·subst hji; exact self hy H
  ·obtain ⟨oj, hoj, hm⟩ := (H.2 j (ready_mono hj hji)).2
   obtain ⟨hjun, oj', hoj', hall⟩ := mem_ready.1 hj
   rw [hoj] at hoj'
   cases hoj'
   have hnot : ∀ e ∈ oj.after, Region.binds md e = true → e.on ≠ i := fun e he hb heq => by
    have h2 := hall e he hb
    rw [heq, getD_both (mem_ready.1 hr).1] at h2
    cases h2
   obtain ⟨h1, h2, h3⟩ := Oper.apart_spec (hfree j oj hoj hji hjun hnot)
   have hfree' : ∀ k ok, ops[k]? = some ok → k ≠ i → (listed.setIfInBounds j true).getD k true = false →
     (∀ e ∈ ok.after, Region.binds md e = true → e.on ≠ i) → oi.apart ops ok = true := fun k ok hk hki hun hno => by
    refine hfree k ok hk hki ?_ hno
    by_cases hjk : j = k
    ·subst hjk; exact hjun
    ·exact Ea
   have back1 := fun u => (execOp_put oj (fun cs b => hsel j oj cs b hoj) a oi.dst u h1)
   have back2 := fun u => (wanted_put oj a oi.dst u h1)
   have forth1 := fun u => (execOp_put oi (fun cs b => hsel i oi cs b hi) a oj.dst u h3)
   have forth2 := fun u => (wanted_put oi a oj.dst u h3)
   have go : ∀ E' u, SubS S E' → Y0 c X S ops md tb m T f ((listed.setIfInBounds i true).setIfInBounds j true) E' ((a.put oi.dst undef).put oj.dst u) →
     Y0 c X S ops md tb m T (f + 1) (listed.setIfInBounds j true) E' (a.put oj.dst u) := fun E' u hSE' hK => by
    refine ih (listed.setIfInBounds j true) E' (a.put oj.dst u) (inv.set hj hjm) hfree' hSE' (ready_mono hr (Ne.symm hji)) ((forth2 u).trans hy) ?_
    rw [Array.setIfInBounds_comm _ _ hji, ← Act.put_comm a undef u h2]
    exact hK
   refine ⟨oj, hoj, ?_⟩
   cases ha : tb j with
   | quiet => rw [ha] at hm; obtain ⟨u, g1, g2⟩ := hm; exact ⟨u, g1.same (back1 undef).symm (back2 undef).symm, go E u hSE g2⟩
   | pure => rw [ha] at hm; obtain ⟨u, g1, g2⟩ := hm; exact ⟨u, g1.same (back1 undef).symm (back2 undef).symm, go E u hSE g2⟩
   | grow e =>
    rw [ha] at hm
    rcases hm with ⟨g1, g2⟩ | ⟨g1, g2⟩
    ·exact DG
    ·exact HZ
   | turn =>
    rw [ha] at hm
    rcases hm with ⟨α, V, G, ⟨g0, g1⟩, g2⟩ | ⟨g1, g2⟩
    ·exact .inl ⟨α, V, G, ⟨(back2 undef).symm.trans g0, fun w hs => (g1 w hs).same (back1 undef).symm⟩, fun x => ⟨(g2 x).1, go _ _ (g2 x).1 (g2 x).2⟩⟩
    ·exact HZ
   | dep ts e =>
    obtain ⟨o', ho', hm'⟩ := (vg (e := e (XS a ts)) ((yE hdep hjm hoj h1).trans M5)).1 (H.2 j (ready_mono hj hji)).2
    rw [hoj] at ho'
    cases ho'
    rcases hm' with ⟨g1, g2⟩ | ⟨g1, g2⟩
    ·exact DG
    ·exact HZ
theorem xK {ei : GE} (hi : ops[i]? = some oi) (him : i < m) (hdep : Jlu ops tb m) (hsel : ∀ (j : Nat) (o : Oper) cs b, ops[j]? = some o → o.op ≠ .select cs b)
  (hTp : ∀ E E' listed a, E.Perm E' → T E listed a → T E' listed a)
  (hlt : ∀ listed, HeadInv md ops m listed → listed.getD i true = false → ∀ j ∈ Region.ready md ops listed, j < m)
  (hT : ∀ E listed a, T E listed a → ∀ j ∈ Region.ready md ops listed, m ≤ j) :
  ∀ (f : Nat) (listed : Array Bool) (E : Jp) (a : Act), HeadInv md ops m listed →
   (∀ j oj, ops[j]? = some oj → j ≠ i → listed.getD j true = false → (∀ e ∈ oj.after, Region.binds md e = true → e.on ≠ i) → oi.apart ops oj = true) →
   SubS S E → (tb i).ge a = some ei → i ∈ Region.ready md ops listed → okG md ops tb i f listed = true → YG c X S ops oi ei a →
   (∀ x, Y0 c X S ops md tb m T f (listed.setIfInBounds i true) (ei.LL x ++ E) (a.put oi.dst (ei.V x))) → Y0 c X S ops md tb m T (f + 1) listed E a := by
 have self : ∀ {K : Jp → Act → Prop} {E : Jp} {a : Act}, (tb i).ge a = some ei → YG c X S ops oi ei a → (∀ x, K (ei.LL x ++ E) (a.put oi.dst (ei.V x))) → stB c X S ops tb i K E a := by
  intro K E a hai hy H
  exact (vg hai).2 ⟨oi, hi, .inl ⟨hy, H⟩⟩
 intro f
 induction f with
 | zero =>
  intro listed E a inv _ hSE hai hr hok hy H
  refine ⟨fun h => nf, fun j hj => ⟨hlt _ inv (mem_ready.1 hr).1 j hj, ?_⟩⟩
  by_cases hji : j = i
  ·subst hji; exact self hai hy H
  ·have h1 := hT _ _ _ (H ei.x0) j (ready_mono hj hji)
   have h2 := hlt _ inv (mem_ready.1 hr).1 j hj
   omega
 | succ f ih =>
  intro listed E a inv hfree hSE hai hr hok hy H
  refine ⟨fun h => nf, fun j hj => ?_⟩
  have hjm := hlt _ inv (mem_ready.1 hr).1 j hj
  refine ⟨hjm, ?_⟩
  by_cases hji : j = i
  ·subst hji; exact self hai hy H
  ·unfold okG at hok
   have hokj := List.all_eq_true.1 hok j hj
   simp only [Bool.or_eq_true, beq_iff_eq, hji, false_or, Bool.and_eq_true] at hokj
   obtain ⟨hgj, hok'⟩ := hokj
   obtain ⟨ej, ha⟩ := xJ a hgj
   obtain ⟨hjun, oj, hoj, hall⟩ := mem_ready.1 hj
   have hnot : ∀ e ∈ oj.after, Region.binds md e = true → e.on ≠ i := fun e he hb heq => by
    have h2 := hall e he hb
    rw [heq, getD_both (mem_ready.1 hr).1] at h2
    cases h2
   obtain ⟨h1, h2, h3⟩ := Oper.apart_spec (hfree j oj hoj hji hjun hnot)
   have hfree' : ∀ k ok, ops[k]? = some ok → k ≠ i → (listed.setIfInBounds j true).getD k true = false →
     (∀ e ∈ ok.after, Region.binds md e = true → e.on ≠ i) → oi.apart ops ok = true := fun k ok hk hki hun hno => by
    refine hfree k ok hk hki ?_ hno
    by_cases hjk : j = k
    ·subst hjk; exact hjun
    ·exact Ea
   have back1 := fun u => (execOp_put oj (fun cs b => hsel j oj cs b hoj) a oi.dst u h1)
   have back2 := fun u => (wanted_put oj a oi.dst u h1)
   have forth1 := fun u => (execOp_put oi (fun cs b => hsel i oi cs b hi) a oj.dst u h3)
   have forth2 := fun u => (wanted_put oi a oj.dst u h3)
   have hstep : ∀ x, (YG c X S ops oj ej (a.put oi.dst (ei.V x)) ∧ ∀ y, Y0 c X S ops md tb m T f ((listed.setIfInBounds i true).setIfInBounds j true) (ej.LL y ++ (ei.LL x ++ E)) ((a.put oi.dst (ei.V x)).put oj.dst (ej.V y))) ∨
     (Region.wanted oj (yielded ops (a.put oi.dst (ei.V x)).tmps) = false ∧ Y0 c X S ops md tb m T f ((listed.setIfInBounds i true).setIfInBounds j true) (ei.LL x ++ E) ((a.put oi.dst (ei.V x)).put oj.dst undef)) := fun x => by
    obtain ⟨o', ho', hm⟩ := (vg ((yE hdep hjm hoj h1).trans ha)).1 ((H x).2 j (ready_mono hj hji)).2
    rw [hoj] at ho'
    cases ho'
    exact hm
   refine (vg ha).2 ⟨oj, hoj, ?_⟩
   cases hw : Region.wanted oj (yielded ops a.tmps) with
   | true =>
    have hpos : ∀ x, YG c X S ops oj ej (a.put oi.dst (ei.V x)) ∧ ∀ y, Y0 c X S ops md tb m T f ((listed.setIfInBounds i true).setIfInBounds j true) (ej.LL y ++ (ei.LL x ++ E)) ((a.put oi.dst (ei.V x)).put oj.dst (ej.V y)) := fun x => by
     rcases hstep x with h | h
     ·exact h
     ·have := (back2 (ei.V x)).symm.trans h.1; rw [hw] at this; cases this
    refine .inl ⟨(hpos ei.x0).1.same (back1 _).symm (back2 _).symm, fun y => ?_⟩
    refine ih (listed.setIfInBounds j true) (ej.LL y ++ E) (a.put oj.dst (ej.V y)) (inv.set hj hjm) hfree' hSE.grow ((yE hdep him hi h3).trans hai) (ready_mono hr (Ne.symm hji)) hok' (hy.same (forth1 _) (forth2 _)) fun x => ?_
    rw [Array.setIfInBounds_comm _ _ hji, ← Act.put_comm a _ _ h2]
    refine Wz hTp f _ _ _ _ ?_ ((hpos x).2 y)
    rw [← List.append_assoc, ← List.append_assoc]
    exact List.Perm.append_right _ List.perm_append_comm
   | false =>
    have hneg : ∀ x, Y0 c X S ops md tb m T f ((listed.setIfInBounds i true).setIfInBounds j true) (ei.LL x ++ E) ((a.put oi.dst (ei.V x)).put oj.dst undef) := fun x => by
     rcases hstep x with h | h
     ·have := (back2 (ei.V x)).symm.trans h.1.1; rw [hw] at this; cases this
     ·exact h.2
    refine .inr ⟨rfl, ?_⟩
    refine ih (listed.setIfInBounds j true) E (a.put oj.dst undef) (inv.set hj hjm) hfree' hSE ((yE hdep him hi h3).trans hai) (ready_mono hr (Ne.symm hji)) hok' (hy.same (forth1 _) (forth2 _)) fun x => ?_
    rw [Array.setIfInBounds_comm _ _ hji, ← Act.put_comm a _ _ h2]
    exact hneg x
def Jg5 (c : Cx) (X : XP) (S : Jp) (ops : Array Oper) (tb : qp) (T : Jp → Act → Prop) : List Nat → Jp → Act → Prop
 | [], E, a => T E a
 | k :: rest, E, a => stB c X S ops tb k (fun E' a' => Jg5 c X S ops tb T rest E' a') E a
def Jo2 (md : Region.Mode) (ops : Array Oper) (tb : qp) (m g : Nat) : List Nat → Array Bool → Bool
  | [], listed => Region.seqB md ops g m listed
  | k :: r, listed => Nat.blt k m && (match (tb k).isTurn with
      | true => decide (Region.ready md ops listed = [k])
      | false => (Region.ready md ops listed).contains k && Region.free md ops listed k && (!(tb k).isGrow || okG md ops tb k r.length listed)) && Jo2 md ops tb m g r (listed.setIfInBounds k true)
theorem Jdz {tb : qp} {m g : Nat} {T : Jp → Act → Prop} (hsel : Region.noSelect ops = true) (hTp : ∀ E E' a, E.Perm E' → T E a → T E' a) (hbd : ∀ i, i < m → Jg3 md ops tb m i) (hdep : Jlu ops tb m) (hlt : ∀ i, i < m → ∀ listed, HeadInv md ops m listed → listed.getD i true = false → ∀ j ∈ Region.ready md ops listed, j < m)
  (hseq : ∀ listed, Region.seqB md ops g m listed = true → ∀ j ∈ Region.ready md ops listed, m ≤ j) :
  ∀ (l : List Nat) (listed : Array Bool) (E : Jp) (a : Act), HeadInv md ops m listed → SubS S E →
  Jo2 md ops tb m g l listed = true → Jg5 c X S ops tb T l E a →
  Y0 c X S ops md tb m (fun E' listed' a' => Region.seqB md ops g m listed' = true ∧ T E' a') l.length listed E a
 | [], listed, E, a, _, _, hB, h => ⟨by simpa [Jo2] using hB, h⟩
 | k :: l, listed, E, a, inv, hSE, hB, h => by
  simp only [Jo2, Bool.and_eq_true] at hB
  obtain ⟨⟨hkm, hr⟩, hB'⟩ := hB
  have hkm : k < m := by
   have : k + 1 ≤ m := Nat.le_of_ble_eq_true hkm
   omega
  have hr' : k ∈ Region.ready md ops listed := by
   cases ht : (tb k).isTurn with
   | true => rw [ht] at hr; simp only [decide_eq_true_eq] at hr; rw [hr]; exact List.mem_cons_self
   | false => rw [ht] at hr; simp only [Bool.and_eq_true] at hr; simpa using hr.1.1
  have next : ∀ E' a', SubS S E' → Jg5 c X S ops tb T l E' a' → Y0 c X S ops md tb m (fun E' listed' a' => Region.seqB md ops g m listed' = true ∧ T E' a') l.length (listed.setIfInBounds k true) E' a' := fun E' a' hSE' hw =>
   Jdz hsel hTp hbd hdep hlt hseq l _ E' a' (inv.set hr' hkm) hSE' hB' hw
  obtain ⟨o, h0, hm⟩ := h
  have quiet : (tb k).isTurn = false → ∀ v, (tb k = .quiet ∨ tb k = .pure) → (YQ c E X ops o v a ∧ (tb k = .pure → YP c X S ops o v a)) → Jg5 c X S ops tb T l E (a.put o.dst v) →
    Y0 c X S ops md tb m (fun E' listed' a' => Region.seqB md ops g m listed' = true ∧ T E' a') (l.length + 1) listed E a := fun hnt v hai hy hw => by
   rw [hnt] at hr
   simp only [Bool.and_eq_true] at hr
   exact Jg4 h0 hai (Region.noSelect_spec hsel) (hbd k hkm) hdep (hlt k hkm) (fun E' listed' a' hL => hseq _ hL.1) l.length listed E a inv (Region.free_spec h0 hr.1.2) hSE hr' hy (next _ _ hSE hw)
  cases ha : tb k with
  | quiet => rw [ha] at hm; obtain ⟨v, hy, hw⟩ := hm; exact quiet M5 v (.inl ha) ⟨hy, fun e => by rw [ha] at e; cases e⟩ hw
  | pure => rw [ha] at hm; obtain ⟨v, hy, hw⟩ := hm; exact quiet M5 v (.inr ha) ⟨hy.quiet hSE, fun _ => hy⟩ hw
  | grow e =>
   rw [ha] at hm hr
   simp only [Kb.isTurn, Kb.isGrow, Bool.not_true, Bool.false_or, Bool.and_eq_true] at hr
   rcases hm with ⟨h1, h2⟩ | ⟨h1, h2⟩
   ·exact gI
   ·exact GF
  | dep ts e =>
   rw [ha] at hm hr
   simp only [Kb.isTurn, Kb.isGrow, Bool.not_true, Bool.false_or, Bool.and_eq_true] at hr
   rcases hm with ⟨h1, h2⟩ | ⟨h1, h2⟩
   ·exact gI
   ·exact GF
  | turn =>
   rw [ha] at hm hr
   simp only [Kb.isTurn, decide_eq_true_eq] at hr
   refine ⟨fun e => (by rw [e] at hr'; cases hr'), fun i hi => ?_⟩
   rw [hr] at hi
   have hik : i = k := by simpa using hi
   subst hik
   refine ⟨hkm, o, h0, ?_⟩
   rw [ha]
   rcases hm with ⟨α, V, G, h1, h2⟩ | ⟨h1, h2⟩
   ·exact .inl ⟨α, V, G, h1, fun x => ⟨(h2 x).1, next _ _ (h2 x).1 (h2 x).2⟩⟩
   ·exact .inr ⟨h1, next _ _ hSE h2⟩
def Jg6 : List (Nat × Kb) → qp
 | [], _ => .quiet
 | (j, p) :: r, k => match Nat.beq k j with | true => p | false => Jg6 r k
def Ji1 (md : Region.Mode) (ops : Array Oper) (tb : qp) (m : Nat) : Bool :=
 (List.range m).all fun j => if (tb j).isTurn then (List.range m).all fun i => !(tb i).isQuiet || onB md ops j i || onB md ops i j else true
theorem Jbh (h : Ji1 md ops tb m = true) (hi : i < m) : Jg3 md ops tb m i := fun hq j hj he listed hir hjr => by
 have h1 := List.all_eq_true.1 h j (List.mem_range.2 hj)
 rw [he] at h1
 simp only [Kb.isTurn, if_true] at h1
 have h2 := List.all_eq_true.1 h1 i (List.mem_range.2 hi)
 rw [hq] at h2
 simp only [Kb.isQuiet, Bool.not_true, Bool.false_or, Bool.or_eq_true] at h2
 rcases h2 with h2 | h2
 ·exact Ja8 h2 hjr hir
 ·exact Ja8 h2 hir hjr
end
section
variable {c : Cx} {l : Kx} {L E : Jp} {X : XP} {Q : Exit → Act → World → Prop} {d : List Deferred}
variable {ops : Array Oper} {rest : List Nat} {i k : Nat} {v : Value} {o : Oper} {tb : qp} {S : Jp} {T : Jp → Act → Prop}
def HB (c : Cx) (d : List Deferred) (l : Kx) (E : Jp) (X : XP) (S : Jp) (ops : Array Oper) (tb : qp) (rest : List Nat) (T : Jp → Act → Prop) : Prop :=
 ∀ a, Fr c.n d l a → Jg5 c X S ops tb T rest E a
def J01 (ops : Array Oper) (tb : qp) (m : Nat) : Bool :=
 (List.range m).all fun j => match tb j with
  | .dep ts _ => match ops[j]? with
   | some o => ts.all fun t => (o.looksAt ops).contains t
   | none => true
  | _ => true
theorem Jlw (h : J01 ops tb m = true) : Jlu ops tb m := fun j hj o ho ts e ht t hm => by
 have h1 := List.all_eq_true.1 h j (List.mem_range.2 hj)
 rw [ht] at h1
 simp only [ho] at h1
 simpa using List.all_eq_true.1 h1 t hm
def Jo3 (ops : List Oper) (tb : qp) (m : Nat) (order : List Nat) : Bool :=
 (ops.all fun o => KI o.op) && Region.noSelect ops.toArray && Nat.ble m ops.length && Nat.beq order.length m &&
 (Nat.beq m ops.length || (Region.sinkB .any ops.toArray m && Region.chainB .any ops.toArray m)) && Ji1 .any ops.toArray tb m && J01 ops.toArray tb m &&
 Jo2 .any ops.toArray tb m (ops.length - m) order (Array.replicate ops.length false)
theorem JD {ops : List Oper} (S : Jp) (tab : List (Nat × Kb)) (m : Nat) (order : List Nat) (hm : c.P.follows .mixedOrders = true) (hB : Jo3 ops (Jg6 tab) m order = true) (hSL : SubS S L)
  (h : HB c d l L X S ops.toArray (Jg6 tab) order (fun E a' => ∀ w, St c E X w → wpListIn (FW c.ro) 0 c.P ops.toArray Q (ops.drop m) a' w)) : HC c d l L X (.region id ops.toArray true) Q := fun a w hf hs => by
 simp only [Jo3, Bool.and_eq_true, Bool.or_eq_true] at hB
 obtain ⟨⟨⟨⟨⟨⟨⟨h1, hsel⟩, hle⟩, hol⟩, hsc⟩, hcr⟩, hdp⟩, hlex⟩ := hB
 have hle' := Nat.le_of_ble_eq_true hle
 have hol' := Nat.eq_of_beq_eq_true hol
 have hnd : ∀ (j : Nat) (o : Oper), ops.toArray[j]? = some o → KI o.op = true := fun j o ho => List.all_eq_true.1 h1 o (List.mem_of_getElem? Nf)
 have hdl : (ops.drop m).length = ops.length - m := by simp
 have hlt : ∀ i, i < m → ∀ listed, HeadInv .any ops.toArray m listed → listed.getD i true = false → ∀ j ∈ Region.ready .any ops.toArray listed, j < m := by
  intro i hi listed inv hun j hj
  rcases Nat.lt_or_ge j m with hjm | hjm
  exact hjm
  have hjs : j < ops.length := by obtain ⟨_, oj, hoj, _⟩ := mem_ready.1 hj; simpa using (Array.getElem?_eq_some_iff.1 hoj).1
  rcases hsc with h0 | ⟨h2, h3⟩
  exact EN
  exact D1
 have inv0 : HeadInv .any ops.toArray m (Array.replicate ops.length false) :=
  ⟨by simp, fun j oj _ hl => MA, fun t _ ht => getD_in Ng (getD_replicate_false _ _)⟩
 have H := Jdz (c := c) (X := X) (md := .any) (g := ops.length - m) hsel (fun E E' a hp hT w hs => hT w (hs.perm hp.symm)) (fun i hi => Jbh hcr hi) (Jlw hdp) hlt (fun listed hq => seqB_ready hq) order _ L a inv0 hSL hlex (h a hf)
 refine wpIn_region_any hm ?_
 have := Ji0 (Q' := Q) (g := ops.length - m) hnd (fun E' listed a' w' _ hw' hL => by
  have := X8 (ro := c.ro) (P := c.P) (md := .any) (Q' := Q) (ops.drop m) m listed a' w' (fun j => by simp [List.getElem?_drop]) Nj (hL.2 w' hw')
  rwa [hdl] at this) _ _ _ _ _ hSL MX H
 rw [hol', show m + (ops.length - m) = ops.toArray.size from by simp; omega] at this
 simpa using this
theorem Kc (h : HL c d l E X ops tail Q) : HB c d l E X S ops tb [] (fun E' a' => ∀ w, St c E' X w → wpListIn (FW c.ro) 0 c.P ops Q tail a' w) :=
 fun a hf w hs => h a w hf hs
theorem JY (hk : WR ops.toList k = some o) (hg : Kv l ops o = some true) (hd : o.dst = some i) (hi : Nat.ble (i + 1) c.n = true) (hA : tb k = .quiet) (hr : JC c d l E X o v) (h : HB c d ((i, v) :: l) E X S ops tb rest T) : HB c d l E X S ops tb (k :: rest) T := fun a hf => by
 refine ⟨o, QX hk, ?_⟩
 rw [hA]
 refine ⟨v, .inl ⟨JH hf hg, fun w hs => Yn (hr a w hf hs) ⟨rfl, Keep.refl _ _⟩⟩, ?_⟩
 rw [hd]; exact h _ (hf.put (Nat.le_of_ble_eq_true hi))
theorem Jk (hk : WR ops.toList k = some o) (hg : Kv l ops o = some true) (hd : o.dst = some i) (hi : Nat.ble (i + 1) c.n = true) (hA : tb k = .pure) (hr : ∀ E', SubS S E' → JC c d l E' X o v) (h : HB c d ((i, v) :: l) E X S ops tb rest T) : HB c d l E X S ops tb (k :: rest) T := fun a hf => by
 refine ⟨o, QX hk, ?_⟩
 rw [hA]
 refine ⟨v, .inl ⟨JH hf hg, fun E' hE' w hs => Yn (hr E' hE' a w hf hs) ⟨rfl, Keep.refl _ _⟩⟩, ?_⟩
 rw [hd]; exact h _ (hf.put (Nat.le_of_ble_eq_true hi))
theorem wH (hk : WR ops.toList k = some o) (hg : Kv l ops o = some false) (hd : o.dst = some i) (hi : Nat.ble (i + 1) c.n = true) (h : HB c d ((i, undef) :: l) E X S ops tb rest T) : HB c d l E X S ops tb (k :: rest) T := fun a hf => by
 refine ⟨o, QX hk, ?_⟩
 have hw := JH hf hg
 have hn : Jg5 c X S ops tb T rest E (a.put o.dst undef) := by rw [hd]; exact h _ (hf.put (Nat.le_of_ble_eq_true hi))
 cases tb k with
 | quiet => exact ⟨undef, .inr ⟨hw, rfl⟩, hn⟩
 | pure => exact ⟨undef, .inr ⟨hw, rfl⟩, hn⟩
 | grow e => exact .inr ⟨hw, hn⟩
 | turn => exact .inr ⟨hw, hn⟩
 | dep ts e => exact .inr ⟨hw, hn⟩
theorem Juq (t : Nat) (ht : V7 l t = some (.bool b)) (h1 : b = true → HB c d ((t, .bool true) :: l) E X S ops tb rest T) (h0 : b = false → HB c d ((t, .bool false) :: l) E X S ops tb rest T) : HB c d l E X S ops tb rest T := fun a hf => by
 cases hb : b with
 | true => exact h1 hb a (wz hf ht hb.symm)
 | false => exact h0 hb a (wz hf ht hb.symm)
theorem Qw (e : v = v') (h : HB c d ((i, v') :: l) E X S ops tb rest T) : HB c d ((i, v) :: l) E X S ops tb rest T := e ▸ h
theorem Vi
  (hk : WR ops.toList k = some ⟨some i, .call ⟨.value f, args, at_⟩, ty, ps, af, gd⟩) (hg : Kv l ops ⟨some i, .call ⟨.value f, args, at_⟩, ty, ps, af, gd⟩ = some true) (hi : Nat.ble (i + 1) c.n = true) (hA : tb k = .pure) (hca : KT l f args = some (g, vs)) (eg : Enters c.P g)
  (hp : Pure c.P g vs.toArray v) (h : HB c d ((i, v) :: l) E X S ops tb rest T) : HB c d l E X S ops tb (k :: rest) T := fun a hf => by
 refine ⟨_, QX hk, ?_⟩
 rw [hA]
 exact ⟨v, .inl ⟨JH hf hg, fun _ _ w _ => XN hf hca eg ((hp.run w).mono fun _ _ ⟨he, hk⟩ => ⟨v, he, rfl, hk⟩)⟩, h _ (hf.put (Nat.le_of_ble_eq_true hi))⟩
theorem JU
  (hk : WR ops.toList k = some ⟨some i, .call ⟨.value f, args, at_⟩, ty, ps, af, gd⟩) (hg : Kv l ops ⟨some i, .call ⟨.value f, args, at_⟩, ty, ps, af, gd⟩ = some true) (hi : Nat.ble (i + 1) c.n = true) (hA : tb k = .quiet) (hca : KT l f args = some (g, vs)) (eg : Enters c.P g)
  (hp : PureR c.P g vs.toArray v Rl) (hR : ∀ p ∈ Rl, known c E p.1 p.2) (h : HB c d ((i, v) :: l) E X S ops tb rest T) : HB c d l E X S ops tb (k :: rest) T := fun a hf => by
 refine ⟨_, QX hk, ?_⟩
 rw [hA]
 exact ⟨v, .inl ⟨JH hf hg, fun w hs => XN hf hca eg ((hp.run w fun p hp => hs.known (hR p hp)).mono fun _ _ ⟨he, hk⟩ => ⟨v, he, rfl, hk⟩)⟩, h _ (hf.put (Nat.le_of_ble_eq_true hi))⟩
def VS (V : Nat → Value) (ob : Obj) : GE := ⟨Nat, V, fun r => [(r, ob)], 0⟩
def KA {α : Type} (x0 : α) (V : α → Value) (LL : α → Jp) : GE := ⟨α, V, LL, x0⟩
theorem Jbi {e : GE} (hk : WR ops.toList k = some o) (hg : Kv l ops o = some true) (hd : o.dst = some i) (hi : Nat.ble (i + 1) c.n = true) (hA : tb k = .grow e) (hr : ∀ E', SubS S E' → ∀ a w, Fr c.n d l a → St c E' X w → actAt c o a w fun u w' => ∃ x, u = e.V x ∧ Jo1 (e.LL x) w w')
  (h : ∀ x, HB c d ((i, e.V x) :: l) (e.LL x ++ E) X S ops tb rest T) : HB c d l E X S ops tb (k :: rest) T := fun a hf => by
 refine ⟨o, QX hk, ?_⟩
 rw [hA]
 refine .inl ⟨⟨JH hf hg, fun E' hE' w hs => hr E' hE' a w hf hs⟩, fun x => ?_⟩
 rw [hd]; exact h x _ (hf.put (Nat.le_of_ble_eq_true hi))
def Zg (l : Kx) : List Nat → Option (List Value)
 | [] => some []
 | t :: ts => match V7 l t, Zg l ts with
  | some v, some r => some (v :: r)
  | _, _ => none
theorem qq {n : Nat} {a : Act} (hf : Fr n d l a) : ∀ {ts : List Nat} {vs : List Value}, Zg l ts = some vs → XS a ts = vs
 | [], vs, h => by cases h; rfl
 | t :: ts, vs, h => by
  unfold Zg at h
  cases h1 : V7 l t with
  | none => rw [h1] at h; cases h
  | some v =>
   cases h2 : Zg l ts with
   | none => rw [h1, h2] at h; cases h
   | some r =>
    rw [h1, h2] at h
    cases h
    show a.eval (.tmp t) :: XS a ts = v :: r
    rw [qq hf h2, hf.eval (x := .tmp t) (v := v) h1]
theorem Jyv {e : List Value → GE} {e0 : GE} (hk : WR ops.toList k = some o) (hg : Kv l ops o = some true) (hd : o.dst = some i) (hi : Nat.ble (i + 1) c.n = true) (hA : tb k = .dep ts e) (hv : Zg l ts = some vs) (he : e vs = e0) (hr : ∀ E', SubS S E' → ∀ a w, Fr c.n d l a → St c E' X w → actAt c o a w fun u w' => ∃ x, u = e0.V x ∧ Jo1 (e0.LL x) w w')
  (h : ∀ x, HB c d ((i, e0.V x) :: l) (e0.LL x ++ E) X S ops tb rest T) : HB c d l E X S ops tb (k :: rest) T := fun a hf => by
 refine ⟨o, QX hk, ?_⟩
 rw [hA]
 subst he
 show (YG c X S ops o (e (XS a ts)) a ∧ ∀ x, Jg5 c X S ops tb T rest ((e (XS a ts)).LL x ++ E) (a.put o.dst ((e (XS a ts)).V x))) ∨ _
 rw [qq hf hv]
 refine .inl ⟨⟨JH hf hg, fun E' hE' w hs => hr E' hE' a w hf hs⟩, fun x => ?_⟩
 rw [hd]; exact h x _ (hf.put (Nat.le_of_ble_eq_true hi))
theorem Jo4 {V : Nat → Value} (hk : WR ops.toList k = some o) (hg : Kv l ops o = some true) (hd : o.dst = some i) (hi : Nat.ble (i + 1) c.n = true) (hA : tb k = .grow (VS V ob)) (hr : ∀ a w, Fr c.n d l a → (execOp a.eval o).run c.P w = .ok (.value (V w.heap.size)) (w.alloc ob))
  (h : ∀ r, HB c d ((i, V r) :: l) ((r, ob) :: E) X S ops tb rest T) : HB c d l E X S ops tb (k :: rest) T :=
 Jbi (e := VS V ob) hk hg hd hi hA (fun E' _ a w hf hs => Yn (hr a w hf) ⟨w.heap.size, rfl, Keep.alloc ob, fun p hp => by rw [List.mem_singleton.1 hp]; exact ⟨Nat.le_refl _, (MapKept.heap_alloc w _).1⟩, List.pairwise_singleton _ _⟩) h
theorem Jur {e : List Value → GE} {V : Nat → Value} (hk : WR ops.toList k = some o) (hg : Kv l ops o = some true) (hd : o.dst = some i) (hi : Nat.ble (i + 1) c.n = true) (hA : tb k = .dep ts e) (hv : Zg l ts = some vs) (he : e vs = VS V ob) (hr : ∀ a w, Fr c.n d l a → (execOp a.eval o).run c.P w = .ok (.value (V w.heap.size)) (w.alloc ob))
  (h : ∀ r, HB c d ((i, V r) :: l) ((r, ob) :: E) X S ops tb rest T) : HB c d l E X S ops tb (k :: rest) T :=
 Jyv (e0 := VS V ob) hk hg hd hi hA hv he (fun E' _ a w hf hs => Yn (hr a w hf) ⟨w.heap.size, rfl, Keep.alloc ob, fun p hp => by rw [List.mem_singleton.1 hp]; exact ⟨Nat.le_refl _, (MapKept.heap_alloc w _).1⟩, List.pairwise_singleton _ _⟩) h
theorem Qe {ev : List Value → GE} {dv : List Value} {n e : Nat} {vs : Kx} {r : List Value} (hk : WR ops.toList k = some ⟨some i, .buildSlice t n pa.toArray, ty, ps, af, gd⟩) (hg : Kv l ops ⟨some i, .buildSlice t n pa.toArray, ty, ps, af, gd⟩ = some true) (hi : Nat.ble (i + 1) c.n = true)
  (hA : tb k = .dep ts ev) (hv : Zg l ts = some dv) (he : ev dv = VS (slV n) (.cells r.toArray e (0, 0)))
  (hp : Xf l pa = some vs) (ht : Kw c.P t = some e) (hz : QL c.P e = some z) (hs : KZ c.P e = some sz) (hzs : z.cells.size = sz) (hb : Nat.ble (n * sz) 16777216 = true) (h0 : Nat.ble 1 (n * sz) = true)
  (hmk : (madeCells z.cells (n * sz)).toList = zs) (hf : Zx (fun i => some (i * sz, sz)) zs (QM vs) = some r)
  (h : ∀ q, HB c d ((i, .slice (some ⟨q, 0, none⟩) n n) :: l) ((q, .cells r.toArray e (0, 0)) :: E) X S ops tb rest T) : HB c d l E X S ops tb (k :: rest) T :=
 Jur (V := slV n) hk hg rfl hi hA hv he (fun a w hfr => by
  have h1 := V3 hfr hp
  have h2 : (pa.toArray.map fun (p : Nat × Operand) => (p.1, a.eval p.2)) = vs.toArray := by
   apply Array.toList_inj.1; rw [Array.toList_map]; simpa using h1
  rw [QI] at hf
  subst hmk
  have h3 := VO ht hz hs hzs (Nat.le_of_ble_eq_true hb) (Nat.le_of_ble_eq_true h0) hf w
  rw [← h2] at h3
  refine Hd ?_
  have h4 : (Instr.buildSlice t n (pa.toArray.map fun (i, x) => (i, a.eval x))).run c.P w = .ok (.slice (some ⟨w.heap.size, 0, none⟩) n n) (w.alloc (.cells r.toArray e)) := h3
  rw [h4]; rfl) h
def jF (n e : Nat) (vs : List Value) : GE := VS (slV n) (.cells (vs.flatMap fun v => v.cells.toList).toArray e (0, 0))
theorem XU (hk : WR ops.toList k = some ⟨some i, .alloc t, ty, ps, af, gd⟩) (hg : Kv l ops ⟨some i, .alloc t, ty, ps, af, gd⟩ = some true) (hi : Nat.ble (i + 1) c.n = true) (hA : tb k = .grow (VS xo (.cells cs t (0, 0)))) (hz : QL c.P t = some z) (hc : z.cells = cs)
  (h : ∀ r, HB c d ((i, .pointer (some ⟨r, 0, none⟩)) :: l) ((r, .cells cs t (0, 0)) :: E) X S ops tb rest T) : HB c d l E X S ops tb (k :: rest) T :=
 Jo4 (V := xo) hk hg rfl hi hA (fun a w hf => by simp [execOp, Instr.alloc, Sem.run_bind, XK hz, Result.andThen, newVar, newRow, hc, xo]) h
theorem YE
  (hk : WR ops.toList k = some ⟨some i, .call ⟨.value f, args, at_⟩, ty, ps, af, gd⟩) (hg : Kv l ops ⟨some i, .call ⟨.value f, args, at_⟩, ty, ps, af, gd⟩ = some true) (hi : Nat.ble (i + 1) c.n = true) (hA : tb k = .grow (KA x0 V LL)) (hca : KT l f args = some (g, vs)) (eg : Enters c.P g)
  (hp : PureE c.P g vs.toArray V LL) (h : ∀ x, HB c d ((i, V x) :: l) (LL x ++ E) X S ops tb rest T) : HB c d l E X S ops tb (k :: rest) T :=
 Jbi (e := KA x0 V LL) hk hg rfl hi hA (fun E' _ a w hf hs => XN hf hca eg ((hp.run w).mono fun _ _ ⟨x, he, hk, h1, h2⟩ => ⟨V x, he, x, rfl, hk, h1, h2⟩)) h
theorem yF (hk : WR ops.toList k = some o) (hg : Kv l ops o = some true) (hd : o.dst = none) (hA : tb k = .turn) (hr : ∀ a w, Fr c.n d l a → St c E X w → ∃ w', (execOp a.eval o).run c.P w = .ok .skip w' ∧ St c E' X w') (hS : SubS S E')
  (h : HB c d l E' X S ops tb rest T) : HB c d l E X S ops tb (k :: rest) T := fun a hf => by
 refine ⟨o, QX hk, ?_⟩
 rw [hA]
 refine .inl ⟨Unit, fun _ => undef, fun _ => E', ⟨JH hf hg, fun w hs => ?_⟩, fun _ => ⟨hS, ?_⟩⟩
 ·obtain ⟨w', h1, h2⟩ := hr a w hf hs
  exact Joe h1 ⟨(), rfl, h2⟩
 ·rw [hd]; exact h _ hf
theorem vP  {n : Nat} (hko : WR ops.toList k = some ⟨none, .store t x y, ty, ps, af, gd⟩) (hg : Kv l ops ⟨none, .store t x y, ty, ps, af, gd⟩ = some true) (hA : tb k = .turn)
  (hx : Kq l x = some (.pointer (some ⟨r, 0, none⟩))) (hk : E[q]? = some (r, .cells cs e (0, 0))) (hy : Kq l y = some (.agg ys.toArray)) (ht : KZ c.P t = some n) (hn : ys.length = n) (hcz : cs.size = n) (ho : ys.all Va = true) (hL : E.set q (r, .cells ys.toArray e (0, 0)) = E') (hS : SubS S E')
  (h : HB c d l E' X S ops tb rest T) : HB c d l E X S ops tb (k :: rest) T :=
 yF hko hg rfl hA (fun a w hf hst => ⟨w.setRow r ys.toArray, by
  have hcs : (cs.toList.take 0 ++ ys.toArray.toList ++ cs.toList.drop (0 + n)).toArray = ys.toArray := by
   apply Array.toList_inj.1
   simp [← hcz]
  simp only [execOp]; rw [hf.eval hx, hf.eval hy]
  have h1 := run_storeCells_at (P := c.P) r 0 e ys.toArray.toList 0 cs w (hst.get hk) (by simp [hn]; omega) (fun u hu => by rw [Ym]; exact List.all_eq_true.1 ho u (by simpa using hu))
  simp only [Nat.add_zero, Array.length_toList, List.size_toArray, hn] at h1
  rw [hcs] at h1
  simp [Instr.storeAt, Instr.sureAddr, Sem.run_bind, Result.andThen, storeVar, VN ht, Value.cells, hn, h1], by
  subst hL
  exact hst.set hk (Keep.setRow r ys.toArray) (setRow_heap _ _ _ _ _ _ (hst.get hk))⟩) hS h
theorem Xk  {cs' : Array Value} (hko : WR ops.toList k = some ⟨none, .store t x y, ty, ps, af, gd⟩) (hg : Kv l ops ⟨none, .store t x y, ty, ps, af, gd⟩ = some true) (hA : tb k = .turn)
  (hx : Kq l x = some (.pointer (some ⟨r, off, none⟩))) (hk : E[q]? = some (r, .cells cs e (0, 0))) (hy : Kq l y = some v) (ht : KZ c.P t = some 1) (ho : Va v = true) (hc : (cs[off]?).isSome = true)
  (hcs : cs.setIfInBounds off v = cs') (hL : E.set q (r, .cells cs' e (0, 0)) = E') (hS : SubS S E')
  (h : HB c d l E' X S ops tb rest T) : HB c d l E X S ops tb (k :: rest) T :=
 yF hko hg rfl hA (fun a w hf hs => ⟨w.setCell ⟨r, off, none⟩ v, by
  simp only [execOp]; rw [hf.eval hx, hf.eval hy]
  obtain ⟨old, hold⟩ := Option.isSome_iff_exists.1 hc
  have h1 := run_store c.P w ⟨r, off, none⟩ v .plain (by rw [Ym]; exact ho)
  rw [W5 (hs.get hk), hold, qU (hs.get hk) (Jyq off)] at h1
  have hcell : v.cells = #[v] := by cases v <;> first | rfl | cases ho
  simp [Instr.storeAt, Instr.sureAddr, Sem.run_bind, Result.andThen, storeVar, VN ht, hcell, storeCells, Addr.add, h1], by
  subst hL; subst hcs
  exact hs.set hk (Keep.setCell r off v) (heap_setCell_same v (hs.get hk))⟩) hS h
end
theorem Ji2 {f : Nat → Nat} (hf : ∀ i, f i < 256) (hi : i < 32) : dg (jX f 32) i = f i := by
 have h : jX (dg (jX f 32)) 32 = jX f 32 := Jxt (Jgy hf 32)
 have h2 : sm (dg (jX f 32)) 32 = sm f 32 := by rw [← Jxs, h, Jxs]
 have key : ∀ n, ∀ g h : Nat → Nat, (∀ i, g i < 256) → (∀ i, h i < 256) → sm g n = sm h n → ∀ i, i < n → g i = h i := by
  intro n
  induction n with
  | zero => intro _ _ _ _ _ i hi; omega
  | succ n ih =>
   intro g h hg hh e i hi
   simp only [sm] at e
   have g1 := Jou hg n
   have h1 := Jou hh n
   have hp : 0 < 2 ^ (8 * n) := Nat.two_pow_pos _
   have et : g n = h n := by
    have a1 : (sm g n + g n * 2 ^ (8 * n)) / 2 ^ (8 * n) = g n := by rw [Nat.add_mul_div_right _ _ hp, Nat.div_eq_of_lt g1, Nat.zero_add]
    have a2 : (sm h n + h n * 2 ^ (8 * n)) / 2 ^ (8 * n) = h n := by rw [Nat.add_mul_div_right _ _ hp, Nat.div_eq_of_lt h1, Nat.zero_add]
    rw [← a1, ← a2, e]
   by_cases hin : i = n
   ·subst hin; exact et
   ·exact ih g h hg hh (by rw [et] at e; omega) i m0
 exact key 32 _ _ (fun i => Jdr _ _) hf h2 i hi
theorem Jus (hs : s.length = 32) : Yz (xq s) 32 = s := by
 apply List.ext_getElem?
 intro m
 by_cases hm : m < 32
 ·rw [qj _ hm]
  unfold xq
  rw [Ji2 (fun _ => Vh _) m0, UInt8.ofNat_toNat, List.getD_eq_getElem?_getD]
  rw [show 31 - (32 - 1 - m) = m from by omega, List.getElem?_eq_getElem m0]; rfl
 ·rw [List.getElem?_eq_none (by rw [QC]; omega), List.getElem?_eq_none m0]
def wp (w : List Nat) (n : Nat) : List UInt8 := (Yz w 32).reverse.take n
theorem wI (w : List Nat) {n : Nat} (h : n ≤ 32) : (wp w n).length = n := by
 unfold wp; rw [List.length_take, List.length_reverse, QC]; omega
def Y1 (s : List UInt8) : List UInt8 := s ++ List.replicate (32 - s.length) 0
def Y2 (s : List UInt8) : List Nat := xq (Y1 s).reverse
theorem W9 (h : s.length ≤ 32) : (Y1 s).length = 32 := by unfold Y1; rw [List.length_append, List.length_replicate]; omega
theorem Jbj (s : List UInt8) : WOk (Y2 s) := Jiv _
theorem Jyw (h : s.length ≤ 32) : wp (Y2 s) s.length = s := by
 unfold wp Y2
 rw [Jus (by rw [List.length_reverse, W9 h]), List.reverse_reverse]
 unfold Y1
 rw [List.take_left' rfl]
theorem Jo5 (h : s.length ≤ 32) {t : Nat} (h1 : s.length ≤ t) (h2 : t < 32) : dg (Y2 s) t = 0 := by
 unfold Y2 xq
 rw [Ji2 (fun _ => Vh _) h2, List.getD_eq_getElem?_getD, List.getElem?_reverse (by rw [W9 h]; omega), W9 h]
 unfold Y1
 rw [show 32 - 1 - (31 - t) = t by omega, List.getElem?_append_right h1, List.getElem?_replicate]
 rw [if_pos m0]; rfl
def KG (l : List Bool) (N : Nat) : Nat → List UInt8
 | 0 => List.replicate N 0
 | i + 1 => if l.getD i false = true then (KG l N i).set (i / 8) (UInt8.ofNat (((KG l N i).getD (i / 8) 0).toNat ||| 2 ^ (i % 8))) else KG l N i
theorem QH (l : List Bool) (N : Nat) : ∀ i, (KG l N i).length = N
 | 0 => by rw [KG, List.length_replicate]
 | i + 1 => by
  rw [KG]
  split
  ·rw [List.length_set, QH l N i]
  ·exact QH l N i
theorem Jxx {x : Nat} (hx : x < 256) (hm : m < 8) : x ||| 2 ^ m < 256 := Nat.or_lt_two_pow (n := 8) hx (Nat.pow_lt_pow_right m7 hm)
theorem vh (l : List Bool) (N : Nat) : ∀ (i q j : Nat), i ≤ 8 * N → q < N → j < 8 → ((KG l N i).getD q 0).toNat.testBit j = (decide (8 * q + j < i) && l.getD (8 * q + j) false)
 | 0, q, j, _, hq, hj => by
  rw [KG, List.getD_eq_getElem?_getD, List.getElem?_replicate, if_pos hq]
  simp
 | i + 1, q, j, hi, hq, hj => by
  have ih := vh l N i q j m0 hq hj
  rw [KG]
  split
  ·rename_i hl
   rw [List.getD_eq_getElem?_getD, List.getElem?_set, QH]
   by_cases hqi : i / 8 = q
   ·subst hqi
    rw [if_pos rfl, if_pos m0]
    show (UInt8.ofNat _).toNat.testBit j = _
    rw [UInt8.toNat_ofNat', Nat.mod_eq_of_lt (Jxx (Vh _) (Nat.mod_lt _ m7)), Nat.testBit_or, ih, Nat.testBit_two_pow]
    by_cases hij : i % 8 = j
    ·have e : 8 * (i / 8) + j = i := by omega
     rw [e, hl, decide_eq_true hij, decide_eq_true (Nat.lt_succ_self i)]
     simp
    ·rw [decide_eq_false hij, Bool.or_false]
     congr 1
     rw [decide_eq_decide]; omega
   ·rw [if_neg hqi, ← List.getD_eq_getElem?_getD, ih]
    congr 1
    rw [decide_eq_decide]; omega
  ·rename_i hl
   rw [ih]
   by_cases hij : 8 * q + j = i
   ·rw [hij, decide_eq_false (Nat.lt_irrefl i), decide_eq_true (Nat.lt_succ_self i)]
    simp at hl ⊢; exact hl
   ·congr 1
    rw [decide_eq_decide]; omega
def V9 (l : List Bool) : List UInt8 := KG l ((l.length + 7) / 8) l.length
theorem WZ (l : List Bool) : (V9 l).length = (l.length + 7) / 8 := QH _ _ _
theorem Jlx (l : List Bool) (hq : q < (l.length + 7) / 8) (hj : j < 8) : ((V9 l).getD q 0).toNat.testBit j = l.getD (8 * q + j) false := by
 unfold V9
 rw [vh l _ _ q j m0 hq hj]
 by_cases h : 8 * q + j < l.length
 ·rw [decide_eq_true h, Bool.true_and]
 ·rw [decide_eq_false h, Bool.false_and, List.getD_eq_getElem?_getD, List.getElem?_eq_none m0]; rfl
def Vv (s : List UInt8) (i : Nat) : Bool := (s.getD (i / 8) 0).toNat.testBit (i % 8)
def JQ (s : List UInt8) (n : Nat) : List Bool := (List.range n).map (Vv s)
theorem KH (s : List UInt8) (n : Nat) : (JQ s n).length = n := by unfold JQ; rw [List.length_map, List.length_range]
theorem Vz (s : List UInt8) {n : Nat} (h : i < n) : (JQ s n)[i]? = some (Vv s i) := by
 unfold JQ; rw [List.getElem?_map, List.getElem?_range h]; rfl
theorem Ji3 {a b : UInt8} (h : ∀ j, j < 8 → a.toNat.testBit j = b.toNat.testBit j) : a = b := by
 apply UInt8.toNat_inj.1
 apply Nat.eq_of_testBit_eq
 intro j
 by_cases hj : j < 8
 ·exact h j hj
 ·rw [Nat.testBit_lt_two_pow (Nat.lt_of_lt_of_le (Vh a) (Nat.pow_le_pow_right (n := 2) (i := 8) m7 m0)), Nat.testBit_lt_two_pow (Nat.lt_of_lt_of_le (Vh b) (Nat.pow_le_pow_right (n := 2) (i := 8) m7 m0))]
theorem vQ {n : Nat} (h : s.length = (n + 7) / 8) (hz : ∀ i, n ≤ i → i < 8 * s.length → Vv s i = false) : V9 (JQ s n) = s := by
 apply List.ext_getElem?
 intro q
 by_cases hq : q < s.length
 ·have hl : q < ((JQ s n).length + 7) / 8 := by rw [KH]; omega
  have h1 : q < (V9 (JQ s n)).length := by rw [WZ]; exact hl
  rw [List.getElem?_eq_getElem h1, List.getElem?_eq_getElem hq]
  congr 1
  refine Ji3 fun j hj => ?_
  have e1 : (V9 (JQ s n))[q] = (V9 (JQ s n)).getD q 0 := by rw [List.getD_eq_getElem?_getD, List.getElem?_eq_getElem h1]; rfl
  have e2 : s[q] = s.getD q 0 := by rw [List.getD_eq_getElem?_getD, List.getElem?_eq_getElem hq]; rfl
  rw [e1, Jlx _ hl hj, e2]
  have hb : Vv s (8 * q + j) = (s.getD q 0).toNat.testBit j := by
   unfold Vv
   rw [show (8 * q + j) / 8 = q by omega, show (8 * q + j) % 8 = j by omega]
  rw [← hb, List.getD_eq_getElem?_getD]
  by_cases hn : 8 * q + j < n
  ·rw [Vz _ hn]; rfl
  ·rw [List.getElem?_eq_none Nh, hz (8 * q + j) m0 m0]; rfl
 ·rw [List.getElem?_eq_none (by rw [WZ, KH]; omega), List.getElem?_eq_none m0]
open Go
def SOk (n : Nat) (a : List Nat) : Prop := a.length = n ∧ ∀ x ∈ a, x < 18446744073709551616
theorem SOk.get {n : Nat} {a : List Nat} (h : SOk n a) (j : Nat) : a.getD j 0 < 18446744073709551616 := by
 by_cases hj : j < a.length
 ·have : a.getD j 0 ∈ a := by simp [List.getD_eq_getElem?_getD, hj]
  exact h.2 _ this
 ·rw [List.getD_eq_getElem?_getD, List.getElem?_eq_none m0]; decide
theorem SOk.set {n : Nat} {a : List Nat} (h : SOk n a) (j : Nat) {x : Nat} (hx : x < 18446744073709551616) : SOk n (a.set j x) :=
 ⟨by rw [List.length_set, h.1], fun y hy => (List.mem_or_eq_of_mem_set hy).elim (h.2 y) fun e => e ▸ hx⟩
def Je (n k : Nat) : Nat := n * 2 ^ (k % 64) % 18446744073709551616 ||| n / 2 ^ (64 - k % 64)
theorem Ji4 {a b : Nat} (ha : a < 18446744073709551616) (hb : b < 18446744073709551616) : a ||| b < 18446744073709551616 := Nat.or_lt_two_pow (n := 64) ha hb
theorem Wj {a b : Nat} (ha : a < 18446744073709551616) (hb : b < 18446744073709551616) : a ^^^ b < 18446744073709551616 := Nat.xor_lt_two_pow (n := 64) ha hb
theorem yG {a b : Nat} (hb : b < 18446744073709551616) : a &&& b < 18446744073709551616 := Nat.lt_of_le_of_lt Nat.and_le_right hb
theorem jw {n : Nat} (hn : n < 18446744073709551616) (k : Nat) : Je n k < 18446744073709551616 :=
 Ji4 (Nat.mod_lt _ m7) (Nat.lt_of_le_of_lt (Nat.div_le_self _ _) hn)
def cS (a : List Nat) : Nat → List Nat
 | 0 => [0, 0, 0, 0, 0]
 | i + 1 => (cS a i).set (i % 5) ((cS a i).getD (i % 5) 0 ^^^ a.getD i 0)
theorem yH {a : List Nat} (h : SOk 25 a) : ∀ i, SOk 5 (cS a i)
 | 0 => ⟨rfl, by simp [cS]⟩
 | i + 1 => (yH h i).set _ (Wj ((yH h i).get _) (h.get _))
def mS (c a : List Nat) : Nat → List Nat
 | 0 => a
 | i + 1 => (mS c a i).set i ((mS c a i).getD i 0 ^^^ (c.getD ((i % 5 + 5 - 1) % 5) 0 ^^^ Je (c.getD ((i % 5 + 1) % 5) 0) 1))
theorem Jd0 {c a : List Nat} (hc : SOk 5 c) (h : SOk 25 a) : ∀ i, SOk 25 (mS c a i)
 | 0 => h
 | i + 1 => (Jd0 hc h i).set _ (Wj ((Jd0 hc h i).get _) (Wj (hc.get _) (jw (hc.get _) 1)))
def Jbk (a : List Nat) : List Nat := mS (cS a 25) a 25
theorem Zh {a : List Nat} (h : SOk 25 a) : SOk 25 (Jbk a) := Jd0 (yH h 25) h 25
def z25 : List Nat := [0, 0, 0, 0, 0, 0, 0, 0, 0, 0, 0, 0, 0, 0, 0, 0, 0, 0, 0, 0, 0, 0, 0, 0, 0]
theorem Jg7 : SOk 25 z25 := ⟨rfl, by simp [z25]⟩
def rS (a b : List Nat) : Nat → List Nat
 | 0 => z25
 | i + 1 => (rS a b i).set (i / 5 + 5 * ((2 * (i % 5) + 3 * (i / 5)) % 5)) (Je (a.getD i 0) (b.getD i 0))
theorem xM {a : List Nat} (b : List Nat) (h : SOk 25 a) : ∀ i, SOk 25 (rS a b i)
 | 0 => Jg7
 | i + 1 => (xM b h i).set _ (jw (h.get _) _)
def WA (b : List Nat) (i : Nat) : Nat := b.getD i 0 ^^^ ((18446744073709551615 ^^^ b.getD (i - i % 5 + (i % 5 + 1) % 5) 0) &&& b.getD (i - i % 5 + (i % 5 + 2) % 5) 0)
theorem Jut {b : List Nat} (h : SOk 25 b) (i : Nat) : WA b i < 18446744073709551616 := Wj (h.get _) (yG (h.get _))
def xS (b a : List Nat) : Nat → List Nat
 | 0 => a
 | i + 1 => (xS b a i).set i (WA b i)
theorem xN {b a : List Nat} (hb : SOk 25 b) (h : SOk 25 a) : ∀ i, SOk 25 (xS b a i)
 | 0 => h
 | i + 1 => (xN hb h i).set _ (Jut hb _)
def Ji5 (a : List Nat) (n : Nat) : List Nat := a.set 0 (a.getD 0 0 ^^^ n)
def yI (by_ a : List Nat) (n : Nat) : List Nat := Ji5 (xS (rS (Jbk a) by_ 25) (Jbk a) 25) n
theorem Jo6 {a : List Nat} (h : SOk 25 a) {n : Nat} (hn : n < 18446744073709551616) : SOk 25 (Ji5 a n) := h.set _ (Wj (h.get _) hn)
theorem Jly {a : List Nat} (by_ : List Nat) (h : SOk 25 a) {n : Nat} (hn : n < 18446744073709551616) : SOk 25 (yI by_ a n) :=
 Jo6 (xN (xM by_ (Zh h) 25) (Zh h) 25) hn
def turnsL : List Nat := [0, 1, 62, 28, 27, 36, 44, 6, 55, 20, 3, 10, 43, 25, 39, 41, 45, 15, 21, 8, 18, 2, 61, 56, 14]
def numsL : List Nat := [0x0000000000000001, 0x0000000000008082, 0x800000000000808A, 0x8000000080008000, 0x000000000000808B, 0x0000000080000001,
 0x8000000080008081, 0x8000000000008009, 0x000000000000008A, 0x0000000000000088, 0x0000000080008009, 0x000000008000000A,
 0x000000008000808B, 0x800000000000008B, 0x8000000000008089, 0x8000000000008003, 0x8000000000008002, 0x8000000000000080,
 0x000000000000800A, 0x800000008000000A, 0x8000000080008081, 0x8000000000008080, 0x0000000080000001, 0x8000000080008008]
theorem numsL_ok : SOk 24 numsL := ⟨rfl, by decide +kernel⟩
def Xl (a : List Nat) : Nat → List Nat
 | 0 => a
 | i + 1 => yI turnsL (Xl a i) (numsL.getD i 0)
theorem XV {a : List Nat} (h : SOk 25 a) : ∀ i, SOk 25 (Xl a i)
 | 0 => h
 | i + 1 => Jly turnsL (XV h i) (numsL_ok.get i)
def qr (a : List Nat) : List Nat := Xl a 24
theorem yJ {a : List Nat} (h : SOk 25 a) : SOk 25 (qr a) := by unfold qr; exact XV h 24
def abS (a : List Nat) (s : List UInt8) : Nat → List Nat
 | 0 => a
 | i + 1 => (abS a s i).set (i / 8) ((abS a s i).getD (i / 8) 0 ^^^ (s.getD i 0).toNat * 2 ^ (i % 8 * 8))
theorem yK {a : List Nat} (s : List UInt8) (h : SOk 25 a) : ∀ i, SOk 25 (abS a s i)
 | 0 => h
 | i + 1 => (yK s h i).set _ (Wj ((yK s h i).get _) (qk (Vh _) m0))
def qt (t : List UInt8) : Nat → List Nat
 | 0 => z25
 | j + 1 => qr (abS (qt t j) (t.drop (136 * j)) 136)
theorem qu (t : List UInt8) : ∀ j, SOk 25 (qt t j)
 | 0 => Jg7
 | j + 1 => by unfold qt; exact yJ (yK _ (qu t j) 136)
def Zi (n : Nat) : List UInt8 := if 136 - n % 136 = 1 then [129] else 1 :: (List.replicate (134 - n % 136) 0 ++ [128])
theorem Xm (n : Nat) : (Zi n).length = 136 - n % 136 := by
 unfold Zi; split
 ·simp; omega
 ·simp; omega
def Yj (a : List Nat) : Nat → List UInt8
 | 0 => []
 | i + 1 => Yj a i ++ [UInt8.ofNat (a.getD (i / 8) 0 / 2 ^ (i % 8 * 8) % 256)]
theorem Wk (a : List Nat) : ∀ i, (Yj a i).length = i
 | 0 => rfl
 | i + 1 => by simp [Yj, Wk a i]
def WO (s : List UInt8) : List UInt8 := Yj (qt (s ++ Zi s.length) ((s ++ Zi s.length).length / 136)) 32
theorem jx (s : List UInt8) : (WO s).length = 32 := Wk _ _
theorem yM (s : List UInt8) : (s ++ Zi s.length).length % 136 = 0 := by rw [List.length_append, Xm]; omega
abbrev BS : Type := List UInt8
variable {last : Option BS} {kf : α → BS}
theorem Zj : ∀ a : BS, Op.bytesLess a a = false
 | [] => rfl
 | x :: a => by simp [Op.bytesLess, Zj a]
theorem Wl : ∀ {a b c : BS}, Op.bytesLess a b = true → Op.bytesLess b c = true → Op.bytesLess a c = true
 | _, [], _, h, _ => by simp [Op.bytesLess] at h
 | _, _ :: _, [], _, h => by simp [Op.bytesLess] at h
 | [], y :: b, z :: c, _, _ => rfl
 | x :: a, y :: b, z :: c, h, h2 => by
  simp only [Op.bytesLess, Bool.or_eq_true, decide_eq_true_eq, Bool.and_eq_true, beq_iff_eq] at h h2 ⊢
  rcases h with h | ⟨rfl, h⟩
  ·rcases h2 with h2 | ⟨rfl, h2⟩
   ·exact .inl (UInt8.lt_trans h h2)
   ·exact .inl h
  ·rcases h2 with h2 | ⟨rfl, h2⟩
   ·exact .inl h2
   ·exact .inr ⟨rfl, Wl h h2⟩
theorem Jbm : ∀ a b : BS, a = b ∨ Op.bytesLess a b = true ∨ Op.bytesLess b a = true
 | [], [] => .inl rfl
 | [], _ :: _ => .inr (.inl rfl)
 | _ :: _, [] => .inr (.inr rfl)
 | x :: a, y :: b => by
  simp only [Op.bytesLess, Bool.or_eq_true, decide_eq_true_eq, Bool.and_eq_true, beq_iff_eq]
  by_cases h1 : x < y
  ·exact .inr (.inl (.inl h1))
  by_cases h2 : y < x
  ·exact .inr (.inr (.inl h2))
  have e : x = y := UInt8.le_antisymm (UInt8.not_lt.1 h2) (UInt8.not_lt.1 h1)
  subst e
  rcases Jbm a b with rfl | h | h
  ·exact .inl rfl
  ·exact .inr (.inl (.inr ⟨rfl, h⟩))
  ·exact .inr (.inr (.inr ⟨rfl, h⟩))
theorem Jbn {a b : BS} (h : Op.bytesLess a b = true) : Op.bytesLess b a = false := by
 cases h2 : Op.bytesLess b a
 ·rfl
 ·have := Wl h h2; rw [Zj] at this; cases this
theorem xO {a b : BS} (h : Op.bytesLess a b = true) : a ≠ b := by rintro rfl; rw [Zj] at h; cases h
theorem Jo7 {a b : BS} (h : Op.bytesLess a b = false) (hn : a ≠ b) : Op.bytesLess b a = true := by
 rcases Jbm a b with h1 | h1 | h1
 ·exact absurd h1 hn
 ·rw [h] at h1; cases h1
 ·exact h1
section
variable {α : Type} (kf : α → BS)
def Vd : List α → Bool
 | [] => true
 | [_] => true
 | x :: y :: l => Op.bytesLess (kf x) (kf y) && Vd (y :: l)
abbrev KY (l : List α) : Prop := l.Pairwise fun x y => Op.bytesLess (kf x) (kf y) = true
theorem vi : ∀ l : List α, Vd kf l = true ↔ KY kf l
 | [] => by simp [Vd]
 | [_] => by simp [Vd]
 | x :: y :: l => by
  rw [Vd, Bool.and_eq_true, vi (y :: l)]
  refine Iff.trans ?_ List.pairwise_cons.symm
  constructor
  ·rintro ⟨h1, h2⟩
   refine ⟨fun z hz => ?_, h2⟩
   rcases List.mem_cons.1 hz with rfl | hz
   ·exact h1
   ·exact Wl h1 ((List.pairwise_cons.1 h2).1 z hz)
  ·rintro ⟨h1, h2⟩
   exact ⟨h1 y List.mem_cons_self, h2⟩
def Wm (k : BS) (l : List α) : Option α := l.find? fun x => kf x == k
def QO (x : α) : List α → List α
 | [] => [x]
 | y :: ys => if Op.bytesLess (kf y) (kf x) then y :: QO x ys else if kf y = kf x then x :: ys else x :: y :: ys
def vj (k : BS) (l : List α) : List α := l.filter fun y => !(kf y == k)
variable {kf}
theorem QW {k : BS} {y : α} {l : List α} : Wm kf k (y :: l) = if kf y = k then some y else Wm kf k l := by
 unfold Wm
 rw [List.find?_cons]
 by_cases h : kf y = k
 ·simp [h]
 ·rw [if_neg h, show (kf y == k) = false from by simpa using h]
theorem xP {k : BS} {y : α} {l : List α} (h : Wm kf k l = some y) : kf y = k ∧ y ∈ l := ⟨by have := List.find?_some h; simpa using this, List.mem_of_find?_eq_some h⟩
theorem Jg8 {k : BS} {l : List α} (h : ∀ y ∈ l, kf y ≠ k) : Wm kf k l = none := by
 unfold Wm; rw [List.find?_eq_none]; intro x hx; simpa using h x hx
theorem xQ {y : α} : ∀ {l : List α}, KY kf l → y ∈ l → Wm kf (kf y) l = some y
 | z :: l, hs, hm => by
  rw [QW]
  obtain ⟨h1, h2⟩ := List.pairwise_cons.1 hs
  rcases List.mem_cons.1 hm with rfl | hm
  ·rw [if_pos rfl]
  ·rw [if_neg (xO (h1 y hm)), xQ h2 hm]
theorem wJ {x y : α} : ∀ {l : List α}, y ∈ QO kf x l → y = x ∨ y ∈ l
 | [], h => by simpa [QO] using h
 | z :: l, h => by
  unfold QO at h
  split at h
  ·rcases List.mem_cons.1 h with rfl | h
   ·exact .inr List.mem_cons_self
   ·exact (wJ h).elim .inl fun h => .inr (List.mem_cons_of_mem _ h)
  ·split at h
   ·rcases List.mem_cons.1 h with rfl | h
    ·exact .inl rfl
    ·exact .inr (List.mem_cons_of_mem _ h)
   ·exact List.mem_cons.1 h
theorem yN {x : α} : ∀ {l : List α}, KY kf l → KY kf (QO kf x l)
 | [], _ => by simp [QO]
 | z :: l, h => by
  obtain ⟨h1, h2⟩ := List.pairwise_cons.1 h
  unfold QO
  split
  ·rename_i hz
   refine List.pairwise_cons.2 ⟨fun y hy => ?_, yN h2⟩
   rcases wJ hy with rfl | hy
   ·exact hz
   ·exact h1 y hy
  ·rename_i hz
   split
   ·rename_i he
    exact List.pairwise_cons.2 ⟨fun y hy => he ▸ h1 y hy, h2⟩
   ·rename_i he
    have hx := Jo7 (by simpa using hz) he
    refine List.pairwise_cons.2 ⟨fun y hy => ?_, h⟩
    rcases List.mem_cons.1 hy with rfl | hy
    ·exact hx
    ·exact Wl hx (h1 y hy)
theorem Jd1 {x : α} {k : BS} : ∀ {l : List α}, KY kf l → Wm kf k (QO kf x l) = if kf x = k then some x else Wm kf k l
 | [], _ => by unfold QO; rw [QW]
 | z :: l, h => by
  obtain ⟨h1, h2⟩ := List.pairwise_cons.1 h
  unfold QO
  split
  ·rename_i hz
   rw [QW, QW, Jd1 h2]
   by_cases hk : kf z = k
   ·subst hk
    rw [if_pos rfl, if_neg (fun e => xO hz e.symm), if_pos rfl]
   ·rw [if_neg hk, if_neg hk]
  ·split
   ·rename_i he
    rw [QW, QW, he]
    split <;> rfl
   ·rw [QW]
theorem Ji6 {x : α} : ∀ {l : List α}, KY kf l → (QO kf x l).length = if (Wm kf (kf x) l).isSome then l.length else l.length + 1
 | [], _ => rfl
 | z :: l, h => by
  obtain ⟨h1, h2⟩ := List.pairwise_cons.1 h
  unfold QO
  rw [QW]
  split
  ·rename_i hz
   rw [List.length_cons, Ji6 h2, if_neg (xO hz)]
   split <;> rfl
  ·rename_i hz
   split
   ·rename_i he
    rfl
   ·rename_i he
    have hx := Jo7 (by simpa using hz) he
    rw [Jg8 (fun y hy e => ?_)]
    ·rfl
    ·have := Wl hx (h1 y hy)
     rw [e, Zj] at this; cases this
theorem Jg9 {k : BS} {l : List α} (h : KY kf l) : KY kf (vj kf k l) := h.filter _
theorem Jd2 {k j : BS} : ∀ {l : List α}, Wm kf j (vj kf k l) = if k = j then none else Wm kf j l
 | [] => by simp [vj, Wm]
 | z :: l => by
  have ih := Jd2 (k := k) (j := j) (l := l)
  unfold vj at ih ⊢
  rw [List.filter_cons, QW]
  by_cases hz : kf z = k
  ·subst hz
   rw [if_neg mh, ih]
   split
   ·rfl
   ·rfl
  ·rw [if_pos (by simpa using hz), QW, ih]
   by_cases hj : kf z = j
   ·subst hj
    rw [if_pos rfl, if_pos rfl, if_neg (fun e => hz e.symm)]
   ·rw [if_neg hj, if_neg hj]
theorem Juu {k : BS} {l : List α} {y : α} (h : y ∈ vj kf k l) : y ∈ l := (List.mem_filter.1 h).1
theorem Ji7 {x : α} : ∀ {l : List α}, vj kf (kf x) (QO kf x l) = vj kf (kf x) l
 | [] => by simp [vj, QO]
 | z :: l => by
  have ih := Ji7 (x := x) (l := l)
  unfold vj at ih ⊢
  unfold QO
  split
  ·rw [List.filter_cons, ih, List.filter_cons]
  ·split
   ·rename_i he
    rw [List.filter_cons, List.filter_cons, he]
    simp
   ·rw [List.filter_cons]
    simp
theorem Jo8 {x : α} : ∀ {p q : List α}, (∀ y ∈ p, Op.bytesLess (kf y) (kf x) = true) → (∀ y ∈ q, Op.bytesLess (kf y) (kf x) = false) →
  QO kf x (p ++ q) = match q with
   | [] => p ++ [x]
   | y :: q' => if kf y = kf x then p ++ x :: q' else p ++ x :: y :: q'
 | [], [], _, _ => rfl
 | [], y :: q', _, h => by
  rw [List.nil_append, QO, h y List.mem_cons_self]
  simp
 | z :: p, q, h1, h2 => by
  rw [List.cons_append, QO, if_pos (h1 z List.mem_cons_self), Jo8 (p := p) (fun y hy => h1 y (List.mem_cons_of_mem _ hy)) h2]
  cases q with
  | nil => rfl
  | cons y q' => dsimp only; split <;> rfl
end
def VJ : BS := List.replicate 32 0
structure W4 : Type where
  a : Nat
  b : Nat
  c : Nat
  d : Nat
deriving DecidableEq
def W4.l (w : W4) : List Nat := [w.a, w.b, w.c, w.d]
def w40 : W4 := ⟨0, 0, 0, 0⟩
def W4.of (l : List Nat) : W4 := ⟨l.getD 0 0, l.getD 1 0, l.getD 2 0, l.getD 3 0⟩
theorem W4.of_l {l : List Nat} (h : l.length = 4) : (W4.of l).l = l := by
 match l, h with
 | [a, b, c, d], _ => rfl
theorem W4.l_inj {x y : W4} (h : x.l = y.l) : x = y := by
 cases x; cases y; simp [W4.l] at h; simp [h]
structure AcE : Type where
  addr : BS
  nonce : Nat
  bal : W4
  code : BS
  slots : List (BS × BS)
deriving DecidableEq
def ac0 : AcE := ⟨[], 0, w40, [], []⟩
def ZM (x : BS × BS) : Bool := decide (x.1.length ≠ 32) || decide (x.2.length ≠ 32)
def Xx (x : BS × BS) : Bool := decide (x.2 = VJ)
def Yh (a : AcE) : Int := if a.addr.length ≠ 20 ∨ a.slots.any ZM = true then 2 else if Vd Prod.fst a.slots = false then 11 else if a.code.length > 512 ∨ a.slots.length > 16 then 5 else if a.slots.any Xx = true then 8 else 0
def V0 (last : Option BS) (a : AcE) : Int := if Yh a ≠ 2 ∧ (∃ b, last = some b ∧ Op.bytesLess b a.addr = false) then 11 else Yh a
instance (last : Option BS) (a : AcE) : Decidable (∃ b, last = some b ∧ Op.bytesLess b a.addr = false) := match last with
  | none => .isFalse (by simp)
  | some b => if h : Op.bytesLess b a.addr = false then .isTrue ⟨b, rfl, h⟩ else .isFalse (by simpa using h)
def goS : Option BS → List AcE → Int
 | _, [] => 0
 | last, a :: l => if V0 last a ≠ 0 then V0 last a else goS (some a.addr) l
def Qn (s : List AcE) : Int := if s.length > 32 then 5 else goS none s
def Wc (s : List AcE) (k : BS) : Option AcE := Wm AcE.addr k s
def Juv (s : List AcE) (a : AcE) : List AcE × Int := if Qn s ≠ 0 then (s, Qn s) else if Yh a ≠ 0 then (s, Yh a) else if (QO AcE.addr a s).length > 32 then (s, 5) else (QO AcE.addr a s, 0)
def QB (a : AcE) (k : BS) : BS := match Wm Prod.fst k a.slots with
 | some x => x.2
 | none => VJ
def Qy (l : List (BS × BS)) (k v : BS) : List (BS × BS) := if v = VJ then vj Prod.fst k l else QO Prod.fst (k, v) l
def yO (a : AcE) (k v : BS) : AcE × Int := if Yh a ≠ 0 then (a, Yh a) else if k.length ≠ 32 ∨ v.length ≠ 32 then (a, 2) else if (Qy a.slots k v).length > 16 then (a, 5) else ({ a with slots := Qy a.slots k v }, 0)
theorem WB {a : AcE} (h : Yh a = 0) : a.addr.length = 20 ∧ (∀ x ∈ a.slots, x.1.length = 32 ∧ x.2.length = 32 ∧ x.2 ≠ VJ) ∧ KY Prod.fst a.slots ∧ a.code.length ≤ 512 ∧ a.slots.length ≤ 16 := by
 unfold Yh at h
 split at h
 ·cases h
 rename_i h1
 split at h
 ·cases h
 rename_i h2
 split at h
 ·cases h
 rename_i h3
 split at h
 ·cases h
 rename_i h4
 simp only [not_or, Decidable.not_not] at h1 h3
 refine ⟨h1.1, fun x hx => ?_, (vi _ _).1 (by simpa using h2), by omega, by omega⟩
 have a1 := h1.2
 simp only [Bool.not_eq_true, List.any_eq_false] at a1 h4
 have := a1 x hx
 have h5 := h4 x hx
 unfold ZM at this
 unfold Xx at h5
 simp at this h5
 exact ⟨this.1, this.2, h5⟩
theorem Juw {a : AcE} (h1 : a.addr.length = 20) (h2 : ∀ x ∈ a.slots, x.1.length = 32 ∧ x.2.length = 32 ∧ x.2 ≠ VJ) (h3 : KY Prod.fst a.slots) (h4 : a.code.length ≤ 512) (h5 : a.slots.length ≤ 16) : Yh a = 0 := by
 unfold Yh
 have e1 : ¬ a.slots.any ZM = true := by
  simp only [Bool.not_eq_true, List.any_eq_false]
  intro x hx
  obtain ⟨a1, a2, _⟩ := h2 x hx
  simp [ZM, a1, a2]
 have e2 : ¬ a.slots.any Xx = true := by
  simp only [Bool.not_eq_true, List.any_eq_false]
  intro x hx
  obtain ⟨_, _, a3⟩ := h2 x hx
  simp [Xx, a3]
 have e3 := (vi Prod.fst a.slots).2 h3
 rw [if_neg (fun h => h.elim (fun h => h h1) e1), if_neg (by rw [e3]; simp), if_neg m0, if_neg e2]
theorem Jl0 (a : AcE) : V0 none a = Yh a := by unfold V0; rw [if_neg mh]
theorem Ji8 {a : AcE} : V0 last a = 0 ↔ Yh a = 0 ∧ ∀ b, last = some b → Op.bytesLess b a.addr = true := by
 unfold V0
 split
 ·rename_i h
  obtain ⟨h1, b, h2, h3⟩ := h
  constructor
  ·intro h; cases h
  ·rintro ⟨_, h⟩; rw [h b h2] at h3; cases h3
 ·rename_i h
  constructor
  ·intro h0
   refine ⟨h0, fun b hb => ?_⟩
   cases h4 : Op.bytesLess b a.addr
   ·exact absurd ⟨by omega, b, hb, h4⟩ h
   ·rfl
  ·exact fun h => h.1
theorem Jxy : ∀ {last : Option BS} {s : List AcE}, goS last s = 0 ↔ (∀ a ∈ s, Yh a = 0) ∧ KY AcE.addr s ∧ (∀ b, last = some b → ∀ a ∈ s, Op.bytesLess b a.addr = true)
 | last, [] => by simp [goS]
 | last, a :: l => by
  rw [goS]
  split
  ·rename_i h
   constructor
   ·intro h0; exact absurd h0 h
   ·rintro ⟨h1, h2, h3⟩
    exact absurd (Ji8.2 ⟨h1 a List.mem_cons_self, fun b hb => h3 b hb a List.mem_cons_self⟩) h
  ·rename_i h
   have h := Ji8.1 (Decidable.not_not.1 h)
   rw [Jxy]
   constructor
   ·rintro ⟨h1, h2, h3⟩
    refine ⟨fun x hx => ?_, List.pairwise_cons.2 ⟨fun x hx => h3 _ rfl x hx, h2⟩, fun b hb x hx => ?_⟩
    ·rcases List.mem_cons.1 hx with rfl | hx
     ·exact h.1
     ·exact h1 x hx
    ·rcases List.mem_cons.1 hx with rfl | hx
     ·exact h.2 b hb
     ·exact Wl (h.2 b hb) (h3 _ rfl x hx)
   ·rintro ⟨h1, h2, h3⟩
    obtain ⟨h4, h5⟩ := List.pairwise_cons.1 h2
    exact ⟨fun x hx => h1 x (List.mem_cons_of_mem _ hx), h5, fun b hb x hx => by cases hb; exact h4 x hx⟩
theorem yP {s : List AcE} : Qn s = 0 ↔ s.length ≤ 32 ∧ (∀ a ∈ s, Yh a = 0) ∧ KY AcE.addr s := by
 unfold Qn
 split
 ·constructor
  ·intro h; cases h
  ·rintro ⟨h, _⟩; omega
 ·rw [Jxy]
  constructor
  ·rintro ⟨h1, h2, _⟩; exact ⟨by omega, h1, h2⟩
  ·rintro ⟨_, h1, h2⟩; exact ⟨h1, h2, by simp⟩
structure PureT {α : Type} (P : Program) (f : FuncId) (args : Array Value) (V : α → Value) (T : Jp) (LL : α → Jp) (Rl : Jp) : Prop where
  run : ∀ w, wm T w → wm Rl w → (T.Pairwise fun p q => p.1 ≠ q.1) → (∀ p ∈ Rl, ∀ q ∈ T, p.1 ≠ q.1) → Calls P f args w fun e w' => ∃ x, e = .returned (V x) ∧ Keep (T.map (·.1)) w w' ∧ (∀ p ∈ LL x, (p.1 ∈ T.map (·.1) ∨ w.heap.size ≤ p.1) ∧ w'.heap[p.1]? = some p.2) ∧ (LL x).Pairwise fun p q => p.1 ≠ q.1
def cxT (P : Program) (w : World) (T Rl : Jp) (n : Nat) : Cx := ⟨P, none, w, T.map (·.1), [], Rl, n⟩
theorem St.startT {n : Nat} {T : Jp} (hT : wm T w) (hR : wm Rl w) (hd : T.Pairwise fun p q => p.1 ≠ q.1) (hne : ∀ p ∈ Rl, ∀ q ∈ T, p.1 ≠ q.1) : St (cxT P w T Rl n) T (fun _ _ => True) w :=
 ⟨Keep.refl _ _, fun p hp => ⟨.inl (List.mem_map.2 ⟨p, hp, rfl⟩), by simp [cxT], hT p hp⟩, hd, fun p hp => ⟨fun h => by obtain ⟨q, hq, e⟩ := List.mem_map.1 h; exact hne p hp q hq e.symm, by simp [cxT], hR p hp⟩, by simp [cxT], ⟨[], by simp, fun _ _ => trivial⟩⟩
theorem JE {f : FuncId} {T : Jp} (hf : P.funcs[f]? = some fn) (hb : fn.body = some code) (hlen : Nat.ble vs.length fn.ntmps = true)
  (h : ∀ w, HC (cxT P w T Rl fn.ntmps) [] (V2 0 vs) T (fun _ _ => True) code (bodyPostM (FW none) 0 P fn (fun e w' => ∃ x, e = .returned (V x) ∧ St (cxT P w T Rl fn.ntmps) (LL x) (fun _ _ => True) w'))) : PureT P f vs.toArray V T LL Rl := ⟨fun w hT hR hd hne =>
 (QP (cxT P w T Rl fn.ntmps) hf hb rfl rfl rfl hlen (St.startT hT hR hd hne) (h w)).mono fun _ _ ⟨x, he, hs⟩ => ⟨x, he, by have := hs.keep; simpa [cxT] using this, fun p hp => ⟨(hs.own p hp).1, (hs.own p hp).2.2⟩, hs.distinct⟩⟩
section
variable {c : Cx} {l : Kx} {L : Jp} {X : XP} {Q : Exit → Act → World → Prop} {d : List Deferred}
variable {ops : Array Oper} {rest : List Oper} {i : Nat} {v : Value} {t : TypeId} {ps : String} {af : Array Edge} {gd : Option (Nat × Bool)} {ty t2 : TypeId}
theorem St.turnT {T LL : Jp} (hs : St c (T ++ L0) X w) (hk : Keep (T.map (·.1)) w w') (hL : ∀ p ∈ LL, (p.1 ∈ T.map (·.1) ∨ w.heap.size ≤ p.1) ∧ w'.heap[p.1]? = some p.2) (hd : LL.Pairwise fun p q => p.1 ≠ q.1) : St c (LL ++ L0) X w' := by
 have hT : ∀ p ∈ T, p ∈ T ++ L0 := fun p hp => List.mem_append_left _ hp
 have hle := hs.keep.size
 obtain ⟨hd1, hd2, hd3⟩ := List.pairwise_append.1 hs.distinct
 have hin : ∀ k ∈ T.map (·.1), ∃ p ∈ T, p.1 = k := fun k hk => by obtain ⟨p, hp, e⟩ := List.mem_map.1 hk; exact ⟨p, hp, e⟩
 refine ⟨hs.keep.glue hk ?_, fun p hp => ?_, ?_, hs.ext, hs.xlt, ?_⟩
 ·intro k hk
  obtain ⟨p, hp, rfl⟩ := hin k hk
  exact (hs.own p (hT p hp)).1.imp (fun h => List.mem_append_left _ h) id
 ·rcases List.mem_append.1 hp with hp | hp
  ·obtain ⟨h1, h2⟩ := hL p hp
   rcases h1 with h1 | h1
   ·obtain ⟨q, hq, e⟩ := hin _ h1
    obtain ⟨g1, g2, _⟩ := hs.own q (hT q hq)
    rw [e] at g1 g2
    exact ⟨g1, g2, h2⟩
   ·exact ⟨.inr m0, fun hx => (by have := hs.xlt _ hx; omega), h2⟩
  ·obtain ⟨g1, g2, g3⟩ := hs.own p (List.mem_append_right _ hp)
   refine ⟨g1, g2, ?_⟩
   rw [hk.block _ (J1 g3) (fun h => by obtain ⟨q, hq, e⟩ := hin _ h; exact hd3 q hq p hp e)]
   exact g3
 ·refine List.pairwise_append.2 ⟨hd, hd2, fun p hp q hq => ?_⟩
  rcases (hL p hp).1 with h1 | h1
  ·obtain ⟨u, hu, e⟩ := hin _ h1
   rw [← e]; exact hd3 u hu q hq
  ·have := J1 (hs.own q (List.mem_append_right _ hq)).2.2
   omega
 ·obtain ⟨xs, e1, e2⟩ := hs.x
  refine ⟨xs, fun k hkx => ?_, fun w2 hw2 => e2 w2 fun k hkx => (hw2 k hkx).trans (hk.block k (e1 k hkx).2.1 (fun h => by obtain ⟨q, hq, e⟩ := hin _ h; exact (e1 k hkx).2.2 q (hT q hq) e))⟩
  obtain ⟨a1, a2, a3⟩ := e1 k hkx
  refine ⟨a1, Nat.lt_of_lt_of_le a2 hk.size, fun p hp => ?_⟩
  rcases List.mem_append.1 hp with hp | hp
  ·rcases (hL p hp).1 with h1 | h1
   ·obtain ⟨u, hu, e⟩ := hin _ h1
    rw [← e]; exact a3 u (hT u hu)
   ·omega
  ·exact a3 p (List.mem_append_right _ hp)
theorem VA  {T : Jp}
  (hp : L.Perm (T ++ L0)) (hg : Kv l ops ⟨some i, .call ⟨.value f, args, at_⟩, ty, ps, af, gd⟩ = some true) (hi : Nat.ble (i + 1) c.n = true) (hca : KT l f args = some (g, vs)) (eg : Enters c.P g)
  (hpt : PureT c.P g vs.toArray V T LL Rl) (hR : ∀ p ∈ Rl, known c L0 p.1 p.2) (h : ∀ x, HL c d ((i, V x) :: l) (LL x ++ L0) X ops rest Q) : HL c d l L X ops (⟨some i, .call ⟨.value f, args, at_⟩, ty, ps, af, gd⟩ :: rest) Q :=
 Y7 (V := V) (L' := fun x => LL x ++ L0) (X' := fun _ => X) hg hi hca eg (fun w hs => by
  have hs := hs.perm hp
  obtain ⟨hd1, _, hd3⟩ := List.pairwise_append.1 hs.distinct
  refine (hpt.run w (fun p hp => (hs.own p (List.mem_append_left _ hp)).2.2) (fun p hp => ?_) hd1 (fun p hp q hq => ?_)).mono fun _ _ ⟨x, he, hk, h1, h2⟩ => ⟨x, he, hs.turnT hk h1 h2⟩
  ·exact (hR p hp).elim (fun h => (hs.own _ (List.mem_append_right _ h)).2.2) hs.readR
  ·rcases hR p hp with h | h
   ·exact fun e => hd3 q hq _ h e.symm
   ·rintro e
    obtain ⟨h1, _, h3⟩ := hs.ext _ h
    have h3 := J1 h3
    rcases (hs.own q (List.mem_append_left _ hq)).1 with h4 | h4
    ·exact h1 (e ▸ h4)
    ·simp only at h3 e; omega) h
theorem Qu
  (hg : Kv l ops ⟨some i, .call ⟨.value f, args, at_⟩, ty, ps, af, gd⟩ = some true) (hi : Nat.ble (i + 1) c.n = true) (hca : KT l f args = some (g, vs)) (eg : Enters c.P g)
  (hpt : PureT c.P g vs.toArray V [] LL Rl) (hR : ∀ p ∈ Rl, known c L p.1 p.2) (h : ∀ x, HL c d ((i, V x) :: l) (LL x ++ L) X ops rest Q) : HL c d l L X ops (⟨some i, .call ⟨.value f, args, at_⟩, ty, ps, af, gd⟩ :: rest) Q :=
 VA (T := []) (L0 := L) (List.Perm.refl _) hg hi hca eg hpt hR h
theorem PureR.toT {f : FuncId} {args : Array Value} (h : PureR P f args v Rl) : PureT (α := Unit) P f args (fun _ => v) [] (fun _ => []) Rl :=
 ⟨fun w _ hR _ _ => (h.run w hR).mono fun _ _ ⟨he, hk⟩ => ⟨(), he, hk, by simp, List.Pairwise.nil⟩⟩
theorem PureT.map {β : Type} {f : FuncId} {args : Array Value} {V' : β → Value} {T : Jp} {LL' : β → Jp} (h : PureT P f args V T LL Rl) (g : α → β) (hv : ∀ x, V x = V' (g x)) (hl : ∀ x, (LL' (g x)).Sublist (LL x)) : PureT P f args V' T LL' Rl :=
 ⟨fun w hT hR hd hne => (h.run w hT hR hd hne).mono fun _ _ ⟨x, he, hk, h1, h2⟩ => ⟨g x, he.trans (by rw [hv]), hk, fun p hp => h1 p ((hl x).subset hp), h2.sublist (hl x)⟩⟩
theorem Jd3 (w : World) (dT sT ty e : TypeId) (inf : TypeInfo) (hu : P.underlying dT = some (.slice e)) (hi : P.info? e = some inf) {dl dc sl sc n : Nat}
  (hn : Nat.min sl dl = n) (hb : w.heap[r]? = some (.cells cs e1 (0, 0))) (hl : vs.length = n * inf.size) (hsrc : ∀ j v, vs[j]? = some v → w.cell? ((⟨r2, off2, none⟩ : Addr).add j) = some v) (hfit : off + n * inf.size ≤ cs.size) (h1 : ∀ v ∈ vs, v.oneCell' = true) :
  (Builtin.copy_ #[dT, sT] ty #[.slice (some ⟨r, off, none⟩) dl dc, .slice (some ⟨r2, off2, none⟩) sl sc]).run P w = .ok (.int .i64 n) (w.setRow r (cs.toList.take off ++ vs ++ cs.toList.drop (off + n * inf.size)).toArray) := by
 have hl1 := run_loadCells_list (P := P) w ⟨r2, off2, none⟩ vs hsrc
 rw [hl] at hl1
 have hst := run_storeCells_at (P := P) r off e1 vs 0 cs w hb (by rw [Nat.add_zero, hl]; exact hfit) h1
 rw [Nat.add_zero, hl] at hst
 have hn' : min sl dl = n := hn
 simp [Builtin.copy_, run_underlying hu, Builtin.lenOf, Builtin.firstCells, sizeOf, typeInfo, hi, hn', hl1, hst, Result.andThen, goInt]
theorem Yr  {e k dl dc sl sc n : Nat} {cs' : List Value}
  (hg : Kv l ops ⟨some i, .call ⟨.builtin .copy, #[x, y], #[t, t2]⟩, ty, ps, af, gd⟩ = some true) (hi : Nat.ble (i + 1) c.n = true)
  (hx : Kq l x = some (.slice (some ⟨r, off, none⟩) dl dc)) (hy : Kq l y = some (.slice (some ⟨r2, off2, none⟩) sl sc)) (hk : L[k]? = some (r, .cells cs e1 (0, 0))) (hk2 : known c L r2 (.cells cs2 e2 fr2))
  (ht : Kw c.P t = some e) (hs : KZ c.P e = some sz) (hn : Nat.min sl dl = n) (hvs : (cs2.toList.drop off2).take (n * sz) = vs) (hl : vs.length = n * sz) (hone : vs.all Va = true) (hfit : off + n * sz ≤ cs.size)
  (hcs : cs.toList.take off ++ vs ++ cs.toList.drop (off + n * sz) = cs') (hL : L.set k (r, .cells cs'.toArray e1 (0, 0)) = L')
  (h : HL c d ((i, .int .i64 n) :: l) L' X ops rest Q) : HL c d l L X ops (⟨some i, .call ⟨.builtin .copy, #[x, y], #[t, t2]⟩, ty, ps, af, gd⟩ :: rest) Q := by
 obtain ⟨inf, hinf, hs'⟩ : ∃ inf, c.P.info? e = some inf ∧ inf.size = sz := by
  unfold KZ at hs
  cases hq : c.P.info? e with
  | none => simp [hq] at hs
  | some inf => simp only [hq, Option.some.injEq] at hs; exact ⟨inf, rfl, hs⟩
 subst hs'
 refine Jn2 (v := .int .i64 n) (L' := L') hg rfl rfl hi (fun a w hf hst => ⟨w.setRow r cs'.toArray, ?_, ?_⟩) h
 ·have hr := Jd3 (P := c.P) w t t2 ty e inf (Kt ht) hinf (dc := dc) (sc := sc) hn (hst.get hk) hl (XM (hst.known hk2) hvs) hfit (fun u hu => by rw [Ym]; exact List.all_eq_true.1 hone u hu)
  rw [hcs] at hr
  have ex := hf.eval hx
  have ey := hf.eval hy
  simp [execOp, resolve, Sem.run_bind, ex, ey, Result.andThen, invoke, builtin, hr]
 ·subst hL
  exact hst.set hk (Keep.setRow r cs'.toArray) (setRow_heap _ _ _ _ _ _ (hst.get hk))
theorem Jha (z : Array Value) (n : Nat) : (Builtin.zeroCells z n).toList = (List.range (n * z.size)).map (fun i => z.toList.getD (i % z.size) default) := by
 unfold Builtin.zeroCells
 simp
 intro a _
 rw [getElem!_def]
 cases z[a % z.size]? <;> rfl
theorem Jux (hg : Kv l ops o = some true) (hn : KI o.op = true) (hd : o.dst = none)
  (hr : ∀ a w, Fr c.n d l a → St c L X w → ∃ w', (execOp a.eval o).run c.P w = .ok (.value v) w' ∧ St c L' X w') (h : HL c d l L' X ops rest Q) : HL c d l L X ops (o :: rest) Q := fun a w hf hs => by
 obtain ⟨w', h1, h2⟩ := hr a w hf hs
 refine Ve (JH hf hg) hn ?_
 rw [h1, Oper.uponIn_value, hd]
 exact h a w' hf h2
theorem Jl1  {e k n : Nat} {cs' : List Value}
  (hg : Kv l ops ⟨none, .call ⟨.builtin .clear, #[x], #[t]⟩, ty, ps, af, gd⟩ = some true)
  (hx : Kq l x = some (.slice (some ⟨r, off, none⟩) n cap)) (hk : L[k]? = some (r, .cells cs e1 (0, 0))) (ht : Kw c.P t = some e) (hz : QL c.P e = some z) (hs : z.cells.size = sz) (hone : z.cells.toList.all Va = true) (hsz : 0 < sz) (hfit : off + n * sz ≤ cs.size)
  (hcs : cs.toList.take off ++ (Builtin.zeroCells z.cells n).toList ++ cs.toList.drop (off + n * sz) = cs') (hL : L.set k (r, .cells cs'.toArray e1 (0, 0)) = L')
  (h : HL c d l L' X ops rest Q) : HL c d l L X ops (⟨none, .call ⟨.builtin .clear, #[x], #[t]⟩, ty, ps, af, gd⟩ :: rest) Q := by
 have hlen : (Builtin.zeroCells z.cells n).toList.length = n * sz := by rw [Array.length_toList, size_zeroCells, hs]
 have hone' : ∀ u ∈ (Builtin.zeroCells z.cells n).toList, u.oneCell' = true := fun u hu => by
  rw [Jha] at hu
  obtain ⟨j, hj, rfl⟩ := List.mem_map.1 hu
  rw [Ym]
  have hj2 : j % z.cells.size < z.cells.toList.length := by rw [Array.length_toList]; exact Nat.mod_lt _ m0
  rw [List.getD_eq_getElem?_getD, List.getElem?_eq_getElem hj2]
  exact List.all_eq_true.1 hone _ (List.getElem_mem _)
 refine Jux (v := .tuple #[]) (L' := L') hg rfl rfl (fun a w hf hst => ?_) h
 have ex := hf.eval hx
 have hst2 := run_storeCells_at (P := c.P) r off e1 (Builtin.zeroCells z.cells n).toList 0 cs w (hst.get hk) (by rw [Nat.add_zero, hlen]; exact hfit) hone'
 rw [Nat.add_zero, hlen, hcs] at hst2
 cases n with
 | zero =>
  refine ⟨w, ?_, ?_⟩
  ·simp [execOp, resolve, Sem.run_bind, ex, Result.andThen, invoke, builtin, Builtin.clear_, Qx (Kt ht)]
  ·have : cs' = cs.toList := by
    rw [← hcs]
    have : (Builtin.zeroCells z.cells 0).toList = [] := List.length_eq_zero_iff.1 (by rw [hlen, Nat.zero_mul])
    rw [this, List.append_nil, Nat.zero_mul, Nat.add_zero, List.take_append_drop]
   rw [this] at hL
   have e2 : L.set k (r, .cells cs.toList.toArray e1 (0, 0)) = L := by
    obtain ⟨h1, h2⟩ := List.getElem?_eq_some_iff.1 hk
    rw [Array.toArray_toList, ← h2, List.set_getElem_self]
   rw [e2] at hL
   exact hL ▸ hst
 | succ n =>
  refine ⟨w.setRow r cs'.toArray, ?_, hL ▸ hst.set hk (Keep.setRow r cs'.toArray) (setRow_heap _ _ _ _ _ _ (hst.get hk))⟩
  simp [execOp, resolve, Sem.run_bind, ex, Result.andThen, invoke, builtin, Builtin.clear_, Qx (Kt ht), XK hz, hst2]
theorem yQ  {e tn b n : Nat} {kk : IntKind} {xs : List Value} {kn : IntKind}
  (hg : Kv l ops ⟨some i, .call ⟨.builtin .append, #[x, y], #[t, tn]⟩, ty, ps, af, gd⟩ = some true) (hi : Nat.ble (i + 1) c.n = true)
  (hx : Kq l x = some (.slice (some ⟨r, off, none⟩) n cap)) (hy : Kq l y = some (.int kk (m : Int))) (hk : known c L r (.cells cs e1 fr)) (ht : Kw c.P t = some e) (htn : c.P.underlying tn = some (.int kn)) (hz : QL c.P e = some z) (hs : KZ c.P e = some sz) (hb : Ja1 c.P e = some b) (hzs : z.cells.size = sz) (hsz : 0 < sz)
  (hxs : (cs.toList.drop off).take (n * sz) = xs) (hl : xs.length = n * sz) (hm : 0 < m) (hno : cap < n + m) (hcap : n ≤ cap) (h63 : n + m ≤ 9223372036854775807) (h47 : (n + m) * b ≤ 140737488355328)
  (h : ∀ r' cap' (Z spare : List Value), Z.length = m * sz → (n + m) * sz + spare.length = cap' * sz → HL c d ((i, .slice (some ⟨r', 0, none⟩) (n + m) cap') :: l) ((r', .cells (xs ++ Z ++ spare).toArray e (0, 0)) :: L) X ops rest Q) :
  HL c d l L X ops (⟨some i, .call ⟨.builtin .append, #[x, y], #[t, tn]⟩, ty, ps, af, gd⟩ :: rest) Q := by
 obtain ⟨inf, hinf, hz', hs', hb'⟩ := wA hz hs hb
 subst hs' hb'
 refine W6 (α := { p : Nat × Nat × List Value // (n + m) * inf.size + p.2.2.length = p.2.1 * inf.size }) (V := fun p => .slice (some ⟨p.1.1, 0, none⟩) (n + m) p.1.2.1)
  (L' := fun p => (p.1.1, .cells (xs ++ (Builtin.zeroCells z.cells m).toList ++ p.1.2.2).toArray e (0, 0)) :: L) (X' := fun _ => X) hg rfl rfl hi (fun a w hf hst => ?_) (fun p => h p.1.1 p.1.2.1 _ p.1.2.2 (by rw [Array.length_toList, size_zeroCells, hzs]) p.2)
 have ex := hf.eval hx
 have ey := hf.eval hy
 have hold : (Builtin.firstCells inf.size n (.slice (some ⟨r, off, none⟩) n cap)).run c.P w.drew = .ok xs.toArray w.drew :=
  run_firstCells_some (P := c.P) w.drew inf.size n ⟨r, off, none⟩ n cap xs hl (fun j u hj => XM (hst.drew.known hk) hxs j u hj)
 have hmb : m * inf.bytes ≤ 281474976710656 := Nat.le_trans (Nat.mul_le_mul_right _ (Nat.le_add_left m n)) m0
 have hr := Lib.run_append_grow_zeros (P := c.P) w t tn ty e inf z kk kn (Kt ht) htn hinf hz' (some ⟨r, off, none⟩) n cap xs hold m hm hsz hno m0 hmb (growslice_fits m0 h47)
 have hge := grownCap_ge w (n + m) cap e
 have e1 : (xs.toArray ++ Builtin.zeroCells z.cells m ++ Builtin.zeroCells z.cells (grownCap w (n + m) cap e - (n + m))) = (xs ++ (Builtin.zeroCells z.cells m).toList ++ (Builtin.zeroCells z.cells (grownCap w (n + m) cap e - (n + m))).toList).toArray := by
  apply Array.toList_inj.1; simp
 refine ⟨⟨(w.heap.size, grownCap w (n + m) cap e, (Builtin.zeroCells z.cells (grownCap w (n + m) cap e - (n + m))).toList), ?_⟩, w.drew.alloc (.cells (xs ++ (Builtin.zeroCells z.cells m).toList ++ (Builtin.zeroCells z.cells (grownCap w (n + m) cap e - (n + m))).toList).toArray e (0, 0)), ?_, hst.drew.alloc _⟩
 ·simp only
  rw [Array.length_toList, size_zeroCells, hzs, ← Nat.add_mul]
  congr 1; omega
 ·rw [e1] at hr
  simp [execOp, resolve, Sem.run_bind, ex, ey, Result.andThen, invoke, builtin, hr]
theorem Jhb  {e r1 o1 o2 n1 c1 n2 : Nat} {cs1 : Array Value} {tR : TypeId}
  (hf : Kq l f = some (.func (.func g) #[] #[])) (hx : Kq l x = some (.slice (some ⟨r1, o1, none⟩) n1 c1)) (hy : Kq l y = some (.slice (some ⟨r2, o2, none⟩) n2 c2)) (hne : r1 ≠ r2) (hk1 : known c L r1 (.cells cs1 e1 (0, 0))) (hk2 : known c L r2 (.cells cs2 e2 (0, 0)))
  (ht : Kw c.P t = some e) (hs : KZ c.P e = some sz) (h0 : 0 < cs2.size) (hF : c.P.funcs[g]? = some fn) (hn1 : (fn.name == "runtime.NumGoroutine") = false) (hb : fn.body.isNone = true) (hn2 : Extern.findNext fn = none) (he : Extern.find fn = some (Extern.SlicesOverlaps.overlaps #[t, t] #[tR])) :
  JC c d l L X ⟨some i, .call ⟨.value f, #[x, y], at_⟩, ty, ps, af, gd⟩ (.bool false) := fun a w hfr hst => by
 have ef := hfr.eval hf
 have ex := hfr.eval hx
 have ey := hfr.eval hy
 have h1 := hst.known hk1
 have h2 := hst.known hk2
 have hov := Lib.run_overlaps_apart (P := c.P) w t tR e (Kt ht) sz (fun w => VN hs w) ⟨r1, o1, none⟩ ⟨r2, o2, none⟩ n1 c1 n2 c2 hne e1 e2 cs1.size cs2.size (by simp [World.shape?, h1]) (by simp [World.shape?, h2]) m0 (by simp [World.frozen?, h1]) (by simp [World.frozen?, h1])
 have hcf : (callFunc g #[.slice (some ⟨r1, o1, none⟩) n1 c1, .slice (some ⟨r2, o2, none⟩) n2 c2]).run c.P w = .ok (.value (.bool false)) w := by
  rw [run_callFunc_extern hF hn1 hb hn2 he, hov]; rfl
 simp [execOp, resolve, Sem.run_bind, ef, ex, ey, Deferred.ofValue, Result.andThen, invoke, hcf]
end
section
variable {H : Type} {enc : TypeId × Value → H} {P : Program} {w : World} {base : Nat} {sp : Nat → Bool} {held : Bool}
theorem xR {a : Addr} {cs : List Value} (h : w.cells? base a m = some cs) : cs.length = m ∧ ∀ i, i < m → w.cell? (a.add i) = cs[i]? := by
 unfold World.cells? at h
 split at h
 ·exact ⟨by simpa using mapM_some_length h, fun i hi => mapM_some_get h i i (by simp [hi])⟩
 ·cases h
theorem Jhc {a : Addr} (h : w.cell? a = some v) : a.spot = none ∧ ∃ all e fr, w.heap[a.block]? = some (.cells all e fr) ∧ all[a.off]? = some v := by
 unfold World.cell? at h
 split at h
 ·rename_i c e fr hc
  split at h
  ·cases h
  ·rename_i hs
   exact ⟨by simpa using hs, c, e, fr, hc, h⟩
 ·cases h
theorem Jhd {b o : Nat} {cs : List Value} {all : Array Value} (h : w.cells? base ⟨b, o, none⟩ m = some cs) (hb : w.heap[b]? = some (.cells all e fr)) : (all.toList.drop o).take m = cs := by
 obtain ⟨hl, hg⟩ := xR h
 apply List.ext_getElem?
 intro i
 rw [List.getElem?_take]
 split
 ·rename_i hi
  rw [← hg i hi, XL, List.getElem?_drop, Array.getElem?_toList]
  simp only [World.cell?, hb]
  rfl
 ·rename_i hi
  rw [List.getElem?_eq_none m0]
theorem Jd4 {α : Type} {f : α → List Value} {m b : Nat} {all : Array Value} {e : TypeId} {fr : Nat × Nat} (hb : w.heap[b]? = some (.cells all e fr)) :
  ∀ (l : List α) (o : Nat), (∀ i x, l[i]? = some x → w.cells? base ⟨b, o + i * m, none⟩ m = some (f x)) → (all.toList.drop o).take (l.length * m) = l.flatMap f
 | [], o, _ => by simp
 | y :: l, o, h => by
  have h0 := Jhd (h 0 y rfl) hb
  have hr := Jd4 hb l (o + m) (fun i x hx => by
   have := h (i + 1) x hx
   rwa [Nat.succ_mul, Nat.add_comm (i * m) m, ← Nat.add_assoc] at this)
  rw [Nat.zero_mul, Nat.add_zero] at h0
  rw [List.length_cons, Nat.succ_mul, Nat.add_comm, List.take_add, h0, List.drop_drop, hr, List.flatMap_cons]
theorem Jbo {f : α → List Value} (hm : 0 < m) (hf : ∀ x, (f x).length = m) {l : List α} {a : Addr} (hle : l.length ≤ cap) (h : ∀ i x, l[i]? = some x → w.cells? base (a.add (i * m)) m = some (f x)) :
  Seg (Jg1 w) l.length (l.flatMap f) (some (a, cap)) := by
 refine ⟨hle, fun h0 => ?_⟩
 obtain ⟨y, hy⟩ : ∃ y, l[0]? = some y := ⟨_, List.getElem?_eq_getElem h0⟩
 have h1 := h 0 y hy
 rw [Nat.zero_mul] at h1
 have e0 : a.add 0 = a := by simp [Addr.add]
 rw [e0] at h1
 obtain ⟨hl, hg⟩ := xR h1
 have h2 := hg 0 hm
 rw [e0] at h2
 obtain ⟨v, hv⟩ : ∃ v, (f y)[0]? = some v := ⟨_, List.getElem?_eq_getElem m0⟩
 rw [hv] at h2
 obtain ⟨hs, all, e, fr, hb, _⟩ := Jhc h2
 refine ⟨hs, all, e, fr, Joz hb, ?_⟩
 rw [Qq hf]
 refine Jd4 (base := base) hb l a.off fun i x hx => ?_
 have := h i x hx
 have e1 : a.add (i * m) = ⟨a.block, a.off + i * m, none⟩ := by
  obtain ⟨b, o, s⟩ := a
  have : s = none := hs
  subst this
  exact XL _ _ _
 rwa [e1] at this
theorem vR {α : Type} {Q : Nat → α → Prop} : ∀ (n : Nat), (∀ i, i < n → ∃ x, Q i x) → ∃ l : List α, l.length = n ∧ ∀ i x, l[i]? = some x → Q i x
 | 0, _ => ⟨[], rfl, fun i x h => by simp at h⟩
 | n + 1, h => by
  obtain ⟨l, hl, hq⟩ := vR n (fun i hi => h i m0)
  obtain ⟨x, hx⟩ := h n m0
  refine ⟨l ++ [x], by simp [hl], fun i y hy => ?_⟩
  rw [List.getElem?_append] at hy
  split at hy
  ·exact hq i y hy
  ·rename_i hi
   have hn : i = n := by
    have := (List.getElem?_eq_some_iff.1 hy).1
    simp at this; omega
   subst hn
   rw [hl, Nat.sub_self] at hy
   obtain rfl : x = y := by simpa using hy
   exact hx
theorem vT {f : α → List Value} {ok : α → Prop} {t e : Nat} {cs : List Value} {x : DataW H × List MemPlace} (hm : 0 < m) (hf : ∀ x, (f x).length = m) (ht : P.underlying t = some (.slice e)) (hc : P.cellsOf e = m)
  (hE : ∀ n, n < fuel → ∀ cs x, DataW.trod enc P w base sp held n e cs = some x → ∃ y, cs = f y ∧ ok y)
  (h : DataW.trod enc P w base sp held fuel t cs = some x) : ∃ (l : List α) (p : Pl), cs = [KE l.length p] ∧ Seg (Jg1 w) l.length (l.flatMap f) p ∧ l.length ≤ 9223372036854775807 ∧ ∀ y ∈ l, ok y := by
 rcases DataW.trod_slice ht h with ⟨rfl, _⟩ | ⟨a, len, cap, elems, rest, n, hn, rfl, _, _, hlc, hcm, hlen, hel, _⟩
 ·exact ⟨[], none, rfl, rfl, by simp, fun y hy => by simp at hy⟩
 ·have hex : ∀ i, i < len → ∃ y, w.cells? base (a.add (i * m)) m = some (f y) ∧ ok y := by
   intro i hi
   have h1 := hel i hi
   rw [hc] at h1
   obtain ⟨z, hz⟩ : ∃ z, elems[i]? = some z := ⟨_, List.getElem?_eq_getElem m0⟩
   rw [hz, Option.bind_eq_some_iff] at h1
   obtain ⟨cs1, h2, h3⟩ := h1
   obtain ⟨y, rfl, hy⟩ := hE n m0 _ _ h3
   exact ⟨y, h2, hy⟩
  obtain ⟨l, rfl, hq⟩ := vR len hex
  have hcap : cap ≤ 9223372036854775807 := by simpa [maxLen] using hcm
  refine ⟨l, some (a, cap), rfl, Jbo hm hf hlc (fun i y hy => (hq i y hy).1), by omega, fun y hy => ?_⟩
  obtain ⟨i, hi, rfl⟩ := List.mem_iff_getElem.1 hy
  exact (hq i _ (List.getElem?_eq_getElem hi)).2
theorem VT {t tf : Nat} {cs : List Value} {x : DataW H × List MemPlace} (ht : P.underlying t = some (.struct fs)) (hi : (fs[i]?).map (fun f => (f.type, f.offset)) = some (tf, off)) (hm : P.cellsOf tf = m)
  (h : DataW.trod enc P w base sp held fuel t cs = some x) : ∃ n y, n < fuel ∧ DataW.trod enc P w base sp held n tf ((cs.drop off).take m) = some y := by
 obtain ⟨xs, n, rfl, _, _, hl, hg⟩ := DataW.trod_struct ht h
 obtain ⟨f, hf, he⟩ := Option.map_eq_some_iff.1 hi
 obtain ⟨rfl, rfl⟩ := Prod.mk.inj he
 have hi2 : i < xs.length := by rw [hl]; exact (Array.getElem?_eq_some_iff.1 hf).1
 subst hm
 exact ⟨n, xs[i], by omega, by rw [hg i f hf]; exact List.getElem?_eq_getElem hi2⟩
theorem vk {t : Nat} {cs : List Value} {x : DataW H × List MemPlace} (ht : P.underlying t = some (.struct fs)) (hm : P.cellsOf t = m) (h : DataW.trod enc P w base sp held fuel t cs = some x) : cs.length = m := by
 obtain ⟨xs, n, rfl, _, hl, _, _⟩ := DataW.trod_struct ht h
 rw [hl, hm]
theorem Jo9 {t : Nat} {cs : List Value} {x : DataW H × List MemPlace} (ht : P.underlying t = some (.int .u64)) (h : DataW.trod enc P w base sp held fuel t cs = some x) : ∃ n : Nat, cs = [uV n] ∧ XD n := by
 obtain ⟨n, rfl, _, hw⟩ := DataW.trod_int ht h
 have := bounds_u64 hw
 exact ⟨n.toNat, by unfold uV; congr 2; omega, by unfold XD; omega⟩
theorem Juy {t e : Nat} {cs : List Value} {x : DataW H × List MemPlace} (ht : P.underlying t = some (.array 4 e)) (hc : P.cellsOf t = 4) (he : P.cellsOf e = 1) (hu : P.underlying e = some (.int .u64)) (h : DataW.trod enc P w base sp held fuel t cs = some x) :
  ∃ a b c d : Nat, cs = [uV a, uV b, uV c, uV d] ∧ XD a ∧ XD b ∧ XD c ∧ XD d := by
 cases fuel with
 | zero => simp [DataW.trod] at h
 | succ fuel =>
  obtain ⟨hl, xs, h1, _⟩ := (Jox ht hc he).1 h
  obtain ⟨zs, rfl, _, hz⟩ := xI (V := uV) (D := fun n : Nat => .lit (.int .u64 (n : Int))) (ok := XD) (fun c x hx => by
   obtain ⟨n, h2, h3, h4⟩ := DataW.trod_int hu hx
   have h5 := bounds_u64 h4
   refine ⟨n.toNat, ?_, ?_, by unfold XD; omega⟩
   ·rw [List.singleton_inj.1 h2]; unfold uV; congr 1; omega
   ·rw [h3]; congr 3; omega) _ _ h1
  rw [List.length_map] at hl
  match zs, hl, hz with
  | [a, b, c, d], _, hz => exact ⟨a, b, c, d, rfl, hz a mh, hz b mh, hz c mh, hz d mh⟩
theorem Jd5 {t : Nat} {r : Reach} (ht : P.underlying t = some (.struct fs)) (h : Value.okWide P w r b0 t v) {cs : List Value} (hc : v.cells.toList = cs) : v = .agg cs.toArray := by
 obtain ⟨c1, rfl, _⟩ := okWide_struct ht h
 subst hc
 simp [Value.cells]
end
abbrev Jy (s : BS) : Value := .string (bs s)
structure W4.ok (w : W4) : Prop where
  a : XD w.a
  b : XD w.b
  c : XD w.c
  d : XD w.d
theorem W4.ok.wok {w : W4} (h : w.ok) : WOk w.l := ⟨rfl, fun x hx => by
 unfold W4.l at hx
 simp only [List.mem_cons, List.not_mem_nil, or_false] at hx
 rcases hx with rfl | rfl | rfl | rfl
 ·exact h.a
 ·exact h.b
 ·exact h.c
 ·exact h.d⟩
theorem WQ : XD 0 := by unfold XD; decide
theorem Jyx : w40.ok := ⟨WQ, WQ, WQ, WQ⟩
structure Rec : Type where
  number : Nat
  time : Nat
  base : W4
  blob : W4
  overhead : W4
  scalar : Nat
  extra : Nat
  operator : Nat
deriving DecidableEq
def Jyy : Rec := ⟨0, 0, w40, w40, w40, 0, 0, 0⟩
def Rec.nats (r : Rec) : List Nat := [r.number, r.time, r.base.a, r.base.b, r.base.c, r.base.d, r.blob.a, r.blob.b, r.blob.c, r.blob.d, r.overhead.a, r.overhead.b, r.overhead.c, r.overhead.d, r.scalar, r.extra, r.operator]
def Rec.cells (r : Rec) : List Value := r.nats.map uV
def Rec.val (r : Rec) : Value := .agg r.cells.toArray
theorem Rec.len (r : Rec) : r.cells.length = 17 := rfl
theorem Rec.one (r : Rec) : r.cells.all Va = true := rfl
structure Rec.ok (r : Rec) : Prop where
  number : XD r.number
  time : XD r.time
  base : r.base.ok
  blob : r.blob.ok
  overhead : r.overhead.ok
  scalar : XD r.scalar
  extra : XD r.extra
  operator : XD r.operator
def Vq (x : BS × BS) : List Value := [Jy x.1, Jy x.2]
theorem Ki (x : BS × BS) : (Vq x).length = 2 := rfl
theorem qv (x : BS × BS) : (Vq x).all Va = true := rfl
def wq (l : List (BS × BS)) : List Value := l.flatMap Vq
abbrev Xn : Nat := 9223372036854775807
structure AcL : Type where
  addr : BS
  nonce : Nat
  bal : W4
  code : BS
  slots : List (BS × BS)
  p : Pl
def AcL.cells (a : AcL) : List Value := [Jy a.addr, uV a.nonce, uV a.bal.a, uV a.bal.b, uV a.bal.c, uV a.bal.d, Jy a.code, KE a.slots.length a.p]
def AcL.val (a : AcL) : Value := .agg a.cells.toArray
def AcL.er (a : AcL) : AcE := ⟨a.addr, a.nonce, a.bal, a.code, a.slots⟩
theorem AcL.len (a : AcL) : a.cells.length = 8 := rfl
theorem AcL.one (a : AcL) : a.cells.all Va = true := rfl
structure AcL.In (R : Jp) (a : AcL) : Prop where
  addr : a.addr.length ≤ Xn
  nonce : XD a.nonce
  bal : a.bal.ok
  code : a.code.length ≤ Xn
  len : a.slots.length ≤ Xn
  seg : Seg R a.slots.length (wq a.slots) a.p
  slots : ∀ x ∈ a.slots, x.1.length ≤ Xn ∧ x.2.length ≤ Xn
theorem AcL.In.mono {R : Jp} {a : AcL} (h : a.In R) (hs : ∀ q ∈ R, q ∈ R') : a.In R' := ⟨h.addr, h.nonce, h.bal, h.code, h.len, h.seg.mono hs, h.slots⟩
def ac0L : AcL := ⟨[], 0, w40, [], [], none⟩
theorem Jpa {R : Jp} : ac0L.In R := ⟨Nat.zero_le _, WQ, Jyx, Nat.zero_le _, Nat.zero_le _, rfl, by simp [ac0L]⟩
def jJ (l : List AcL) : List Value := l.flatMap AcL.cells
structure StL : Type where
  accts : List AcL
  p : Pl
def StL.cells (s : StL) : List Value := [KE s.accts.length s.p]
def StL.val (s : StL) : Value := .agg s.cells.toArray
def StL.er (s : StL) : List AcE := s.accts.map AcL.er
theorem StL.er_len (s : StL) : s.er.length = s.accts.length := by simp [StL.er]
structure StL.In (R : Jp) (s : StL) : Prop where
  len : s.accts.length ≤ Xn
  seg : Seg R s.accts.length (jJ s.accts) s.p
  accts : ∀ a ∈ s.accts, a.In R
theorem StL.In.mono {R : Jp} {s : StL} (h : s.In R) (hs : ∀ q ∈ R, q ∈ R') : s.In R' := ⟨h.len, h.seg.mono hs, fun a ha => (h.accts a ha).mono hs⟩
def st0L : StL := ⟨[], none⟩
theorem yR {R : Jp} : st0L.In R := ⟨Nat.zero_le _, rfl, by simp [st0L]⟩
theorem Jpb {f : α → List Value} (hf : ∀ x, (f x).length = m) {l : List α} {k : Nat} {x : α} (h : l[j]? = some x) (hk : (f x)[k]? = some v) : (l.flatMap f)[j * m + k]? = some v := by
 have h1 := Yq hf h
 have hlt : k < m := by have := (List.getElem?_eq_some_iff.1 hk).1; rwa [hf] at this
 rw [← h1, List.getElem?_take, if_pos hlt, List.getElem?_drop] at hk
 exact hk
section
variable {c : Cx} {l : Kx} {L : Jp} {X : XP} {d : List Deferred} {i : Nat} {t : TypeId} {ps : String} {af : Array Edge} {gd : Option (Nat × Bool)} {ty : TypeId}
theorem KU {f : α → List Value} (hf : ∀ x, (f x).length = m) {p : Pl} {R : Jp} {y : α} (hR : ∀ q ∈ R, known c L q.1 q.2) (hx : Kq l x = some (.pointer (some ⟨plB p, YC p + j * m, none⟩))) (hs : Seg R xs.length (xs.flatMap f) p) (hy : xs[j]? = some y) (ht : W3 c.P t = some true) (hm : KZ c.P t = some m) :
  JC c d l L X ⟨some i, .load t x, ty, ps, af, gd⟩ (.agg (f y).toArray) :=
 XC hR hx hs (qo hy) ht hm (Yq hf hy) (hf y)
theorem VB {f : α → List Value} {k : Nat} (hf : ∀ x, (f x).length = m) {p : Pl} {R : Jp} {y : α} (hR : ∀ q ∈ R, known c L q.1 q.2) (hx : Kq l x = some (.pointer (some ⟨plB p, YC p + (j * m + k), none⟩))) (hs : Seg R xs.length (xs.flatMap f) p) (hy : xs[j]? = some y) (hv : (f y)[k]? = some v) (ht : W3 c.P t = some false) :
  JC c d l L X ⟨some i, .load t x, ty, ps, af, gd⟩ v :=
 ZK hR hx hs (qo hy) ht (Jpb hf hy hv)
end
section
variable {H : Type} {enc : TypeId × Value → H} {P : Program} {w : World} {base : Nat} {sp : Nat → Bool} {held : Bool}
theorem qw {t : Nat} {cs : List Value} {x : DataW H × List MemPlace} (ht : P.underlying t = some .string) (h : DataW.trod enc P w base sp held fuel t cs = some x) : ∃ s : BS, cs = [Jy s] ∧ s.length ≤ Xn := by
 obtain ⟨s, rfl, _, hl⟩ := DataW.trod_string ht h
 exact ⟨s.data.toList, by unfold Jy; rw [Juf], by rw [Array.length_toList]; exact hl⟩
theorem Juz {tT tS : Nat} (ht : P.underlying tT = some (.struct fs)) (hT : P.cellsOf tT = 2) (h0 : (fs[0]?).map (fun f => (f.type, f.offset)) = some (tS, 0)) (h1 : (fs[1]?).map (fun f => (f.type, f.offset)) = some (tS, 1)) (hS : P.underlying tS = some .string) (hSc : P.cellsOf tS = 1)
  {cs : List Value} {x : DataW H × List MemPlace} (h : DataW.trod enc P w base sp held fuel tT cs = some x) : ∃ y : BS × BS, cs = Vq y ∧ (y.1.length ≤ Xn ∧ y.2.length ≤ Xn) := by
 have hl := vk ht hT h
 match cs, hl with
 | [a, b], _ =>
  obtain ⟨n0, y0, _, e0⟩ := VT ht h0 hSc h
  obtain ⟨n1, y1, _, e1⟩ := VT ht h1 hSc h
  obtain ⟨k, ek, hk⟩ := qw hS e0
  obtain ⟨v, ev, hv⟩ := qw hS e1
  obtain rfl : a = Jy k := by simpa using ek
  obtain rfl : b = Jy v := by simpa using ev
  exact ⟨(k, v), rfl, hk, hv⟩
theorem Ju0 {tA tT tS tL tW tu tI : Nat} {fa : Array Field} (ht : P.underlying tT = some (.struct fs)) (hT : P.cellsOf tT = 2) (h0 : (fs[0]?).map (fun f => (f.type, f.offset)) = some (tS, 0)) (h1 : (fs[1]?).map (fun f => (f.type, f.offset)) = some (tS, 1)) (hS : P.underlying tS = some .string) (hSc : P.cellsOf tS = 1)
  (ha : P.underlying tA = some (.struct fa)) (hA : P.cellsOf tA = 8) (a0 : (fa[0]?).map (fun f => (f.type, f.offset)) = some (tS, 0)) (a1 : (fa[1]?).map (fun f => (f.type, f.offset)) = some (tI, 1)) (a2 : (fa[2]?).map (fun f => (f.type, f.offset)) = some (tW, 2)) (a3 : (fa[3]?).map (fun f => (f.type, f.offset)) = some (tS, 6)) (a4 : (fa[4]?).map (fun f => (f.type, f.offset)) = some (tL, 7))
  (hI : P.underlying tI = some (.int .u64)) (hIc : P.cellsOf tI = 1) (hW : P.underlying tW = some (.array 4 tu)) (hWc : P.cellsOf tW = 4) (hu : P.underlying tu = some (.int .u64)) (huc : P.cellsOf tu = 1) (hL : P.underlying tL = some (.slice tT)) (hLc : P.cellsOf tL = 1)
  {cs : List Value} {x : DataW H × List MemPlace} (h : DataW.trod enc P w base sp held fuel tA cs = some x) : ∃ a : AcL, cs = a.cells ∧ a.In (Jg1 w) := by
 have hl := vk ha hA h
 match cs, hl with
 | [c0, c1, c2, c3, c4, c5, c6, c7], _ =>
  obtain ⟨n0, y0, _, e0⟩ := VT ha a0 hSc h
  obtain ⟨n1, y1, _, e1⟩ := VT ha a1 hIc h
  obtain ⟨n2, y2, _, e2⟩ := VT ha a2 hWc h
  obtain ⟨n3, y3, _, e3⟩ := VT ha a3 hSc h
  obtain ⟨n4, y4, _, e4⟩ := VT ha a4 hLc h
  obtain ⟨s, es, hs⟩ := qw hS e0
  obtain ⟨n, en, hn⟩ := Jo9 hI e1
  obtain ⟨w0, w1, w2, w3, ew, k0, k1, k2, k3⟩ := Juy hW hWc huc hu e2
  obtain ⟨cd, ec, hc⟩ := qw hS e3
  obtain ⟨l, p, ep, hsg, hlen, hok⟩ := vT (f := Vq) (ok := fun y => y.1.length ≤ Xn ∧ y.2.length ≤ Xn) m7 Ki hL hT (fun m hm cs x hx => Juz ht hT h0 h1 hS hSc hx) e4
  obtain rfl : c0 = Jy s := by simpa using es
  obtain rfl : c1 = uV n := by simpa using en
  obtain ⟨rfl, rfl, rfl, rfl⟩ : c2 = uV w0 ∧ c3 = uV w1 ∧ c4 = uV w2 ∧ c5 = uV w3 := by simpa using ew
  obtain rfl : c6 = Jy cd := by simpa using ec
  obtain rfl : c7 = KE l.length p := by simpa using ep
  exact ⟨⟨s, n, ⟨w0, w1, w2, w3⟩, cd, l, p⟩, rfl, ⟨hs, hn, ⟨k0, k1, k2, k3⟩, hc, hlen, hsg, hok⟩⟩
theorem open_st {tP tX tA tT tS tL tW tu tI : Nat} {fa fp : Array Field} (ht : P.underlying tT = some (.struct fs)) (hT : P.cellsOf tT = 2) (h0 : (fs[0]?).map (fun f => (f.type, f.offset)) = some (tS, 0)) (h1 : (fs[1]?).map (fun f => (f.type, f.offset)) = some (tS, 1)) (hS : P.underlying tS = some .string) (hSc : P.cellsOf tS = 1)
  (ha : P.underlying tA = some (.struct fa)) (hA : P.cellsOf tA = 8) (a0 : (fa[0]?).map (fun f => (f.type, f.offset)) = some (tS, 0)) (a1 : (fa[1]?).map (fun f => (f.type, f.offset)) = some (tI, 1)) (a2 : (fa[2]?).map (fun f => (f.type, f.offset)) = some (tW, 2)) (a3 : (fa[3]?).map (fun f => (f.type, f.offset)) = some (tS, 6)) (a4 : (fa[4]?).map (fun f => (f.type, f.offset)) = some (tL, 7))
  (hI : P.underlying tI = some (.int .u64)) (hIc : P.cellsOf tI = 1) (hW : P.underlying tW = some (.array 4 tu)) (hWc : P.cellsOf tW = 4) (hu : P.underlying tu = some (.int .u64)) (huc : P.cellsOf tu = 1) (hL : P.underlying tL = some (.slice tT)) (hLc : P.cellsOf tL = 1)
  (hp : P.underlying tP = some (.struct fp)) (hPc : P.cellsOf tP = 1) (p0 : (fp[0]?).map (fun f => (f.type, f.offset)) = some (tX, 0)) (hX : P.underlying tX = some (.slice tA)) (hXc : P.cellsOf tX = 1)
  {r : Reach} {d : DataW H} {ps : List MemPlace} (hval : Value.okWide P w r b0 tP v) (hd : DataW.Trod enc P w base sp held tP v d ps) : ∃ s : StL, v = s.val ∧ s.In (Jg1 w) := by
 obtain ⟨fuel, h⟩ := hd
 have hl := vk hp hPc h
 generalize hcs : v.cells.toList = cs at h hl
 match cs, hl with
 | [c0], _ =>
  obtain ⟨n0, y0, _, e0⟩ := VT hp p0 hXc h
  obtain ⟨l, p, ep, hsg, hlen, hok⟩ := vT (f := AcL.cells) (ok := AcL.In (Jg1 w)) m7 AcL.len hX hA (fun m hm cs x hx => Ju0 ht hT h0 h1 hS hSc ha hA a0 a1 a2 a3 a4 hI hIc hW hWc hu huc hL hLc hx) e0
  obtain rfl : c0 = KE l.length p := by simpa using ep
  exact ⟨⟨l, p⟩, Jd5 hp hval hcs, ⟨hlen, hsg, hok⟩⟩
end
theorem Jyz {l : List Nat} (hl : WOk l) : xq (Yz l 32) = l := by
 have : xq (Yz l 32) = jX (dg l) 32 := Jlr fun i hi => by
  have h := qj l (n := 32) (m := 31 - i) m0
  have e : 32 - 1 - (31 - i) = i := by omega
  rw [e] at h
  rw [List.getD_eq_getElem?_getD, h, Option.getD_some, UInt8.toNat_ofNat', Nat.mod_eq_of_lt (Jdr l i)]
 rw [this, Jxt hl]
def bW (w : W4) : BS := Yz w.l 32
def uW (s : BS) : W4 := W4.of (wo s).1
theorem Jpc (s : BS) : WOk (wo s).1 := by
 unfold wo; split
 ·exact Jiv _
 ·exact J00
theorem J2r (s : BS) : (uW s).l = (wo s).1 := W4.of_l (Jpc s).1
theorem J2s {w : W4} (h : w.ok) : uW (bW w) = w := by
 apply W4.l_inj
 rw [J2r]
 unfold wo bW
 rw [if_pos (QC _ _)]
 exact Jyz h.wok
def wN1 (n : Nat) : W4 := ⟨n, 0, 0, 0⟩
def Jl2 (n : Nat) : BS := bW (wN1 n)
def Jl3 : Nat → Nat
 | 0 => 0
 | 1 => 1
 | 2 => 5
 | 3 => 6
 | 4 => 3
 | 5 => 7
 | _ => 8
def Jhe (f : Int) : Nat → Bool
 | 0 => true
 | 1 => true
 | 2 => decide (f ≤ 2)
 | 3 => decide (f ≤ 2)
 | 4 => decide (f ≥ 3)
 | 5 => decide (f ≥ 3)
 | _ => decide (f = 5)
def yS (r : Rec) : Nat → W4
 | 0 => ⟨r.number, r.time, 0, 0⟩
 | 1 => r.base
 | 2 => r.overhead
 | 3 => ⟨r.scalar, 0, 0, 0⟩
 | 4 => ⟨r.scalar, r.extra, 0, 0⟩
 | 5 => r.blob
 | _ => ⟨r.operator, 0, 0, 0⟩
def Ji9 (r : Rec) (w : W4) : Nat → Rec
 | 0 => { r with number := w.a, time := w.b }
 | 1 => { r with base := w }
 | 2 => { r with overhead := w }
 | 3 => { r with scalar := w.a }
 | 4 => { r with scalar := w.a, extra := w.b }
 | 5 => { r with blob := w }
 | _ => { r with operator := w.a }
theorem Jpd {r : Rec} (h : r.ok) (i : Nat) : (yS r i).ok := by
 unfold yS
 split
 ·exact ⟨h.number, h.time, WQ, WQ⟩
 ·exact h.base
 ·exact h.overhead
 ·exact ⟨h.scalar, WQ, WQ, WQ⟩
 ·exact ⟨h.scalar, h.extra, WQ, WQ⟩
 ·exact h.blob
 ·exact ⟨h.operator, WQ, WQ, WQ⟩
def yT (f : Int) (g : Nat → W4) : List Nat → Rec → Rec
 | [], out => out
 | i :: l, out => yT f g l (if Jhe f i then Ji9 out (g i) i else out)
def tab : List Nat := [0, 1, 2, 3, 4, 5, 6]
def Jpe (f : Int) (r : Rec) : Rec := yT f (yS r) tab Jyy
def Jja (f : Int) (a : AcE) : Rec := yT f (fun i => uW (QB a (Jl2 (Jl3 i)))) tab Jyy
def jK (f : Int) : Prop := 0 ≤ f ∧ f ≤ 5
instance (f : Int) : Decidable (jK f) := inferInstanceAs (Decidable (_ ∧ _))
theorem Jbp {f : Int} (h : jK f) : f = 0 ∨ f = 1 ∨ f = 2 ∨ f = 3 ∨ f = 4 ∨ f = 5 := by unfold jK at h; omega
def Jjb (f : Int) (r : Rec) : Bool := !((decide (f ≥ 3) && decide (r.overhead ≠ w40)) || (decide (f < 3) && (decide (r.extra ≠ 0) || decide (r.blob ≠ w40))) || (decide (f < 5) && decide (r.operator ≠ 0)))
theorem Jpf {f : Int} {r : Rec} (h : jK f) : Jpe f r = r ↔ Jjb f r = true := by
 obtain ⟨n, t, b, l, o, s, e, p⟩ := r
 rcases Jbp h with rfl | rfl | rfl | rfl | rfl | rfl <;>
  (simp [Jpe, yT, tab, Jhe, Ji9, yS, Jjb, Jyy]; try (constructor <;> (intro h; simp_all <;> omega)))
def Jd6 (which : Int) : BS := if which < 0 ∨ which > 1 then [] else 66 :: (List.replicate 18 0 ++ [UInt8.ofNat (1 + which).toNat])
def J2t : BS := [111, 110, 101]
def J2u : BS := [116, 119, 111]
def Jy0 : BS := [116, 104, 114, 101, 101]
def J03 : BS := [102, 105, 118, 101]
def J2v : BS := [102, 101, 101]
def xT (f which : Int) : BS × Bool := if which = 1 then (if f ≥ 2 then (J2v, true) else ([], false)) else if f = 0 then (J2t, true) else if f ≤ 2 then (J2u, true) else if f ≤ 4 then (Jy0, true) else (J03, true)
def A0 : BS := Jd6 0
def A1 : BS := Jd6 1
theorem vU {l : List (BS × BS)} {k v : BS} (h : KY Prod.fst l) : KY Prod.fst (Qy l k v) := by
 unfold Qy; split
 ·exact Jg9 h
 ·exact yN h
theorem Jl4 {l : List (BS × BS)} {k v j : BS} (h : KY Prod.fst l) : Wm Prod.fst j (Qy l k v) = if k = j then (if v = VJ then none else some (k, v)) else Wm Prod.fst j l := by
 unfold Qy
 by_cases hv : v = VJ
 ·rw [if_pos hv, if_pos hv, Jd2]
 ·rw [if_neg hv, if_neg hv, Jd1 h]
theorem yU {l : List (BS × BS)} {k v : BS} {x : BS × BS} (h : x ∈ Qy l k v) : (x = (k, v) ∧ v ≠ VJ) ∨ x ∈ l := by
 unfold Qy at h
 split at h
 ·exact .inr (Juu h)
 ·rename_i hv; exact (wJ h).imp (fun h => ⟨h, hv⟩) id
theorem Jy1 {a : AcE} {k v : BS} (h1 : Yh a = 0) (h2 : k.length = 32) (h3 : v.length = 32) (h4 : (Qy a.slots k v).length ≤ 16) : yO a k v = ({ a with slots := Qy a.slots k v }, 0) := by
 unfold yO
 rw [if_neg m0, if_neg m0, if_neg m0]
theorem Ju1 {a : AcE} {k v : BS} (h1 : Yh a = 0) (h2 : k.length = 32) (h3 : v.length = 32) (h4 : (Qy a.slots k v).length ≤ 16) : Yh { a with slots := Qy a.slots k v } = 0 := by
 obtain ⟨g1, g2, g3, g4, g5⟩ := WB h1
 refine Juw g1 (fun x hx => ?_) (vU g3) g4 h4
 rcases yU hx with ⟨rfl, hv⟩ | hx
 ·exact ⟨h2, h3, hv⟩
 ·exact g2 x hx
theorem Jl5 {a : AcE} {k v j : BS} (h : KY Prod.fst a.slots) : QB { a with slots := Qy a.slots k v } j = if k = j then v else QB a j := by
 unfold QB
 simp only
 rw [Jl4 h]
 by_cases hk : k = j
 ·rw [if_pos hk, if_pos hk]
  by_cases hv : v = VJ
  ·rw [if_pos hv]; exact hv.symm
  ·rw [if_neg hv]
 ·rw [if_neg hk, if_neg hk]
def Jbq : AcE → List (BS × BS) → AcE × Int
 | a, [] => (a, 0)
 | a, x :: l => if (yO a x.1 x.2).2 ≠ 0 then yO a x.1 x.2 else Jbq (yO a x.1 x.2).1 l
structure RowsOk (a b : AcE) (l : List (BS × BS)) : Prop where
  lk : Yh b = 0
  addr : b.addr = a.addr
  nonce : b.nonce = a.nonce
  bal : b.bal = a.bal
  code : b.code = a.code
  at_ : ∀ x ∈ l, QB b x.1 = x.2
  off : ∀ k, (∀ x ∈ l, x.1 ≠ k) → QB b k = QB a k
theorem Jpg {a : AcE} (h : Yh a = 0) {x : BS × BS} (hx : x ∈ a.slots) : QB a x.1 = x.2 ∧ x.2 ≠ VJ := by
 obtain ⟨_, g2, g3, _⟩ := WB h
 unfold QB
 rw [xQ g3 hx]
 exact ⟨rfl, (g2 x hx).2.2⟩
theorem Jph {a : AcE} {k : BS} (h : QB a k ≠ VJ) : (k, QB a k) ∈ a.slots := by
 unfold QB at h ⊢
 cases hl : Wm Prod.fst k a.slots with
 | none => rw [hl] at h; exact absurd rfl h
 | some x =>
  obtain ⟨h1, h2⟩ := xP hl
  simp only
  rw [← h1]; exact h2
theorem Jbr {α : Type} {kf : α → BS} : ∀ {m l : List α}, KY kf m → KY kf l → (∀ y ∈ l, y ∈ m) → l.length ≤ m.length
 | [], [], _, _, _ => Nat.le_refl _
 | [], y :: l, _, _, h => absurd (h y List.mem_cons_self) mh
 | z :: m, [], _, _, _ => Nat.zero_le _
 | z :: m, y :: l, hm, hl, h => by
  obtain ⟨m1, m2⟩ := List.pairwise_cons.1 hm
  obtain ⟨l1, l2⟩ := List.pairwise_cons.1 hl
  rcases List.mem_cons.1 (h y List.mem_cons_self) with e | hy
  ·rw [e] at l1
   have := Jbr (m := m) (l := l) m2 l2 fun x hx => by
    rcases List.mem_cons.1 (h x (List.mem_cons_of_mem _ hx)) with rfl | hx2
    ·have := l1 _ hx; rw [Zj] at this; cases this
    ·exact hx2
   simp only [List.length_cons]; omega
  ·have := Jbr (m := m) (l := y :: l) m2 hl fun x hx => by
    rcases List.mem_cons.1 (h x hx) with rfl | hx2
    ·have a1 := m1 y hy
     rcases List.mem_cons.1 hx with rfl | hx3
     ·rw [Zj] at a1; cases a1
     ·have := Wl a1 (l1 _ hx3); rw [Zj] at this; cases this
    ·exact hx2
   simp only [List.length_cons] at this ⊢; omega
theorem fill {a : AcE} (ha : Yh a = 0) : ∀ (l : List (BS × BS)) (x : AcE), Yh x = 0 → (∀ k, QB x k = QB a k ∨ QB x k = VJ) → (∀ p ∈ l, p.1.length = 32 ∧ p.2.length = 32 ∧ (p.2 = QB a p.1 ∨ p.2 = VJ)) → (Jbq x l).2 = 0
 | [], _, _, _, _ => rfl
 | p :: l, x, hx, hs, hp => by
  obtain ⟨p1, p2, p3⟩ := hp p List.mem_cons_self
  have hsx := (WB hx).2.2.1
  have hlen : (Qy x.slots p.1 p.2).length ≤ 16 := by
   refine Nat.le_trans (Jbr (kf := Prod.fst) (WB ha).2.2.1 (vU hsx) fun y hy => ?_) (WB ha).2.2.2.2
   have hne : y.2 ≠ VJ ∧ y.2 = QB a y.1 := by
    rcases yU hy with ⟨rfl, hv⟩ | hy
    ·exact ⟨hv, p3.resolve_right hv⟩
    ·obtain ⟨e1, e2⟩ := Jpg hx hy
     refine ⟨e2, ?_⟩
     rcases hs y.1 with h | h
     ·rw [← e1, h]
     ·rw [← e1] at e2; exact absurd h e2
   have h3 := Jph (a := a) (k := y.1) (by rw [← hne.2]; exact hne.1)
   rw [← hne.2] at h3
   exact h3
  unfold Jbq
  rw [Jy1 hx p1 p2 hlen, if_neg mh]
  refine fill ha l _ (Ju1 hx p1 p2 hlen) (fun k => ?_) fun q hq => hp q (List.mem_cons_of_mem _ hq)
  rw [Jl5 hsx]
  split
  ·rename_i e; subst e; exact p3
  ·exact hs k
theorem Jbs {s : List AcE} (hs : Qn s = 0) {k : BS} {a : AcE} (h : Wc s k = some a) : a.addr = k ∧ Yh a = 0 := by
 obtain ⟨h1, h2⟩ := xP h
 exact ⟨h1, (yP.1 hs).2.1 a h2⟩
def Ju2 (f : Int) (r : Rec) (i : Nat) : BS × BS := (Jl2 (Jl3 i), if Jhe f i then bW (yS r i) else VJ)
def Jhf (k : BS) : Prop := ∃ i ∈ tab, Jl2 (Jl3 i) = k
def Jhg (t : List AcE) (which : Int) : AcE := { (Wc t (Jd6 which)).getD ac0 with addr := Jd6 which }
theorem Jpi {s : List AcE} (hs : Qn s = 0) {w : Int} {a : AcE} (h : Wc s (Jd6 w) = some a) : Jhg s w = a := by
 unfold Jhg
 rw [h]
 obtain ⟨h1, _⟩ := Jbs hs h
 cases a
 simp only at h1
 simp [h1]
structure Wrote (f : Int) (s t : List AcE) (r : Rec) : Prop where
  forked : jK f
  fits : Jjb f r = true
  old : Qn s = 0
  new : Qn t = 0
  acct : ∃ b0, Wc t A0 = some b0 ∧ Yh b0 = 0 ∧ b0.addr = A0 ∧ b0.nonce = (Jhg s 0).nonce ∧ b0.bal = (Jhg s 0).bal ∧ b0.code = (xT f 0).1 ∧ (∀ i ∈ tab, QB b0 (Jl2 (Jl3 i)) = (Ju2 f r i).2) ∧ ∀ k, ¬ Jhf k → QB b0 k = QB (Jhg s 0) k
  others : ∀ k, k ≠ A0 → k ≠ A1 → Wc t k = Wc s k
  fee : if (xT f 1).2 = true then Wc t A1 = some { Jhg s 1 with code := (xT f 1).1 } else Wc t A1 = Wc s A1
def xU (s : List AcE) (k : BS) : AcE := (Wc s k).getD ac0
theorem yV {f : Int} {g g' : Nat → W4} : ∀ {l : List Nat} {out : Rec}, (∀ i ∈ l, Jhe f i = true → g i = g' i) → yT f g l out = yT f g' l out
 | [], _, _ => rfl
 | i :: l, out, h => by
  unfold yT
  have e : (if Jhe f i then Ji9 out (g i) i else out) = if Jhe f i then Ji9 out (g' i) i else out := by
   by_cases hi : Jhe f i = true
   ·rw [if_pos hi, if_pos hi, h i List.mem_cons_self hi]
   ·rw [if_neg hi, if_neg hi]
  rw [e]
  exact yV fun j hj => h j (List.mem_cons_of_mem _ hj)
theorem Jl6 {f : Int} {a : AcE} {r : Rec} (hf : jK f) (hr : r.ok) (hb : Jjb f r = true) (h : ∀ i ∈ tab, QB a (Jl2 (Jl3 i)) = (Ju2 f r i).2) : Jja f a = r := by
 have e : Jja f a = Jpe f r := yV fun i hi hh => by
  rw [h i hi]
  unfold Ju2
  simp only
  rw [if_pos hh]
  exact J2s (Jpd hr i)
 rw [e]
 exact (Jpf hf).2 hb
structure Checked (f : Int) (s : List AcE) (a : AcE) : Prop where
  forked : jK f
  st : Qn s = 0
  at0 : Wc s A0 = some a
  code : a.code = (xT f 0).1
  rows : ∀ i ∈ tab, QB a (Jl2 (Jl3 i)) = (Ju2 f (Jja f a) i).2
  fee : (xT f 1).2 = true → ∃ b, Wc s A1 = some b ∧ b.code = (xT f 1).1
theorem Wrote.checked {f : Int} {s t : List AcE} {r : Rec} (h : Wrote f s t r) (hr : r.ok) : ∃ a, Checked f t a ∧ Jja f a = r := by
 obtain ⟨h1, h2, h3, h4, ⟨b0, c1, c2, c3, c4, c5, c6, c7, c8⟩, h6, h7⟩ := h
 have e := Jl6 h1 hr h2 c7
 refine ⟨b0, ⟨h1, h4, c1, c6, by rw [e]; exact c7, fun hf => ?_⟩, e⟩
 rw [if_pos hf] at h7
 exact ⟨_, h7, rfl⟩
theorem Checked.lk {f : Int} {s : List AcE} {a : AcE} (h : Checked f s a) : Yh a = 0 := (Jbs h.st h.at0).2
theorem Checked.addr {f : Int} {s : List AcE} {a : AcE} (h : Checked f s a) : a.addr = A0 := (Jbs h.st h.at0).1
theorem Checked.old {f : Int} {s : List AcE} {a : AcE} (h : Checked f s a) : Jhg s 0 = a := Jpi h.st h.at0
structure Kept (s t : List AcE) : Prop where
  others : ∀ k, k ≠ A0 → k ≠ A1 → Wc t k = Wc s k
  there : ∀ k, (Wc s k).isSome = true → (Wc t k).isSome = true
  nonce : ∀ k, (xU t k).nonce = (xU s k).nonce
  bal : ∀ k, (xU t k).bal = (xU s k).bal
  slot : ∀ k j, (k = A0 → ¬ Jhf j) → QB (xU t k) j = QB (xU s k) j
theorem Kept.refl (s : List AcE) : Kept s s := ⟨fun _ _ _ => rfl, fun _ h => h, fun _ => rfl, fun _ => rfl, fun _ _ _ => rfl⟩
theorem Kept.trans {s t u : List AcE} (h : Kept s t) (k : Kept t u) : Kept s u :=
 ⟨fun x a b => (k.others x a b).trans (h.others x a b), fun x hx => k.there x (h.there x hx), fun x => (k.nonce x).trans (h.nonce x), fun x => (k.bal x).trans (h.bal x), fun x j hj => (k.slot x j hj).trans (h.slot x j hj)⟩
def Way (f g : Int) : Prop := 0 ≤ f ∧ f ≤ g ∧ g ≤ 5
instance (f g : Int) : Decidable (Way f g) := inferInstanceAs (Decidable (_ ∧ _))
def plS (sz a : Nat) : Pl → Pl
 | none => none
 | some (⟨b, o, s⟩, cap) => some (⟨b, if cap = a then o else o + a * sz, s⟩, cap - a)
theorem Seg.slice {R : Jp} {n a b : Nat} {cs : List Value} {p : Pl} (h : Seg R n cs p) (hl : cs.length = n * sz) (hab : a < b) (hb : b ≤ n) : Seg R (b - a) ((cs.drop (a * sz)).take ((b - a) * sz)) (plS sz a p) := by
 cases p with
 | none => have h : n = 0 := h; omega
 | some q =>
  obtain ⟨⟨r, o, s⟩, cap⟩ := q
  obtain ⟨h1, h2⟩ := h
  obtain ⟨h3, all, e, fr, h4, h5⟩ := h2 m0
  have hne : ¬ cap = a := by omega
  simp only [plS, if_neg hne]
  have hlen : ((cs.drop (a * sz)).take ((b - a) * sz)).length = (b - a) * sz := by
   rw [List.length_take, List.length_drop, hl, ← Nat.sub_mul]
   exact Nat.min_eq_left (Nat.mul_le_mul_right _ m0)
  refine ⟨by omega, fun _ => ⟨h3, all, e, fr, h4, ?_⟩⟩
  rw [hlen]
  exact Jdx h5 rfl hlen
section
variable {c : Cx} {l : Kx} {L : Jp} {X : XP} {Q : Exit → Act → World → Prop} {d : List Deferred}
variable {ops : Array Oper} {rest : List Oper} {i : Nat} {v : Value} {t : TypeId} {ps : String} {af : Array Edge} {gd : Option (Nat × Bool)} {ty t2 : TypeId}
theorem Jl7 {lo hi : Operand} {p : Pl} {R : Jp} {cs : List Value} {n e a b : Nat} {ka kb : IntKind} {za zb : Int} (hx : Kq l x = some (KE n p)) (hs : Seg R n cs p) (hlo : Kq l lo = some (.int ka za)) (hhi : Kq l hi = some (.int kb zb)) (ea : za = (a : Int)) (eb : zb = (b : Int)) (ht : Kw c.P t = some e) (hz : KZ c.P e = some sz) (hab : a < b) (hb : b ≤ n) (hm : b - a = m) :
  JC c d l L X ⟨some i, .slice t x (some lo) (some hi) none, ty, ps, af, gd⟩ (KE m (plS sz a p)) := by
 subst ea eb hm
 cases p with
 | none => have h : n = 0 := hs; omega
 | some q =>
  obtain ⟨⟨r, o, s⟩, cap⟩ := q
  obtain ⟨h1, h2⟩ := hs
  have h3 : s = none := (h2 m0).1
  subst h3
  exact JZ (kl := some a) (kh := some b) (km := none) hx ht hz ⟨_, hlo⟩ ⟨_, hhi⟩ trivial rfl rfl rfl m0 (by show b ≤ cap; omega) (Nat.le_refl _) (fun h => by cases h) rfl
theorem Jjc {a b : List UInt8} (hx : Kq l x = some (.string (bs a))) (hy : Kq l y = some (.string (bs b))) :
  JC c d l L X ⟨some i, .binOp .geq t x y t2, ty, ps, af, gd⟩ (.bool (!Op.bytesLess a b)) := fun a' w hf _ => by
 simp only [execOp]
 rw [hf.eval hx, hf.eval hy]
 simp only [binOp, eqGuard, Op.stringOp, Sem.run_bind, YB]
 rfl
theorem Jbt {a b : List UInt8} (hx : Kq l x = some (.string (bs a))) (hy : Kq l y = some (.string (bs b))) :
  JC c d l L X ⟨some i, .binOp .gtr t x y t2, ty, ps, af, gd⟩ (.bool (Op.bytesLess b a)) := fun a' w hf _ => by
 simp only [execOp]
 rw [hf.eval hx, hf.eval hy]
 have e : (!(Op.bytesLess a b || decide (a = b))) = Op.bytesLess b a := by
  rcases Jbm a b with h | h | h
  ·subst h; rw [Zj]; simp
  ·rw [h, Jbn h]; simp
  ·rw [h, Jbn h]; simp [(xO h).symm]
 rw [← e]
 have e2 : (a == b) = decide (a = b) := by by_cases h : a = b <;> simp [h]
 rw [← e2]
 simp only [binOp, eqGuard, Op.stringOp, Sem.run_bind, YB]
 rfl
theorem jL  {e n : Nat} {a : Option Addr} {r2 : Option Addr} (hg : Kv l ops ⟨some i, .call ⟨.builtin .append, #[x, y], #[t, t]⟩, ty, ps, af, gd⟩ = some true) (hi : Nat.ble (i + 1) c.n = true)
  (hx : Kq l x = some (.slice a n cap)) (hy : Kq l y = some (.slice r2 0 c2)) (ht : Kw c.P t = some e) (hs : KZ c.P e = some sz) (hle : n ≤ cap)
  (h : HL c d ((i, .slice a n cap) :: l) L X ops rest Q) : HL c d l L X ops (⟨some i, .call ⟨.builtin .append, #[x, y], #[t, t]⟩, ty, ps, af, gd⟩ :: rest) Q := by
 obtain ⟨inf, hinf, hs'⟩ : ∃ inf, c.P.info? e = some inf ∧ inf.size = sz := by
  unfold KZ at hs
  cases hq : c.P.info? e with
  | none => simp [hq] at hs
  | some inf => simp only [hq, Option.some.injEq] at hs; exact ⟨inf, rfl, hs⟩
 refine qa hg rfl rfl hi (fun a' w hf _ => ?_) h
 have ex := hf.eval hx
 have ey := hf.eval hy
 have hl : ∀ (q : Addr), (loadCells q 0).run c.P w = .ok #[] w := fun q => by simpa using run_loadCells_list (P := c.P) w q [] mh
 cases r2 <;> cases a <;> simp [execOp, resolve, Sem.run_bind, ex, ey, Result.andThen, invoke, builtin, Builtin.append_, Qx (Kt ht), sizeOf, typeInfo, hinf, Builtin.lenOf, hle, Builtin.firstCells, hl, storeCells]
theorem Jjd {p : Option Addr} {n : Nat} (hx : Kq l x = some (.slice p n cap)) (ht : Kw c.P t = some e) :
  JC c d l L X ⟨some i, .call ⟨.builtin .cap, #[x], #[t]⟩, ty, ps, af, gd⟩ (.int .i64 cap) := fun a w hf _ => by
 have ex := hf.eval hx
 simp [execOp, resolve, Sem.run_bind, ex, Result.andThen, invoke, builtin, Builtin.cap_, Qx (Kt ht), goInt]
theorem vV  {e k r1 o1 o2 n1 c1 n2 : Nat} {cs1 : Array Value} {tR : TypeId}
  (hf : Kq l f = some (.func (.func g) #[] #[])) (hx : Kq l x = some (.slice (some ⟨r1, o1, none⟩) n1 c1)) (hy : Kq l y = some (.slice (some ⟨r2, o2, none⟩) n2 c2)) (hk1 : (r1, Obj.cells cs1 e1 (0, 0)) ∈ c.R) (hk2 : L[k]? = some (r2, .cells cs2 e2 (0, 0)))
  (ht : Kw c.P t = some e) (hs : KZ c.P e = some sz) (h0 : 0 < cs2.size) (hF : c.P.funcs[g]? = some fn) (hn1 : (fn.name == "runtime.NumGoroutine") = false) (hb : fn.body.isNone = true) (hn2 : Extern.findNext fn = none) (he : Extern.find fn = some (Extern.SlicesOverlaps.overlaps #[t, t] #[tR])) :
  JC c d l L X ⟨some i, .call ⟨.value f, #[x, y], at_⟩, ty, ps, af, gd⟩ (.bool false) := fun a w hfr hst =>
 Jhb hf hx hy (hst.apart hk2 _ hk1) (Or.inr hk1) (ww hk2) ht hs h0 hF hn1 hb hn2 he a w hfr hst
theorem XW {e : Nat} (hg : Kv l ops ⟨some i, .buildSlice t 0 #[], ty, ps, af, gd⟩ = some true) (hi : Nat.ble (i + 1) c.n = true) (ht : Kw c.P t = some e) (hs : KZ c.P e = some sz)
  (h : ∀ q, HL c d ((i, .slice (some ⟨q, 0, none⟩) 0 0) :: l) ((q, .cells #[] e (0, 0)) :: L) X ops rest Q) : HL c d l L X ops (⟨some i, .buildSlice t 0 #[], ty, ps, af, gd⟩ :: rest) Q := by
 refine W6 (V := fun q => .slice (some ⟨q, 0, none⟩) 0 0) (L' := fun q => (q, .cells #[] e (0, 0)) :: L) (X' := fun _ => X) hg rfl rfl hi (fun a w hfr hst => ⟨w.heap.size, w.alloc (.cells #[] e), ?_, hst.alloc _⟩) h
 simp [execOp, Instr.buildSlice, Sem.run_bind, Qx (Kt ht), VN hs, Result.andThen, Instr.fill, newRow]
 rw [show Array.range 0 = (#[] : Array Nat) from by decide]
 simp
theorem yW  {k e b n : Nat} {q : Addr × Nat} {cs : List Value} {R : Jp}
  (hg : Kv l ops ⟨some i, .call ⟨.builtin .append, #[x, y], #[t, t]⟩, ty, ps, af, gd⟩ = some true) (hi : Nat.ble (i + 1) c.n = true) (hx : Kq l x = some (.slice (some ⟨r, 0, none⟩) 0 0)) (hk : L[k]? = some (r, .cells #[] e (0, 0))) (hL : L.eraseIdx k = L0)
  (hy : Kq l y = some (KE n (some q))) (hs : Seg R n cs (some q)) (hR : ∀ q ∈ R, known c L q.1 q.2) (ht : Kw c.P t = some e) (hz : QL c.P e = some z) (hsz : KZ c.P e = some sz) (hb : Ja1 c.P e = some b) (hzs : z.cells.size = sz) (h0 : 0 < sz)
  (hcs : cs.length = n * sz) (hone : cs.all Va = true) (h63 : n ≤ 9223372036854775807) (h47 : n * b ≤ 140737488355328)
  (h : ∀ row, rowOk sz n cs row → HL c d ((i, J3 n row) :: l) (JJ e cs row ++ L0) X ops rest Q) : HL c d l L X ops (⟨some i, .call ⟨.builtin .append, #[x, y], #[t, t]⟩, ty, ps, af, gd⟩ :: rest) Q := by
 obtain ⟨⟨r2, o2, s2⟩, cap⟩ := q
 obtain ⟨hs1, hs2⟩ := hs
 by_cases hn : n = 0
 ·subst hn
  have hc0 : cs = [] := List.length_eq_zero_iff.1 (by rw [hcs, Nat.zero_mul])
  subst hc0
  refine jL hg hi hx hy ht hsz (Nat.le_refl _) ?_
  refine KR ?_ (h (some (r, 0, [])) ⟨by simp, by simp⟩)
  have h1 := (List.getElem?_eq_some_iff.1 hk)
  have := yo h1.1 (r, Obj.cells #[] e (0, 0))
  rw [hL, ← h1.2, List.set_getElem_self, h1.2] at this
  exact this
 ·obtain ⟨h3, all, e', fr, h4, h5⟩ := hs2 m0
  have h3 : s2 = none := h3
  subst h3
  rw [hcs] at h5
  refine WU hg hi hx hy (hR _ h4) ht hz hsz hb hzs h0 h5 hcs hone m0 (SlOwn.own (n := 0) (cap := 0) (xs := []) hk mh mh mh hL) m0 (by rw [Nat.zero_add]; exact h47) fun r' cap' spare hsp => ?_
  have := h (some (r', cap', spare)) ⟨hcs, by rw [Nat.zero_add] at hsp; exact hsp⟩
  simpa [J3, JJ] using this
end
def Zk {α : Type} (pr : α → Bool) (xs : List α) : Int := match xs.findIdx? pr with
 | some i => (i : Int)
 | none => -1
theorem Jd7 (h : ∀ (j : Nat) x, xs[j]? = some x → pr x = false) : Zk pr xs = -1 := by
 unfold Zk
 have : xs.findIdx? pr = none := by
  rw [List.findIdx?_eq_none_iff]
  intro x hx
  obtain ⟨j, hj, rfl⟩ := List.mem_iff_getElem.1 hx
  simpa using h j _ (List.getElem?_eq_getElem hj)
 rw [this]
theorem Jd8 {x : α} (hx : xs[i]? = some x) (hp : pr x = true) (h : ∀ j, j < i → ∀ y, xs[j]? = some y → pr y = false) : Zk pr xs = (i : Int) := by
 unfold Zk
 obtain ⟨h1, h2⟩ := List.getElem?_eq_some_iff.1 hx
 have : xs.findIdx? pr = some i := by
  rw [List.findIdx?_eq_some_iff_getElem]
  exact ⟨h1, by rw [h2]; exact hp, fun j hj => by simpa using h j hj _ (List.getElem?_eq_getElem m0)⟩
 rw [this]
theorem Ju3 : decide (Zk pr xs ≥ 0) = xs.any pr := by
 unfold Zk
 cases h : xs.findIdx? pr with
 | none =>
  rw [List.findIdx?_eq_none_iff] at h
  have : xs.any pr = false := by rw [List.any_eq_false]; intro x hx; simpa using h x hx
  rw [this]; rfl
 | some i =>
  rw [List.findIdx?_eq_some_iff_getElem] at h
  obtain ⟨h1, h2, _⟩ := h
  have : xs.any pr = true := List.any_eq_true.2 ⟨xs[i], List.getElem_mem _, h2⟩
  rw [this]; simp
theorem yX : (Zk pr xs < 0 ∧ xs.find? pr = none) ∨ ∃ (i : Nat) (x : α), Zk pr xs = (i : Int) ∧ xs[i]? = some x ∧ xs.find? pr = some x := by
 unfold Zk
 cases h : xs.findIdx? pr with
 | none =>
  rw [List.findIdx?_eq_none_iff] at h
  exact .inl ⟨by simp, by rw [List.find?_eq_none]; intro x hx; simpa using h x hx⟩
 | some i =>
  rw [List.findIdx?_eq_some_iff_getElem] at h
  obtain ⟨h1, h2, h3⟩ := h
  refine .inr ⟨i, xs[i], rfl, List.getElem?_eq_getElem h1, ?_⟩
  rw [List.find?_eq_some_iff_getElem]
  exact ⟨h2, i, h1, rfl, fun j hj => by simpa using h3 j hj⟩
theorem Jje (h : 0 ≤ Zk pr xs) : ∃ (i : Nat) (x : α), Zk pr xs = (i : Int) ∧ xs[i]? = some x ∧ xs.find? pr = some x := by
 rcases yX (pr := pr) (xs := xs) with ⟨h1, _⟩ | h1
 ·omega
 ·exact h1
theorem yY (h : Zk pr xs < 0) : xs.find? pr = none := by
 rcases yX (pr := pr) (xs := xs) with ⟨_, h1⟩ | ⟨i, x, h1, _⟩
 ·exact h1
 ·omega
section
variable {α : Type} {kf : α → BS}
def ws (a b : BS) : Int := if Op.bytesLess a b then -1 else if Op.bytesLess b a then 1 else 0
theorem Jjf (a b : BS) : decide (ws a b < 0) = Op.bytesLess a b := by
 unfold ws
 cases Op.bytesLess a b
 ·cases Op.bytesLess b a <;> rfl
 ·rfl
theorem Jd9 (a b : BS) : (ws a b == 0) = decide (a = b) := by
 unfold ws
 rcases Jbm a b with h | h | h
 ·subst h; rw [Zj]; simp
 ·rw [h]; simp [xO h]
 ·rw [h, Jbn h]; simp [(xO h).symm]
def jY (kf : α → BS) (k : BS) (xs : List α) : Nat := (xs.takeWhile fun x => Op.bytesLess (kf x) k).length
def Ws (kf : α → BS) (k : BS) (xs : List α) : Bool := match xs[jY kf k xs]? with
 | some x => decide (kf x = k)
 | none => false
theorem Jpj (k : BS) (xs : List α) : jY kf k xs ≤ xs.length := by
 unfold jY
 have := (List.takeWhile_prefix (p := fun x => Op.bytesLess (kf x) k) (l := xs)).length_le
 exact this
theorem Jpk {k : BS} : ∀ {xs : List α} {i : Nat}, i ≤ xs.length → (∀ q y, q < i → xs[q]? = some y → Op.bytesLess (kf y) k = true) → (∀ y, xs[i]? = some y → Op.bytesLess (kf y) k = false) → i = jY kf k xs
 | [], i, h, _, _ => by simp [jY] at h ⊢; exact h
 | x :: xs, 0, _, _, h2 => by
  have := h2 x rfl
  simp [jY, List.takeWhile_cons, this]
 | x :: xs, i + 1, h, h1, h2 => by
  have h0 := h1 0 x m0 rfl
  have := Jpk (xs := xs) (i := i) nz (fun q y hq hy => h1 (q + 1) y m0 hy) (fun y hy => h2 y hy)
  unfold jY at this ⊢
  rw [List.takeWhile_cons, h0]
  simp only [if_true, List.length_cons]
  omega
theorem Jxz {k : BS} : ∀ {xs : List α} {q : Nat} {y : α}, q < jY kf k xs → xs[q]? = some y → Op.bytesLess (kf y) k = true
  | [], q, y, h, _ => by simp [jY] at h
  | x :: xs, q, y, h, hy => by
    unfold jY at h
    rw [List.takeWhile_cons] at h
    split at h
    · rename_i hx
      cases q with
      | zero => obtain rfl : x = y := by simpa using hy
                exact hx
      | succ q => exact Jxz (xs := xs) (q := q) (by simpa [jY] using h) MR
    · simp at h
theorem Jx0 {k : BS} : ∀ {xs : List α} {q : Nat} {y : α}, KY kf xs → jY kf k xs ≤ q → xs[q]? = some y → Op.bytesLess (kf y) k = false
  | [], q, y, _, _, hy => by simp at hy
  | x :: xs, q, y, hs, h, hy => by
    obtain ⟨s1, s2⟩ := List.pairwise_cons.1 hs
    unfold jY at h
    rw [List.takeWhile_cons] at h
    split at h
    · cases q with
      | zero => simp at h
      | succ q => exact Jx0 (xs := xs) (q := q) s2 (by simpa [jY] using h) MR
    · rename_i hx
      have hx : Op.bytesLess (kf x) k = false := by simpa using hx
      cases q with
      | zero => obtain rfl : x = y := by simpa using hy
                exact hx
      | succ q =>
        have hm : y ∈ xs := List.mem_of_getElem? MR
        cases hyk : Op.bytesLess (kf y) k
        · rfl
        · rw [Wl (s1 y hm) hyk] at hx; cases hx
theorem Jea {k : BS} {xs : List α} (hs : KY kf xs) {h : Nat} {x : α} (hx : xs[h]? = some x) (hb : Op.bytesLess (kf x) k = true) : ∀ q y, q < h + 1 → xs[q]? = some y → Op.bytesLess (kf y) k = true := fun q y hq hy => by
 rcases Nat.lt_succ_iff_lt_or_eq.1 hq with hq | rfl
 ·have hp := List.pairwise_iff_getElem.1 hs q h (List.getElem?_eq_some_iff.1 hy).1 (List.getElem?_eq_some_iff.1 hx).1 hq
  rw [(List.getElem?_eq_some_iff.1 hy).2, (List.getElem?_eq_some_iff.1 hx).2] at hp
  exact Wl hp hb
 ·rw [hx] at hy; cases hy; exact hb
theorem Jeb {k : BS} {xs : List α} (hs : KY kf xs) {h : Nat} {x : α} (hx : xs[h]? = some x) (hb : Op.bytesLess (kf x) k = false) : ∀ q y, h ≤ q → xs[q]? = some y → Op.bytesLess (kf y) k = false := fun q y hq hy => by
 rcases Nat.lt_or_eq_of_le hq with hq | rfl
 ·have hp := List.pairwise_iff_getElem.1 hs h q (List.getElem?_eq_some_iff.1 hx).1 (List.getElem?_eq_some_iff.1 hy).1 hq
  rw [(List.getElem?_eq_some_iff.1 hy).2, (List.getElem?_eq_some_iff.1 hx).2] at hp
  cases hyk : Op.bytesLess (kf y) k
  ·rfl
  ·rw [Wl hp hyk] at hb; cases hb
 ·rw [hx] at hy; cases hy; exact hb
theorem Jec {k : BS} {xs : List α} {x : α} (h : xs[jY kf k xs]? = some x) : Ws kf k xs = decide (kf x = k) := by unfold Ws; rw [h]
theorem vl {k : BS} {xs : List α} (h : xs.length ≤ jY kf k xs) : Ws kf k xs = false := by unfold Ws; rw [List.getElem?_eq_none h]
theorem Jpl {x : α} {xs : List α} (hs : KY kf xs) : QO kf x xs = if Ws kf (kf x) xs = true then xs.set (jY kf (kf x) xs) x else xs.take (jY kf (kf x) xs) ++ x :: xs.drop (jY kf (kf x) xs) := by
 obtain ⟨i, hi⟩ : ∃ i, i = jY kf (kf x) xs := ⟨_, rfl⟩
 have hle : i ≤ xs.length := hi ▸ Jpj _ _
 have h := Jo8 (kf := kf) (x := x) (p := xs.take i) (q := xs.drop i) (fun y hy => by
  obtain ⟨j, e⟩ := List.mem_iff_getElem?.1 hy
  have hj := (List.getElem?_eq_some_iff.1 e).1
  rw [List.length_take] at hj
  rw [List.getElem?_take, if_pos m0] at e
  exact Jxz m0 e) (fun y hy => by
  obtain ⟨j, e⟩ := List.mem_iff_getElem?.1 hy
  rw [List.getElem?_drop] at e
  exact Jx0 hs m0 e)
 rw [List.take_append_drop] at h
 rw [h]
 unfold Ws
 rw [← hi]
 by_cases hlt : i < xs.length
 ·rw [List.getElem?_eq_getElem hlt, List.drop_eq_getElem_cons hlt]
  simp only [decide_eq_true_eq]
  split
  ·rw [List.set_eq_take_append_cons_drop, if_pos hlt]
  ·rfl
 ·rw [List.getElem?_eq_none m0, List.drop_of_length_le m0]
  simp
end
def fV (f : FuncId) : Value := .func (.func f) #[] #[]
theorem jy {α : Type} {kf : α → BS} : ∀ {xs : List α}, (∀ (j : Nat) x y, xs[j]? = some x → xs[j + 1]? = some y → Op.bytesLess (kf x) (kf y) = true) → Vd kf xs = true
 | [], _ => rfl
 | [_], _ => rfl
 | x :: y :: xs, h => by
  rw [Vd, h 0 x y rfl rfl, Bool.true_and]
  exact jy fun j u v hu hv => h (j + 1) u v (by simpa using hu) (by simpa using hv)
theorem qx {α : Type} {kf : α → BS} : ∀ {xs : List α} {j : Nat} {x y : α}, xs[j]? = some x → xs[j + 1]? = some y → Op.bytesLess (kf x) (kf y) = false → Vd kf xs = false
 | [], _, _, _, h, _, _ => by simp at h
 | [_], _, _, _, _, h, _ => by simp at h
 | a :: b :: xs, 0, x, y, hx, hy, h => by
  obtain rfl : a = x := by simpa using hx
  obtain rfl : b = y := by simpa using hy
  rw [Vd, h, Bool.false_and]
 | a :: b :: xs, j + 1, x, y, hx, hy, h => by
  rw [Vd, qx (xs := b :: xs) (j := j) Nd MR h, Bool.and_false]
theorem Zl {α : Type} {f : α → List Value} (h : ∀ x, (f x).all Va = true) : ∀ l : List α, (l.flatMap f).all Va = true
 | [] => rfl
 | x :: l => by rw [List.flatMap_cons, List.all_append, h, Zl h l]; rfl
theorem cut {l : List Value} {a : Nat} (h : a ≤ l.length) : ∃ x y, l = x ++ y ∧ x.length = a := ⟨l.take a, l.drop a, (List.take_append_drop ..).symm, by rw [List.length_take]; omega⟩
theorem Jed {k : BS} (h : Ws kf k xs = true) : jY kf k xs < xs.length := by
 rcases Nat.lt_or_ge (jY kf k xs) xs.length with h1 | h1
 ·exact h1
 ·rw [vl h1] at h; cases h
theorem row_some {n : Nat} {xs : List Value} (h : rowOk sz n xs row) (hn : 0 < n) : ∃ r cap sp, row = some (r, cap, sp) := by
 cases row with
 | none => have := h.1; omega
 | some q => obtain ⟨r, cap, sp⟩ := q; exact ⟨r, cap, sp, rfl⟩
theorem XX {P M S V : List Value} {o n : Nat} (ho : P.length = o) (hn : M.length = n) : (P ++ (M ++ S)).take o ++ V ++ (P ++ (M ++ S)).drop (o + n) = P ++ (V ++ S) := by
 subst ho hn
 rw [List.take_left' rfl, ← List.drop_drop, List.drop_left' rfl, List.drop_left' rfl, List.append_assoc]
theorem Jjg {f : α → List Value} (hf : ∀ x, (f x).length = m) (hj : j < xs.length) (y : α) (sp : List Value) :
  (xs.flatMap f ++ sp).take (j * m) ++ f y ++ (xs.flatMap f ++ sp).drop (j * m + m) = (xs.set j y).flatMap f ++ sp := by
 have e : xs = xs.take j ++ xs[j] :: xs.drop (j + 1) := by rw [← List.drop_eq_getElem_cons hj, List.take_append_drop]
 have e1 : xs.flatMap f ++ sp = (xs.take j).flatMap f ++ (f xs[j] ++ ((xs.drop (j + 1)).flatMap f ++ sp)) := by
  rw [show xs.flatMap f = (xs.take j ++ xs[j] :: xs.drop (j + 1)).flatMap f from congrArg (List.flatMap f) e, List.flatMap_append, List.flatMap_cons, List.append_assoc, List.append_assoc]
 have e2 : (xs.set j y).flatMap f ++ sp = (xs.take j).flatMap f ++ (f y ++ ((xs.drop (j + 1)).flatMap f ++ sp)) := by
  rw [List.set_eq_take_append_cons_drop, if_pos hj]
  simp [List.flatMap_append, List.flatMap_cons]
 rw [e1, e2]
 exact XX (by rw [Qq hf, List.length_take]; congr 1; omega) (hf _)
theorem Pure.toR {f : FuncId} {args : Array Value} {R : Jp} (h : Pure P f args v) : PureR P f args v R := ⟨fun w _ => h.run w⟩
theorem Jl8 {f : α → List Value} (hf : ∀ x, (f x).length = m) {x y : α} (hx : xs[i]? = some x) (hy : xs[i + 1]? = some y) : ((xs.flatMap f).drop (i * m)).take (2 * m) = [x, y].flatMap f := by
 have h1 := Yq hf hx
 have h2 := Yq hf hy
 rw [show 2 * m = m + m by omega, List.take_add, h1, List.drop_drop, show i * m + m = (i + 1) * m by rw [Nat.succ_mul], h2]
 simp
def WC (s : StL) (k : BS) : AcL := (s.accts.find? fun a => decide (a.addr = k)).getD ac0L
def Xy (s : StL) (k : BS) : Bool := (s.accts.find? fun a => decide (a.addr = k)).isSome
theorem Jee {l : List AcL} {k : BS} : Wm AcE.addr k (l.map AcL.er) = (l.find? fun a => decide (a.addr = k)).map AcL.er := by
 induction l with
 | nil => rfl
 | cons a l ih =>
  rw [List.map_cons, QW, ih, List.find?_cons]
  by_cases h : a.addr = k
  ·rw [if_pos (show a.er.addr = k from h), decide_eq_true h]; rfl
  ·rw [if_neg (show ¬ a.er.addr = k from h), decide_eq_false h]
theorem Jpm (s : StL) (k : BS) : Xy s k = (Wc s.er k).isSome := by
 unfold Xy Wc StL.er
 rw [Jee]
 cases s.accts.find? fun a => decide (a.addr = k) <;> rfl
theorem Ju4 (s : StL) (k : BS) : (WC s k).er = (Wc s.er k).getD ac0 := by
 unfold WC Wc StL.er
 rw [Jee]
 cases s.accts.find? fun a => decide (a.addr = k) <;> rfl
theorem Ju5 {R : Jp} {s : StL} (h : s.In R) (k : BS) : (WC s k).In R := by
 unfold WC
 cases hx : s.accts.find? fun a => decide (a.addr = k) with
 | none => exact Jpa
 | some a => exact h.accts a (List.mem_of_find?_eq_some hx)
theorem Jef {s : StL} {k : BS} {a : AcL} (h : (s.accts.find? fun a => decide (a.addr = k)) = some a) : WC s k = a ∧ Xy s k = true := by
 unfold WC Xy; rw [h]; exact ⟨rfl, rfl⟩
theorem xV {s : StL} {k : BS} (h : (s.accts.find? fun a => decide (a.addr = k)) = none) : WC s k = ac0L ∧ Xy s k = false := by
 unfold WC Xy; rw [h]; exact ⟨rfl, rfl⟩
theorem Jpn {a : AcE} {k : BS} {x : BS × BS} (h : (a.slots.find? fun y => decide (y.1 = k)) = some x) : QB a k = x.2 := by
 unfold QB Wm
 rw [show (fun y : BS × BS => y.1 == k) = fun y => decide (y.1 = k) from funext fun y => by by_cases e : y.1 = k <;> simp [e], h]
theorem Jl9 {a : AcE} {k : BS} (h : (a.slots.find? fun y => decide (y.1 = k)) = none) : QB a k = VJ := by
 unfold QB Wm
 rw [show (fun y : BS × BS => y.1 == k) = fun y => decide (y.1 = k) from funext fun y => by by_cases e : y.1 = k <;> simp [e], h]
theorem Jhh (x y : α) : Vd kf [x, y] = Op.bytesLess (kf x) (kf y) := by
 rw [Vd, Vd, Bool.and_true]
def Xo (l : List AcE) : Nat → Option BS
 | 0 => none
 | i + 1 => l[i]?.map AcE.addr
theorem Jjh {l : List AcE} {a : AcE} (h : l[i]? = some a) : goS (Xo l i) (l.drop i) = if V0 (Xo l i) a ≠ 0 then V0 (Xo l i) a else goS (Xo l (i + 1)) (l.drop (i + 1)) := by
 rw [X7 h, goS, show Xo l (i + 1) = some a.addr from by show Option.map AcE.addr l[i]? = _; rw [h]; rfl]
theorem Y3 {s : StL} {a : AcL} (h : s.accts[i]? = some a) : s.er[i]? = some a.er := by unfold StL.er; rw [List.getElem?_map, h]; rfl
theorem Seg.two {f : α → List Value} (hf : ∀ x, (f x).length = m) {R : Jp} {p : Pl} (h : Seg R xs.length (xs.flatMap f) p) {x y : α} (hx : xs[j]? = some x) (hy : xs[i]? = some y) (e : j + 1 = i) : Seg R [x, y].length ([x, y].flatMap f) (plS m j p) := by
 subst e
 have hlt := (List.getElem?_eq_some_iff.1 hy).1
 have h1 := h.slice (sz := m) (a := j) (b := j + 2) (Qq hf xs) m0 m0
 rw [show j + 2 - j = 2 by omega, Jl8 hf hx hy] at h1
 exact h1
theorem Jji {a : AcE} {b : BS} (h : Yh a ≠ 2) (hl : last = some b) (hb : Op.bytesLess b a.addr = false) : V0 last a = 11 := by unfold V0; rw [if_pos ⟨h, b, hl, hb⟩]
theorem Jbu {a : AcE} (h : Yh a = 2 ∨ last = none ∨ ∃ b, last = some b ∧ Op.bytesLess b a.addr = true) : V0 last a = Yh a := by
 unfold V0
 rw [if_neg]
 rintro ⟨h1, b, h2, h3⟩
 rcases h with h | h | ⟨c, h, h4⟩
 ·exact h1 h
 ·rw [h] at h2; cases h2
 ·rw [h] at h2; cases h2; rw [h3] at h4; cases h4
theorem Jbv {s : StL} {x : AcL} (hx : s.accts[j]? = some x) (e : j + 1 = i) : Xo s.er i = some x.addr := by
 subst e; show Option.map AcE.addr s.er[j]? = _; rw [Y3 hx]; rfl
theorem Jjj (s : StL) : (32 < (s.accts.length : Int) → Qn s.er = 5) ∧ (¬ 32 < (s.accts.length : Int) → Qn s.er = goS none s.er) := by
 unfold Qn
 rw [s.er_len]
 exact ⟨fun h => by rw [if_pos m0], fun h => by rw [if_neg m0]⟩
theorem PureR.mono {f : FuncId} {args : Array Value} {R : Jp} (h : PureR P f args v R) (hs : ∀ q ∈ R, q ∈ R') : PureR P f args v R' := ⟨fun w hw => h.run w fun p hp => hw p (hs p hp)⟩
def Qv : Vn → Pl
 | none => none
 | some (r, cap, _) => some (⟨r, 0, none⟩, cap)
theorem Vw (n : Nat) (row : Vn) (h : row = none → n = 0) : KE n (Qv row) = J3 n row := by
 cases row with
 | none => rw [h rfl]; rfl
 | some q => rfl
theorem Ke {n e : Nat} {cs : List Value} (h : rowOk sz n cs row) (h0 : 0 < sz) : Seg (JJ e cs row) n cs (Qv row) := by
 cases row with
 | none => exact h.1
 | some q =>
  obtain ⟨r, cap, sp⟩ := q
  obtain ⟨h1, h2⟩ := h
  exact ⟨Nat.le_of_mul_le_mul_right (by omega : n * sz ≤ cap * sz) h0, fun _ => ⟨rfl, _, e, (0, 0), List.mem_cons_self, by simp⟩⟩
theorem Ju6 (h : Zk pr xs = (i : Int)) : i < xs.length ∧ (xs.take (i + 1)).filter (fun x => !pr x) = xs.take i := by
 unfold Zk at h
 split at h
 ·rename_i j hj
  obtain rfl : j = i := by omega
  rw [List.findIdx?_eq_some_iff_getElem] at hj
  obtain ⟨h1, h2, h3⟩ := hj
  refine ⟨h1, ?_⟩
  rw [List.take_succ_eq_append_getElem h1, List.filter_append, List.filter_eq_self.2, List.filter_eq_nil_iff.2, List.append_nil]
  ·intro x hx
   rw [List.mem_singleton.1 hx]; simp [h2]
  ·intro x hx
   obtain ⟨q, hq, rfl⟩ := List.mem_iff_getElem.1 hx
   rw [List.getElem_take]
   simp only [List.length_take] at hq
   simpa using h3 q m0
 ·omega
theorem Ju7 (h : Zk pr xs < 0) : xs.filter (fun x => !pr x) = xs := by
 rw [List.filter_eq_self]
 intro x hx
 have := yY h
 rw [List.find?_eq_none] at this
 simpa using this x hx
theorem YF {x : α} (hx : xs[j]? = some x) : (xs.take (j + 1)).filter pr = (xs.take j).filter pr ++ (if pr x then [x] else []) := by
 obtain ⟨h1, h2⟩ := List.getElem?_eq_some_iff.1 hx
 rw [List.take_succ_eq_append_getElem h1, List.filter_append, h2]
 congr 1
 by_cases h : pr x = true <;> simp [h]
theorem Jeg {f : α → List Value} {x : α} (hx : xs[j]? = some x) : (xs.drop j).flatMap f = f x ++ (xs.drop (j + 1)).flatMap f := by rw [X7 hx, List.flatMap_cons]
structure AcRes (R : Jp) (e : AcE × Int) : Type where
  a : AcL
  err : Int
  L : Jp
  ok : a.In (L ++ R)
  eq : (a.er, err) = e
structure StRes (R : Jp) (e : List AcE × Int) : Type where
  s : StL
  err : Int
  L : Jp
  ok : s.In (L ++ R)
  eq : (s.er, err) = e
def AcRes.val {R : Jp} {e : AcE × Int} (x : AcRes R e) : Value := .tuple #[x.a.val, .int .i64 x.err]
def StRes.val {R : Jp} {e : List AcE × Int} (x : StRes R e) : Value := .tuple #[x.s.val, .int .i64 x.err]
theorem ZN (n : Nat) (row : Vn) : Va (J3 n row) = true := by cases row <;> rfl
theorem Jhi {k v : BS} {l : List (BS × BS)} : (QO Prod.fst (k, v) l).filter (fun x => !decide (x.1 = k)) = vj Prod.fst k l := by
 rw [← Ji7 (kf := Prod.fst) (x := (k, v)) (l := l)]
 unfold vj
 refine List.filter_congr fun x _ => ?_
 by_cases h : x.1 = k <;> simp [h]
theorem Jhj (a : AcL) : ∀ l : List AcL, (QO AcL.addr a l).map AcL.er = QO AcE.addr a.er (l.map AcL.er)
 | [] => rfl
 | x :: l => by
  rw [List.map_cons, QO, QO]
  show _ = if Op.bytesLess x.addr a.addr then _ else if x.addr = a.addr then _ else _
  split
  ·rw [List.map_cons, Jhj a l]
  ·split <;> rfl
theorem Jma (s : StL) : KY AcL.addr s.accts ↔ KY AcE.addr s.er := by
 unfold StL.er KY
 rw [List.pairwise_map]
 exact Iff.rfl
theorem yZ {R : Jp} {a : AcL} (ha : a.In R) {k v : BS} (hk : k.length = 32) (hv : v.length = 32) (hlen : (Qy a.slots k v).length ≤ 9223372036854775807) {p : Pl} (hp : Seg L (Qy a.slots k v).length (wq (Qy a.slots k v)) p) : AcL.In (L ++ R) ⟨a.addr, a.nonce, a.bal, a.code, Qy a.slots k v, p⟩ :=
 ⟨ha.addr, ha.nonce, ha.bal, ha.code, hlen, hp.mono fun q hq => List.mem_append_left _ hq, fun x hx => by
  rcases yU hx with ⟨rfl, _⟩ | hx
  ·exact ⟨by show k.length ≤ _; rw [hk]; decide, by show v.length ≤ _; rw [hv]; decide⟩
  ·exact ha.slots x hx⟩
inductive EqF (P : Program) (xs ys : List Value) : List Field → Bool → Prop
  | nil : EqF P xs ys [] true
  | scal {f : Field} {fs : List Field} {a b : Value} {r : Bool} (hn : (f.name == "_") = false) (he : W3 P f.type = some false) (ga : WR xs f.offset = some a) (gb : WR ys f.offset = some b) (ha : W8 P f.type a = true) (hb : W8 P f.type b = true) (h : EqF P xs ys fs r) : EqF P xs ys (f :: fs) (eqS a b && r)
  | arr {f : Field} {fs : List Field} {n e : Nat} {va vb : List Value} {r : Bool} (hn : (f.name == "_") = false) (ht : qg P f.type = some (n, e)) (hz : KZ P f.type = some n) (he : W3 P e = some false) (hs : KZ P e = some 1) (ga : (xs.drop f.offset).take n = va) (gb : (ys.drop f.offset).take n = vb) (hla : va.length = n) (hlb : vb.length = n)
      (h1 : va.all (W8 P e) = true) (h2 : vb.all (W8 P e) = true) (h : EqF P xs ys fs r) : EqF P xs ys (f :: fs) (V6 va vb && r)
theorem xW {t n : Nat} {cs va : List Value} {e : Nat} (ht : qg P t = some (m, e)) (hz : KZ P t = some n) (ga : (cs.drop off).take n = va) (hl : va.length = n) (w : World) : (part t cs.toArray off).run P w = .ok (.agg va.toArray) w := by
 have e1 : (cs.toArray.extract off (off + n)) = va.toArray := by
  apply Array.toList_inj.1
  rw [← ga, List.extract_toArray, List.extract_eq_take_drop, Nat.add_sub_cancel_left]
 unfold part
 simp only [Sem.run_bind, qb (show W3 P t = some true from by unfold W3; rw [wy ht]), Result.andThen, VN hz, if_true, e1]
 rfl
theorem Jbw  {xs : List Value} {d : Nat} : ∀ {fs : List Field} {b : Bool}, EqF P xs ys fs b → (Op.eqFields (d + 2) xs.toArray ys.toArray fs).run P w = .ok b w := by
 intro fs b h
 induction h with
 | nil => simp [Op.eqFields]
 | @scal f fs a b r hn he ga gb ha hb h ih =>
  have hn' : f.name ≠ "_" := by intro e; rw [e] at hn; simp at hn
  simp only [Op.eqFields, Sem.run_ite, if_pos hn', Sem.run_bind, jq he (show xs.toArray[f.offset]? = some a from by rw [List.getElem?_toArray, ← V1]; exact ga), jq he (show ys.toArray[f.offset]? = some b from by rw [List.getElem?_toArray, ← V1]; exact gb), Result.andThen, Ja6 ha hb]
  cases hab : eqS a b
  ·simp
  ·simpa using ih
 | @arr f fs n e va vb r hn ht hz he hs ga gb hla hlb h1 h2 h ih =>
  have hn' : f.name ≠ "_" := by intro e; rw [e] at hn; simp at hn
  simp only [Op.eqFields, Sem.run_ite, if_pos hn', Sem.run_bind, xW ht hz ga hla, xW ht hz gb hlb, Result.andThen, vc ht he hs hla hlb h1 h2]
  cases hab : V6 va vb
  ·simp
  ·simpa using ih
section
variable {c : Cx} {l : Kx} {L : Jp} {X : XP} {d : List Deferred}
variable {i : Nat} {t : TypeId} {ps : String} {af : Array Edge} {gd : Option (Nat × Bool)} {ty t2 : TypeId}
theorem Jjk  {xs : List Value} (hx : Kq l x = some (.agg xs.toArray)) (hy : Kq l y = some (.agg ys.toArray)) (ht : c.P.underlying t = some (.struct (c.P.fieldsOf t))) (hp : c.P.stoodInHeld t = false) (hgt : c.P.eqGuardType c.P.depth t = false) (hE : EqF c.P xs ys (c.P.fieldsOf t).toList b) :
  JC c d l L X ⟨some i, .binOp .neq t x y t2, ty, ps, af, gd⟩ (.bool (!b)) := fun a' w hf _ => by
 have hr := run_equalIn_struct (P := c.P) w 9999 t xs.toArray ys.toArray ht hp
 rw [Jbw hE] at hr
 have h0 := run_neq_struct (P := c.P) w t xs.toArray ys.toArray
 rw [hr] at h0
 simp only [execOp]
 rw [hf.eval hx, hf.eval hy]
 simp only [Sem.run_bind, run_eqGuard_agg w .neq t x y _ _ hgt, Result.andThen, h0]
 rfl
end
theorem Jjl (a b : BS) : eqS (Jy a) (Jy b) = decide (a = b) := Ja5 a b
theorem Jjm (x y : BS × BS) : (eqS (Jy x.1) (Jy y.1) && (eqS (Jy x.2) (Jy y.2) && true)) = decide (x = y) := by
 rw [Jjl, Jjl]
 obtain ⟨a, b⟩ := x
 obtain ⟨c, d⟩ := y
 by_cases h1 : a = c <;> by_cases h2 : b = d <;> simp [h1, h2]
theorem Jpo  {ys : List α} (hl : xs.length = ys.length) (hi : xs.length ≤ i) (h : ∀ j, j < i → xs[j]? = ys[j]?) : xs = ys := by
 apply List.ext_getElem?
 intro j
 by_cases hj : j < i
 ·exact h j hj
 ·rw [List.getElem?_eq_none m0, List.getElem?_eq_none m0]
theorem Jpp  {ys : List α} {x y : α} (hx : xs[i]? = some x) (hy : ys[i]? = some y) (h : ¬ x = y) : ¬ xs = ys := by
 rintro rfl; rw [hx] at hy; exact h (Option.some.inj hy)
theorem eqU (a b : Nat) : eqS (uV a) (uV b) = decide (a = b) := by
 show ((a : Int) == (b : Int)) = _
 by_cases h : a = b
 ·subst h; simp
 ·have : ¬ (a : Int) = b := by omega
  simp [h, this]
theorem eqW (x y : W4) : V6 [uV x.a, uV x.b, uV x.c, uV x.d] [uV y.a, uV y.b, uV y.c, uV y.d] = decide (x = y) := by
 simp only [V6, eqU]
 obtain ⟨a, b, c, d⟩ := x
 obtain ⟨a', b', c', d'⟩ := y
 by_cases h1 : a = a' <;> by_cases h2 : b = b' <;> by_cases h3 : c = c' <;> by_cases h4 : d = d' <;> simp [h1, h2, h3, h4]
theorem Jeh {f : FuncId} {nx : ι → List Value → Jp → ι → Prop} (hf : P.funcs[f]? = some fn) (hb : fn.body = some code) (hlen : Nat.ble (caps.length + 1) fn.ntmps = true)
  (h : ∀ (q : Nat) (xids : List Nat) (w2 : World) (XI : ι → XP) (XF : XP),
   (∀ i v B i', nx i v B i' → ∀ xs w, (∀ k ∈ xs, k < w.heap.size ∧ (k ∈ xids ∨ w2.heap.size ≤ k)) → Keep ([] ++ xids) w2 w → ZA xs (XI i) w → wm B w → (∀ p ∈ B, p.1 ∉ xs ∧ p.1 ∉ xids) → YS P q v.toArray xs w (XI i') XF) →
   HC ⟨P, none, w2, [], xids, Rl, fn.ntmps⟩ [] (V2 0 (.func (.yield q) #[] #[] :: caps)) [] (XI p0) code
    (bodyPostM (FW none) 0 P fn (fun e w' => (∃ v, e = .returned v) ∧ Keep ([] ++ xids) w2 w' ∧ ((∃ i xs, fin i ∧ XI i xs w') ∨ ∃ xs, XF xs w')))) : Joa P f caps Rl p0 nx fin :=
 fun q xids w2 XI XF hR hlt h0 hY =>
  QP ⟨P, none, w2, [], xids, Rl, fn.ntmps⟩ hf hb rfl rfl rfl hlen
   ⟨Keep.refl _ _, by simp, by simp, fun p hp => ⟨by simp, (hR p hp).1, (hR p hp).2⟩, hlt, xids, fun k hk => ⟨.inl hk, hlt k hk, by simp⟩, h0⟩ (h q xids w2 XI XF hY)
section
variable {c : Cx} {d : List Deferred} {l : Kx} {E : Jp} {X : XP} {S : Jp} {ops : Array Oper} {tb : qp} {rest : List Nat} {T : Jp → Act → Prop} {k i : Nat}
theorem JS
  (hk : WR ops.toList k = some ⟨some i, .call ⟨.value f, args, at_⟩, ty, ps, af, gd⟩) (hg : Kv l ops ⟨some i, .call ⟨.value f, args, at_⟩, ty, ps, af, gd⟩ = some true) (hi : Nat.ble (i + 1) c.n = true) (hA : tb k = .grow (KA x0 V LL)) (hca : KT l f args = some (g, vs)) (eg : Enters c.P g)
  (hp : PureT c.P g vs.toArray V [] LL Rl) (hR : ∀ p ∈ Rl, p ∈ S ∨ p ∈ c.R) (h : ∀ x, HB c d ((i, V x) :: l) (LL x ++ E) X S ops tb rest T) : HB c d l E X S ops tb (k :: rest) T :=
 Jbi (e := KA x0 V LL) hk hg rfl hi hA (fun E' hE a w hf hs => XN hf hca eg ((hp.run w (fun p hp => by cases hp) (fun p hp => (hR p hp).elim (fun h => (hs.own _ (hE p h)).2.2) hs.readR) List.Pairwise.nil (fun p _ q hq => by cases hq)).mono fun _ _ ⟨x, he, hk, h1, h2⟩ => ⟨V x, he, x, rfl, hk, (fun p hp => ⟨((h1 p hp).1).elim (fun h => by cases h) id, (h1 p hp).2⟩), h2⟩)) h
end
theorem Ju8 {l : Kx} (hp : L.Perm L') (h : HC c d l L' X code Q) : HC c d l L X code Q := fun a w hf hs => h a w hf (hs.perm hp)
theorem Jei (A B C : List α) : (A ++ (B ++ C)).Perm (B ++ (A ++ C)) := by
 rw [← List.append_assoc, ← List.append_assoc]
 exact List.perm_append_comm.append_right C
structure AcSt (R : Jp) : Type where
  a : AcL
  L : Jp
  ok : a.In (L ++ R)
structure StSt (R : Jp) : Type where
  s : StL
  L : Jp
  ok : s.In (L ++ R)
def AcSt.next {R : Jp} (s : AcSt R) {e : AcE × Int} (x : AcRes (s.L ++ R) e) : AcSt R := ⟨x.a, x.L ++ s.L, by rw [List.append_assoc]; exact x.ok⟩
def StSt.next {R : Jp} (s : StSt R) {L' : Jp} {e : List AcE × Int} (x : StRes (L' ++ (s.L ++ R)) e) : StSt R := ⟨x.s, x.L ++ (L' ++ s.L), by rw [List.append_assoc, List.append_assoc]; exact x.ok⟩
theorem map_drop (f : Nat → α) (h : i < 7) : (tab.map f).drop i = f i :: (tab.map f).drop (i + 1) := by
 have : i = 0 ∨ i = 1 ∨ i = 2 ∨ i = 3 ∨ i = 4 ∨ i = 5 ∨ i = 6 := by omega
 rcases this with rfl | rfl | rfl | rfl | rfl | rfl | rfl <;> rfl
def z32 : List UInt8 := List.replicate 32 0
def pairUp : List (List UInt8) → List (List UInt8)
 | a :: b :: l => WO (a ++ b) :: pairUp l
 | _ => []
def QJ (l : List (List UInt8)) (z : List UInt8) : List (List UInt8) := if l.length % 2 = 1 then l ++ [z] else l
def Wn : Nat → List (List UInt8) → List UInt8 → List UInt8
 | 0, l, z => l.headD z
 | k + 1, l, z => Wn k (pairUp (QJ l z)) (WO (z ++ z))
def qy : Nat → List (List UInt8) → List UInt8
 | 0, l => l.headD []
 | k + 1, l => qy k (pairUp l)
theorem Wt : ∀ l : List (List UInt8), (pairUp l).length = l.length / 2
 | [] => by simp [pairUp]
 | [_] => by simp [pairUp]
 | a :: b :: l => by rw [pairUp, List.length_cons, Wt l, List.length_cons, List.length_cons]; omega
theorem ze : ∀ {l m : List (List UInt8)}, l.length % 2 = 0 → pairUp (l ++ m) = pairUp l ++ pairUp m
 | [], m, _ => rfl
 | [_], _, h => by simp at h
 | a :: b :: l, m, h => by
  have h2 : l.length % 2 = 0 := by simp only [List.length_cons] at h; omega
  rw [List.cons_append, List.cons_append, pairUp, pairUp, ze h2, List.cons_append]
theorem zf (z : List UInt8) : ∀ m : Nat, pairUp (List.replicate (2 * m) z) = List.replicate m (WO (z ++ z))
 | 0 => rfl
 | m + 1 => by rw [show 2 * (m + 1) = 2 * m + 1 + 1 by omega, List.replicate_succ, List.replicate_succ, pairUp, zf z m, List.replicate_succ]
theorem XY (l : List (List UInt8)) (z : List UInt8) : (QJ l z).length = l.length + l.length % 2 := by
 unfold QJ
 split
 ·rename_i h; rw [List.length_append, h]; rfl
 ·omega
theorem Jhk {l : List (List UInt8)} {z : List UInt8} {n : Nat} (h : l.length ≤ 2 * n) : QJ l z ++ List.replicate (2 * n - (QJ l z).length) z = l ++ List.replicate (2 * n - l.length) z := by
 rw [XY]
 unfold QJ
 split
 ·rename_i h1
  rw [List.append_assoc, h1]
  congr 1
  rw [show 2 * n - l.length = (2 * n - (l.length + 1)) + 1 by omega, List.replicate_succ]; rfl
 ·rename_i h1
  rw [show l.length % 2 = 0 by omega]; rfl
theorem Jjo : ∀ (k : Nat) {l : List (List UInt8)} (z : List UInt8), l.length ≤ 2 ^ k → Wn k l z = qy k (l ++ List.replicate (2 ^ k - l.length) z)
 | 0, [], z, _ => rfl
 | 0, [a], z, _ => rfl
 | 0, _ :: _ :: _, z, h => by simp at h
 | k + 1, l, z, h => by
  rw [Nat.pow_succ, Nat.mul_comm] at h
  have h2 := XY l z
  have hp : (QJ l z).length % 2 = 0 := by rw [h2]; omega
  rw [Wn, qy, Nat.pow_succ, Nat.mul_comm, ← Jhk h, ze hp, show 2 * 2 ^ k - (QJ l z).length = 2 * (2 ^ k - (QJ l z).length / 2) by omega, zf]
  rw [Jjo k (WO (z ++ z)) (by rw [Wt]; omega), Wt]
theorem Zm (l : List (List UInt8)) : ∀ x ∈ pairUp l, x.length = 32 := by
 induction l using pairUp.induct with
 | case1 a b l ih =>
  intro x hx
  rw [pairUp] at hx
  rcases List.mem_cons.1 hx with hx | hx
  ·rw [hx]; exact jx _
  ·exact ih x hx
 | case2 l h =>
  intro x hx
  rw [pairUp.eq_2 l h] at hx
  cases hx
theorem Jmb (k : Nat) : ∀ {l : List (List UInt8)}, l.length = 2 ^ k → (∀ x ∈ l, x.length = 32) → (qy k l).length = 32 := by
 induction k with
 | zero =>
  intro l h1 h2
  match l, h1 with
  | [a], _ => exact h2 a List.mem_cons_self
 | succ k ih =>
  intro l h1 _
  rw [Nat.pow_succ, Nat.mul_comm] at h1
  rw [qy]
  exact ih (by rw [Wt, h1]; omega) (Zm l)
def lg (m : Nat) : Nat := if m ≤ 1 then 0 else Nat.log2 (m - 1) + 1
theorem Jej (m : Nat) : m ≤ 2 ^ lg m := by
 unfold lg
 split
 ·simpa using ‹m ≤ 1›
 ·have := @Nat.lt_log2_self (m - 1)
  omega
theorem Jx1 (h : j < lg m) : 2 ^ j < m := by
 unfold lg at h
 split at h
 ·cases h
 ·have h1 : 2 ^ j ≤ 2 ^ Nat.log2 (m - 1) := Nat.pow_le_pow_right m7 m0
  have h2 := Nat.log2_self_le (n := m - 1) m0
  omega
theorem Jx2 {d : Nat} (h : m ≤ 2 ^ d) : lg m ≤ d := by
 rcases Nat.lt_or_ge d (lg m) with h1 | h1
 ·have := Jx1 h1; omega
 ·exact h1
def vm (n : Nat) (l : List (List UInt8)) : List (List UInt8) := l ++ List.replicate (n - l.length) z32
def QR (l : List (List UInt8)) (m : Nat) : List UInt8 := qy (lg m) (vm (2 ^ lg m) l)
theorem Zn {l : List (List UInt8)} (h : l.length ≤ m) : Wn (lg m) l z32 = QR l m := Jjo _ _ (Nat.le_trans h (Jej m))
theorem zg {n : Nat} {l : List (List UInt8)} (h : l.length ≤ n) : (vm n l).length = n := by
 unfold vm; rw [List.length_append, List.length_replicate]; omega
theorem Jek {n : Nat} {l : List (List UInt8)} (h : ∀ x ∈ l, x.length = 32) : ∀ x ∈ vm n l, x.length = 32 := by
 intro x hx
 rcases List.mem_append.1 hx with hx | hx
 ·exact h x hx
 ·rw [(List.mem_replicate.1 hx).2]; rfl
theorem VE {l : List (List UInt8)} (h : l.length ≤ m) (h2 : ∀ x ∈ l, x.length = 32) : (QR l m).length = 32 := Jmb _ (zg (Nat.le_trans h (Jej m))) (Jek h2)
section
variable {c : Cx} {l : Kx} {L : Jp} {X : XP} {Q : Exit → Act → World → Prop} {d : List Deferred}
theorem Jjp (hL : L'.Sublist L) (h : HC c d l L' X code Q) : HC c d l L X code Q := fun a w hf hs => h a w hf (hs.weakL hL)
theorem jz (hL : L'.Sublist L) (h : HQ c d l L' X K) : HQ c d l L X K := fun a w hf hs => h a w hf (hs.weakL hL)
def Jpq {σ : Type} (c : Cx) (DD : σ → List Deferred) (I : σ → Prop) (lI : σ → Kx) (LI : σ → Jp) (XI : σ → XP) (μ : σ → Nat) (s : σ) : Act → World → Prop := fun a w =>
 ∃ s', I s' ∧ μ s' < μ s ∧ Fr c.n (DD s') (lI s') a ∧ St c (LI s') (XI s') w
theorem Jpr (DD : σ → List Deferred) (I : σ → Prop) (lI : σ → Kx) (LI : σ → Jp) (XI : σ → XP) (μ : σ → Nat) (s0 : σ) (hd : DD s0 = d) (h0 : I s0) (hl : LookAll l (lI s0)) (hL : (LI s0).Sublist L) (hX : ∀ xs w, X xs w → XI s0 xs w)
  (hr : ∀ s, I s → HC c (DD s) (lI s) (LI s) (XI s) body (Exit.then (Jpq c DD I lI LI XI μ s) Q)) : HC c d l L X (.loop body) Q := fun a w hf hs => by
 have least : ∀ p : Nat → Prop, (∃ m, p m) → ∃ m, p m ∧ ∀ k, p k → m ≤ k := by
  intro p ⟨m, hm⟩
  induction m using Nat.strongRecOn with
  | _ m ih =>
   by_cases hx : ∃ k, k < m ∧ p k
   obtain ⟨k, hk, hp⟩ := hx; exact ih k hk hp
   exact E9
 let p : Act → World → Nat → Prop := fun a w m => ∃ s, I s ∧ Fr c.n (DD s) (lI s) a ∧ St c (LI s) (XI s) w ∧ μ s = m
 have meas : ∃ f : Act → World → Nat, ∀ a w, (∃ m, p a w m) → p a w (f a w) ∧ ∀ k, p a w k → f a w ≤ k := by
  have h1 : ∀ a w, ∃ m, (∃ m, p a w m) → p a w m ∧ ∀ k, p a w k → m ≤ k := fun a w => by
   by_cases hx : ∃ m, p a w m
   obtain ⟨m, hm⟩ := least _ hx; exact ⟨m, fun _ => hm⟩
   exact ⟨0, fun hy => absurd hy hx⟩
  exact DV
 obtain ⟨f, hfm⟩ := meas
 refine wpIn_loop (fun a w => ∃ m, p a w m) f ⟨μ s0, s0, h0, hd ▸ hf.weak hl.get, (hs.weakL hL).weakX hX, rfl⟩ ?_
 intro a w hp
 obtain ⟨⟨s, h1, h2, h3, h4⟩, _⟩ := hfm a w hp
 refine wpIn_mono (hr s h1 a w h2 h3) ?_
 intro e a' w' hq
 cases e with
 | normal =>
  exact GM
 | _ => exact hq
theorem xX {DD : σ → List Deferred} {s : σ} (s' : σ) (hd : DD s' = d) (h1 : I s') (h2 : μ s' < μ s) (h3 : LookAll l (lI s')) (h4 : (LI s').Sublist L) (h5 : ∀ xs w, X xs w → XI s' xs w) :
  HQ c d l L X (Jpq c DD I lI LI XI μ s) := fun _ _ hf hs => ⟨s', h1, h2, hd ▸ hf.weak h3.get, (hs.weakL h4).weakX h5⟩
def Xz (Ds : List Nat) : Jp := Ds.map fun D => (D, .deferred (some []))
theorem zh {fn : Func} {R : Ending → World → Prop} {P : Program} : ∀ (Ds : List Nat) (h : HQ c d l L X (bodyPostM (FW none) 0 P fn R .ret)), HQ c (Ds.map Vs ++ d) l (Xz Ds ++ L) X (bodyPostM (FW none) 0 P fn R .ret)
 | [], h => h
 | D :: Ds, h => QY (k := 0) rfl rfl (jz (List.sublist_cons_self _ _) (zh Ds h))
end
section
variable {c : Cx} {l : Kx} {L : Jp} {X : XP} {Q : Exit → Act → World → Prop} {d : List Deferred}
variable {ops : Array Oper} {rest : List Oper} {i : Nat} {v : Value} {t u : TypeId} {ps : String} {af : Array Edge} {gd : Option (Nat × Bool)} {ty : TypeId}
theorem J04 (s : List UInt8) : (bs s).size = s.length := by simp [bs, ByteArray.size]
theorem vW (s : List UInt8) : Lib.strCells (bs s) = s.map bV := rfl
theorem Jhl  {s2 : List UInt8}
  (hp : L.Perm (JJ e (s.map bV) row ++ L0)) (hg : Kv l ops ⟨some i, .call ⟨.builtin .append, #[x, y], #[t, u]⟩, ty, ps, af, gd⟩ = some true) (hi : Nat.ble (i + 1) c.n = true)
  (hx : Kq l x = some (J3 s.length row)) (hy : Kq l y = some (.string (bs s2))) (ht : Kw c.P t = some e) (hu : yr c.P u = true) (hz : QL c.P e = some (.int .u8 0)) (hs : KZ c.P e = some 1) (hb : Ja1 c.P e = some 1)
  (ho : rowOk 1 s.length (s.map bV) row) (ho2 : s = [] → row = none) (hlen : s.length + s2.length ≤ 140737488355328)
  (h : ∀ row', rowOk 1 (s ++ s2).length ((s ++ s2).map bV) row' → (s ++ s2 = [] → row' = none) → HL c d ((i, J3 (s ++ s2).length row') :: l) (JJ e ((s ++ s2).map bV) row' ++ L0) X ops rest Q) :
  HL c d l L X ops (⟨some i, .call ⟨.builtin .append, #[x, y], #[t, u]⟩, ty, ps, af, gd⟩ :: rest) Q := by
 obtain ⟨inf, hinf, hz', hs', hb'⟩ := wA hz hs hb
 refine KR hp ?_
 refine W6 (α := { r' : Vn // rowOk 1 (s ++ s2).length ((s ++ s2).map bV) r' ∧ (s ++ s2 = [] → r' = none) }) (V := fun p => J3 (s ++ s2).length p.1) (L' := fun p => JJ e ((s ++ s2).map bV) p.1 ++ L0) (X' := fun _ => X) hg rfl rfl hi (fun a w hf hst => ?_) (fun p => h p.1 p.2.1 p.2.2)
 have exec : ∀ r w', (Builtin.append_ #[t, u] ty #[J3 s.length row, .string (bs s2)]).run c.P w = .ok r w' →
   (execOp a.eval ⟨some i, .call ⟨.builtin .append, #[x, y], #[t, u]⟩, ty, ps, af, gd⟩).run c.P w = .ok (.value r) w' := fun r w' hr => by
  have ex := hf.eval hx
  have ey := hf.eval hy
  simp [execOp, resolve, Sem.run_bind, ex, ey, Result.andThen, invoke, builtin, hr]
 have hsz := J04 s2
 have hsl : (s ++ s2).length = s.length + s2.length := List.length_append
 have hml : ((s ++ s2).map bV).length = s.length + s2.length := by rw [List.length_map, hsl]
 have hz1 : (Value.int IntKind.u8 0).cells.size = 1 := rfl
 have zlen : ∀ n, (Builtin.zeroCells (Value.int IntKind.u8 0).cells n).toList.length = n := fun n => by rw [Array.length_toList, size_zeroCells, hz1, Nat.mul_one]
 cases row with
 | none =>
  obtain ⟨h1, h2⟩ := ho
  have hs0 : s = [] := List.eq_nil_of_length_eq_zero h1
  subst hs0
  cases s2 with
  | nil =>
   refine ⟨⟨none, ⟨rfl, rfl⟩, fun _ => rfl⟩, w, exec _ _ ?_, hst⟩
   have hf2 := Lib.run_firstCells_string (P := c.P) w 1 (bs [])
   have h0 : (bs []).size = 0 := rfl
   rw [h0] at hf2
   simp [Builtin.append_, J3, run_underlying (Kt ht), run_underlying (V4 hu), sizeOf, typeInfo, hinf, hs', Builtin.lenOf, h0, hf2]
  | cons b s2 =>
   have hr := run_append_nil_string (P := c.P) w t u ty e inf (.int .u8 0) (Kt ht) (V4 hu) hinf hz' (bs (b :: s2)) (by rw [hsz]; simp) (by rw [hsz]; simp at hlen ⊢; omega) (by rw [hsz, hb']; simp at hlen ⊢; omega)
   rw [hsz] at hr
   have hge := grownCap_ge w (b :: s2).length 0 e
   refine ⟨⟨some (w.heap.size, grownCap w (b :: s2).length 0 e, (Builtin.zeroCells (Value.int IntKind.u8 0).cells (grownCap w (b :: s2).length 0 e - (b :: s2).length)).toList), ⟨?_, ?_⟩, fun h0 => by simp at h0⟩, _, exec _ _ hr, ?_⟩
   ·simp
   ·rw [zlen]; simp only [List.nil_append]; omega
   ·have e1 : ((bs (b :: s2)).data.map (fun b => Value.int .u8 b.toNat) ++ Builtin.zeroCells (Value.int IntKind.u8 0).cells (grownCap w (b :: s2).length 0 e - (b :: s2).length)) = ((([] ++ (b :: s2)).map bV) ++ (Builtin.zeroCells (Value.int IntKind.u8 0).cells (grownCap w (b :: s2).length 0 e - (b :: s2).length)).toList).toArray := by
     apply Array.toList_inj.1; simp [bs, bV]
    rw [e1]
    exact hst.drew.alloc _
 | some q =>
  obtain ⟨r, cap, sp⟩ := q
  obtain ⟨h1, h2⟩ := ho
  have hget : w.heap[r]? = some (.cells (s.map bV ++ sp).toArray e (0, 0)) := hst.get (k := 0) rfl
  have hne : s ++ s2 ≠ [] := fun h0 => by have := ho2 (List.append_eq_nil_iff.1 h0).1; cases this
  by_cases hroom : s.length + s2.length ≤ cap
  ·have hr := Lib.run_append_room_string (P := c.P) w t u ty e inf (Kt ht) (V4 hu) hinf hs' r s.length cap _ hget (bs s2) (by rw [hsz]; exact hroom) (by rw [hsz]; simp only [List.size_toArray, List.length_append, List.length_map]; omega)
   rw [hsz, vW] at hr
   have e1 : ((s.map bV ++ sp).toArray.toList.take s.length ++ s2.map bV ++ (s.map bV ++ sp).toArray.toList.drop (s.length + s2.length)) = (s ++ s2).map bV ++ sp.drop s2.length := by
    simp only [List.toList_toArray]
    rw [List.take_left' mh, List.map_append, ← List.drop_drop, List.drop_left' mh]
   rw [e1] at hr
   have hV : J3 (s ++ s2).length (some (r, cap, sp.drop s2.length)) = .slice (some ⟨r, 0, none⟩) (s.length + s2.length) cap := by rw [J3, hsl]
   refine ⟨⟨some (r, cap, sp.drop s2.length), ⟨?_, ?_⟩, fun h0 => absurd h0 hne⟩, _, exec _ _ (hr.trans (congrArg (fun v => Result.ok v _) hV.symm)), ?_⟩
   ·rw [hml, hsl]; omega
   ·rw [List.length_drop, hsl]; omega
   ·exact hst.set (k := 0) rfl (Keep.setRow r _) (setRow_heap _ _ _ _ _ _ hget)
  ·have holds : ∀ (j : Nat) (x : Value), (s.map bV)[j]? = some x → w.cell? ((⟨r, 0, none⟩ : Addr).add j) = some x := XM hget (n := s.length) mh
   have hr := Lib.run_append_grow_string (P := c.P) w t u ty e inf (.int .u8 0) (Kt ht) (V4 hu) hinf hz' ⟨r, 0, none⟩ s.length cap (s.map bV) (by rw [hs']; simp) holds (bs s2) (by rw [hsz]; omega) (by rw [hsz]; omega) (by rw [hsz, hb']; exact growslice_fits m0 m0)
   rw [hsz, vW] at hr
   have hge := grownCap_ge w (s.length + s2.length) cap e
   refine ⟨⟨some (w.heap.size, grownCap w (s.length + s2.length) cap e, (Builtin.zeroCells (Value.int IntKind.u8 0).cells (grownCap w (s.length + s2.length) cap e - (s.length + s2.length))).toList), ⟨?_, ?_⟩, fun h0 => absurd h0 hne⟩, _, exec _ _ (hr.trans (congrArg (fun v => Result.ok v _) (show _ = J3 (s ++ s2).length (some (w.heap.size, grownCap w (s.length + s2.length) cap e, (Builtin.zeroCells (Value.int IntKind.u8 0).cells (grownCap w (s.length + s2.length) cap e - (s.length + s2.length))).toList)) from by rw [J3, hsl]))), ?_⟩
   ·rw [hml, hsl]; omega
   ·rw [zlen, hsl]; omega
   ·have e1 : ((s.map bV).toArray ++ (s2.map bV).toArray ++ Builtin.zeroCells (Value.int IntKind.u8 0).cells (grownCap w (s.length + s2.length) cap e - (s.length + s2.length))) = ((s ++ s2).map bV ++ (Builtin.zeroCells (Value.int IntKind.u8 0).cells (grownCap w (s.length + s2.length) cap e - (s.length + s2.length))).toList).toArray := by
     apply Array.toList_inj.1; simp
    rw [e1]
    exact (hst.drew.weakL (List.sublist_cons_self _ _)).alloc _
theorem Keep.freeze (r n : Nat) : Keep [r] w (w.freeze ⟨r, 0, none⟩ n) := by
 unfold World.freeze
 split
 ·exact Keep.refl _ _
 ·exact ⟨rfl, rfl, rfl, by simp, fun k _ hn => by
   simp only [Array.getElem?_modify]
   rw [if_neg (by intro e; exact hn (by simp [e]))]⟩
theorem Jel {w : World} {r n : Nat} {cs : Array Value} {e : TypeId} {fr : Nat × Nat} (h : w.heap[r]? = some (.cells cs e fr)) : ∃ fr', (w.freeze ⟨r, 0, none⟩ n).heap[r]? = some (.cells cs e fr') := by
 unfold World.freeze
 split
 ·exact ⟨fr, h⟩
 ·obtain ⟨lo, hi⟩ := fr
  obtain ⟨hlt, he⟩ := Array.getElem?_eq_some_iff.1 h
  refine ⟨if lo == hi then (0, 0 + n) else (min lo 0, max hi (0 + n)), ?_⟩
  show (w.heap.modify r _)[r]? = _
  rw [Array.getElem?_eq_getElem (by rw [Array.size_modify]; exact hlt), Array.getElem_modify_self, he]
def Jem : Vn → Value
 | none => .pointer none
 | some (r, _, _) => .pointer (some ⟨r, 0, none⟩)
theorem Jbx {n : Nat} (hx : Kq l x = some (J3 n row)) (hc : ∀ r cap sp, row = some (r, cap, sp) → cap ≠ 0) :
  JC c d l L X ⟨some i, .call ⟨.builtin .unsafeSliceData, #[x], #[t]⟩, ty, ps, af, gd⟩ (Jem row) := fun a w hf _ => by
 have ex := hf.eval hx
 cases row with
 | none =>
  have hr := Lib.run_unsafeSliceData_nil (P := c.P) w #[t] ty 0 0
  simp only [J3] at ex
  simp [execOp, resolve, Sem.run_bind, ex, Result.andThen, invoke, builtin, hr, Jem]
 | some q =>
  obtain ⟨r, cap, sp⟩ := q
  have hr := Lib.run_unsafeSliceData_row (P := c.P) w #[t] ty ⟨r, 0, none⟩ n cap (hc r cap sp rfl)
  simp only [J3] at ex
  simp [execOp, resolve, Sem.run_bind, ex, Result.andThen, invoke, builtin, hr, Jem]
def vX (P : Program) (t : TypeId) : Option TypeId := match P.underlying t with | some (.pointer e) => some e | _ => none
theorem j0 (h : vX P t = some e) : P.underlying t = some (.pointer e) := by
 unfold vX at h; split at h <;> simp_all
theorem wt  {pt it : TypeId}
  (hp : L.Perm (JJ e (s.map bV) row ++ L0)) (hg : Kv l ops ⟨some i, .call ⟨.builtin .unsafeString, #[x, y], #[pt, it]⟩, ty, ps, af, gd⟩ = some true) (hi : Nat.ble (i + 1) c.n = true)
  (hx : Kq l x = some (Jem row)) (hy : Kq l y = some (.int .i64 (s.length : Int))) (ht : vX c.P pt = some e) (hc : c.P.cellsOf e = 1)
  (ho : rowOk 1 s.length (s.map bV) row) (ho2 : s = [] → row = none) (hlen : s.length ≤ 9223372036854775807)
  (h : HL c d ((i, .string (bs s)) :: l) L0 X ops rest Q) : HL c d l L X ops (⟨some i, .call ⟨.builtin .unsafeString, #[x, y], #[pt, it]⟩, ty, ps, af, gd⟩ :: rest) Q := by
 refine KR hp ?_
 refine W6 (α := Unit) (V := fun _ => .string (bs s)) (L' := fun _ => L0) (X' := fun _ => X) hg rfl rfl hi (fun a w hf hst => ?_) (fun _ => h)
 have exec : ∀ r w', (Builtin.unsafeString_ #[pt, it] ty #[Jem row, .int .i64 s.length]).run c.P w = .ok r w' →
   (execOp a.eval ⟨some i, .call ⟨.builtin .unsafeString, #[x, y], #[pt, it]⟩, ty, ps, af, gd⟩).run c.P w = .ok (.value r) w' := fun r w' hr => by
  have ex := hf.eval hx
  have ey := hf.eval hy
  simp [execOp, resolve, Sem.run_bind, ex, ey, Result.andThen, invoke, builtin, hr]
 cases row with
 | none =>
  obtain ⟨h1, _⟩ := ho
  have hs0 : s = [] := List.eq_nil_of_length_eq_zero h1
  subst hs0
  exact ⟨(), w, exec _ _ (Lib.run_unsafeString_none (P := c.P) w pt it ty none), hst⟩
 | some q =>
  obtain ⟨r, cap, sp⟩ := q
  obtain ⟨h1, h2⟩ := ho
  have hget : w.heap[r]? = some (.cells (s.map bV ++ sp).toArray e (0, 0)) := hst.get (k := 0) rfl
  have hne : s ≠ [] := fun h0 => by have := ho2 h0; cases this
  have hcell : ∀ (j : Nat) (x : UInt8), s[j]? = some x → w.cell? ((⟨r, 0, none⟩ : Addr).add j) = some (.int .u8 x.toNat) := fun j x hx => by
   rw [qh, W5 hget]
   rw [Nat.zero_add, ← Array.getElem?_toList]
   simp only [List.toList_toArray]
   rw [List.getElem?_append_left (by rw [List.length_map]; exact (List.getElem?_eq_some_iff.1 hx).1), List.getElem?_map, hx]; rfl
  have hr := Lib.run_unsafeString_row (P := c.P) w pt it ty e (j0 ht) hc r (s.map bV ++ sp).length (by simp [World.shape?, hget]) s hne mh hlen hcell
  obtain ⟨fr', hfr⟩ := Jel (n := s.length) hget
  exact ⟨(), _, exec _ _ hr, (hst.set (k := 0) rfl (Keep.freeze r s.length) hfr).weakL (List.sublist_cons_self _ _)⟩
end
section
variable {c : Cx} {l : Kx} {L : Jp} {X : XP} {d : List Deferred}
variable {i : Nat} {v : Value} {t u : TypeId} {ps : String} {af : Array Edge} {gd : Option (Nat × Bool)} {ty t2 : TypeId}
def Ju9 (P : Program) (t : TypeId) : Bool := match P.underlying t with | some .unsafePointer => true | _ => false
theorem Jjq (h : Ju9 P t = true) : P.underlying t = some .unsafePointer := by
 unfold Ju9 at h; split at h <;> simp_all
theorem qz (h : KZ P t = some sz) : ∃ inf, P.info? t = some inf ∧ inf.size = sz := by
 unfold KZ at h
 cases hq : P.info? t with
 | none => simp [hq] at h
 | some inf => simp only [hq, Option.some.injEq] at h; exact ⟨inf, rfl, h⟩
theorem Jhm  {e : Nat} {dst : TypeId} (hx : Kq l x = some (.pointer (some ⟨r, 0, none⟩))) (hk : known c L r (.cells cs e fr)) (hs : vX c.P src = some tt) (hd : Ju9 c.P dst = true) (ht : KZ c.P tt = some sz) (h0 : 0 < sz) (hc : 0 < cs.size) :
  JC c d l L X ⟨some i, .convert src dst x, ty, ps, af, gd⟩ (.pointer (some ⟨r, 0, none⟩)) := fun a w hf hst => by
 obtain ⟨inf, hinf, hsz⟩ := qz ht
 have h := hst.known hk
 simp only [execOp]
 rw [hf.eval hx]
 have := Lib.run_to_unsafe (P := c.P) w (e := e) (cells := cs.size) ⟨r, 0, none⟩ (j0 hs) (Jjq hd) hinf m0 (by simp [World.shape?, h]) hc
 simp only [Sem.run_bind, this]; rfl
theorem Jby  {e : Nat} {dst : TypeId} (hx : Kq l x = some (.pointer (some ⟨r, 0, none⟩))) (hk : known c L r (.cells cs e fr)) (hs : Ju9 c.P src = true) (hd : vX c.P dst = some tt) (ht : KZ c.P tt = some sz) (hl : liesAt c.P c.P.depth e (cs.size / c.P.cellsOf e) 0 tt 1 = true) :
  JC c d l L X ⟨some i, .convert src dst x, ty, ps, af, gd⟩ (.pointer (some ⟨r, 0, none⟩)) := fun a w hf hst => by
 obtain ⟨inf, hinf, hsz⟩ := qz ht
 have h := hst.known hk
 simp only [execOp]
 rw [hf.eval hx]
 have := Lib.run_from_unsafe (P := c.P) w (e := e) (cells := cs.size) ⟨r, 0, none⟩ (Jjq hs) (j0 hd) hinf (by simp [World.shape?, h]) hl
 simp only [Sem.run_bind, this]; rfl
theorem Jhn (hf : Kq l f = some (.func (.func g) #[] #[])) (hx : Kq l x = some v)
  (hF : c.P.funcs[g]? = some fn) (hn1 : (fn.name == "runtime.NumGoroutine") = false) (hb : fn.body.isNone = true) (hn2 : Extern.findNext fn = none) (he : Extern.find fn = some Extern.AbiNoEscape.same) :
  JC c d l L X ⟨some i, .call ⟨.value f, #[x], at_⟩, ty, ps, af, gd⟩ v := fun a w hfr hst => by
 have ef := hfr.eval hf
 have ex := hfr.eval hx
 have hcf : (callFunc g #[v]).run c.P w = .ok (.value v) w := by
  rw [run_callFunc_extern hF hn1 hb hn2 he, Lib.run_noEscape]; rfl
 simp [execOp, resolve, Sem.run_bind, ef, ex, Deferred.ofValue, Result.andThen, invoke, hcf]
theorem Jps {q : Addr} (hx : Kq l x = some (.pointer (some q))) (hy : Kq l y = some (.pointer (some q))) (ht : vX c.P t = some tt) (hs : KZ c.P tt = some sz) :
  JC c d l L X ⟨some i, .binOp .neq t x y t2, ty, ps, af, gd⟩ (.bool false) := fun a w hf _ => by
 obtain ⟨inf, hinf, hsz⟩ := qz hs
 simp only [execOp]
 rw [hf.eval hx, hf.eval hy]
 have := Lib.run_neq_ptr_same (P := c.P) w q (j0 ht) hinf
 simp [eqGuard, Sem.run_bind, this, Result.andThen]
theorem Jpt (hx : Kq l x = some (.pointer none)) (hy : Kq l y = some (.pointer none)) (ht : vX c.P t = some tt) (hs : KZ c.P tt = some sz) :
  JC c d l L X ⟨some i, .binOp .eql t x y t2, ty, ps, af, gd⟩ (.bool true) := fun a w hf _ => by
 obtain ⟨inf, hinf, hsz⟩ := qz hs
 have h : ∀ d : Nat, (Op.equalIn (d + 1) t (.pointer none) (.pointer none)).run c.P w = .ok true w := fun d => by
  simp [Op.equalIn, run_underlying (j0 ht), sizeOf, typeInfo, hinf]
 simp only [execOp]
 rw [hf.eval hx, hf.eval hy]
 simp only [binOp]
 simp [eqGuard, Op.equal, Op.maxDepth, h 9999, Sem.run_bind, Result.andThen]
theorem Jpu {q : Addr} (hx : Kq l x = some (.pointer (some q))) (hy : Kq l y = some (.pointer none)) (ht : vX c.P t = some tt) (hs : KZ c.P tt = some sz) :
  JC c d l L X ⟨some i, .binOp .eql t x y t2, ty, ps, af, gd⟩ (.bool false) := fun a w hf _ => by
 obtain ⟨inf, hinf, hsz⟩ := qz hs
 have h : ∀ d : Nat, (Op.equalIn (d + 1) t (.pointer (some q)) (.pointer none)).run c.P w = .ok false w := fun d => by
  simp [Op.equalIn, run_underlying (j0 ht), sizeOf, typeInfo, hinf]
 simp only [execOp]
 rw [hf.eval hx, hf.eval hy]
 simp only [binOp]
 simp [eqGuard, Op.equal, Op.maxDepth, h 9999, Sem.run_bind, Result.andThen]
end
end Go.SL
