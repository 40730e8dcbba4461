import Derived.Test.YteceenlfegnigaaGreatDoorZtParsesa
import Derived.Carry
import Derived.ChangeArms
import Derived.Lib.Overlaps
import Derived.Lib.AppendZerosOnto
import Derived.Laws.StructEq
import Derived.Lib.AppendStr
import Derived.Lib.UnsafeStr
import Derived.Lib.Builder
import Derived.RecoverIn
set_option maxRecDepth 100000
namespace Go.SL
set_option linter.all false
open Go Go.RowKit Go.Shelf Go.ChangeShapes Go.WideShapes
open Go.Proofs (Enters enters_of)
variable {a a' : Act} {K K' : Act → World → Prop} {af : Array Edge} {es : Array MapEntry} {ops : Array Oper} {args : Array Operand} {at_ : Array TypeId} {cs cs2 : Array Value} {b : Bool} {assign body code : Code} {τ : Type} {E : Code → τ → Prop} {c c3 : Cx} {R : Ending → World → Prop} {Q Q' : Exit → Act → World → Prop} {F : Fence} {c₀ : Frame} {u' : FrameMode} {fn : Func} {g gf : FuncId} {B E' L L' L0 R' Rl : Jj} {T : Jj → Array Bool → Act → Prop} {l' : Ko} {pa : List (Nat × Operand)} {d : List Deferred} {cs' : List Frame} {pp ts : List Nat} {rest tail : List Oper} {ch : List PanicEntry} {pc : List PanicEntry → Prop} {rs : List ResultVar} {s : List UInt8} {caps vs ys zs : List Value} {α : Type} {xs : List α} {c2 cap clock h i id j m off off2 q r r2 sz : Nat} {fr fr2 : Nat × Nat} {o' ob : Obj} {o oi : Oper} {f x y : Operand} {gd : Option (Nat × Bool)} {dst ro : Option Nat} {P : Program} {ps : String} {ι σ : Type} {e e1 e2 kt src t tt ty : TypeId} {v v' z : Value} {dom : Value → Prop} {eq : Value → Value → Bool} {row : Vg} {w w' : World} {X XF Xb : XP} {x0 : α} {pr : α → Bool} {LL : α → Jj} {V : α → Value} {X' : α → XP} {p0 : ι} {nx : ι → List Value → ι → Prop} {fi fin : ι → Prop} {LI : σ → Jj} {lI : σ → Ko} {μ : σ → Nat} {I : σ → Prop} {XI : σ → XP}
abbrev Pl : Type := Option (Addr × Nat)
def plA : Pl → Option Addr
 | none => none
 | some (a, _) => some a
def plC : Pl → Nat
 | none => 0
 | some (_, cap) => cap
def Ky (n : Nat) (p : Pl) : Value := .slice (plA p) n (plC p)
def plB : Pl → Nat
 | none => 0
 | some (a, _) => a.block
def XO : Pl → Nat
 | none => 0
 | some (a, _) => a.off
def Seg (R : Jj) (n : Nat) (cs : List Value) : Pl → Prop
 | none => n = 0
 | some (a, cap) => n ≤ cap ∧ (0 < n → a.spot = none ∧ ∃ all e fr, (a.block, Obj.cells all e fr) ∈ R ∧ (all.toList.drop a.off).take cs.length = cs)
theorem Seg.nil {R : Jj} : Seg R 0 [] none := rfl
theorem Seg.mono {R : Jj} {n : Nat} {cs : List Value} {p : Pl} (h : Seg R n cs p) (hs : ∀ q ∈ R, q ∈ R') : Seg R' n cs p := by
 cases p with
 | none => exact h
 | some q => obtain ⟨a, cap⟩ := q; exact ⟨h.1, fun h0 => by obtain ⟨h1, all, e, fr, h2, h3⟩ := h.2 h0; exact ⟨h1, all, e, fr, hs _ h2, h3⟩⟩
theorem Jmz {all cs : List α} {o : Nat} {v : α} (h : (all.drop o).take cs.length = cs) (hv : cs[j]? = some v) : all[o + j]? = some v := by
 rw [← h, List.getElem?_take] at hv
 split at hv
 ·rwa [List.getElem?_drop] at hv
 ·cases hv
theorem Jcl {all cs vs : List α} {o : Nat} (h : (all.drop o).take cs.length = cs) (hv : (cs.drop j).take m = vs) (hm : vs.length = m) : (all.drop (o + j)).take m = vs := by
 have h1 : j + m ≤ cs.length ∨ m = 0 := by
  have := congrArg List.length hv
  rw [List.length_take, List.length_drop, hm] at this
  omega
 rcases h1 with h1 | h1
 ·rw [← hv, ← h, List.drop_take, List.drop_drop, List.take_take, Nat.min_eq_left m0]
 ·subst h1; rw [List.take_zero] at hv ⊢; exact hv
theorem XV {α : Type} {f : α → List Value} {m : Nat} (hf : ∀ x, (f x).length = m) : ∀ {l : List α} {j : Nat} {x : α}, l[j]? = some x → ((l.flatMap f).drop (j * m)).take m = f x
 | [], _, _, h => by simp at h
 | y :: l, 0, x, h => by
  obtain rfl : y = x := by simpa using h
  rw [Nat.zero_mul, List.drop_zero, List.flatMap_cons, List.take_left' (hf y)]
 | y :: l, j + 1, x, h => by
  have e : (j + 1) * m = (f y).length + j * m := by rw [hf, Nat.succ_mul, Nat.add_comm]
  rw [e, List.flatMap_cons, ← List.drop_drop, List.drop_left' rfl]
  exact XV hf nb
theorem Qd {α : Type} {f : α → List Value} {m : Nat} (hf : ∀ x, (f x).length = m) : ∀ l : List α, (l.flatMap f).length = l.length * m
 | [] => by simp
 | y :: l => by rw [List.flatMap_cons, List.length_append, hf, Qd hf l, List.length_cons, Nat.succ_mul, Nat.add_comm]
section
variable {c : Cx} {l : Ko} {L : Jj} {X : XP} {Q : Exit → Act → World → Prop} {d : List Deferred}
variable {ops : Array Oper} {rest : List Oper} {i : Nat} {v : Value} {t : TypeId} {ps : String} {af : Array Edge} {gd : Option (Nat × Bool)} {ty : TypeId}
theorem Jq {p : Pl} {n : Nat} {R : Jj} {cs : List Value} (hx : Kh l x = some (Ky n p)) (hs : Seg R n cs p) (ht : Ks c.P t = some e) :
  J9 c d l L X ⟨some i, .call ⟨.builtin .len, #[x], #[t]⟩, ty, ps, af, gd⟩ (.int .i64 n) := by
 cases p with
 | none => have h : n = 0 := hs; subst h; exact KO hx ht
 | some q => obtain ⟨a, cap⟩ := q; exact KO hx ht
theorem Jg {p : Pl} {R : Jj} {cs : List Value} {n e : Nat} {k : IntKind} {z : Int} (hx : Kh l x = some (Ky n p)) (hs : Seg R n cs p) (hy : Kh l y = some (.int k z)) (ha : Ks c.P t = some e) (hm : KQ c.P e = some m) (hz : z = (j : Int)) (hj : j < n) :
  J9 c d l L X ⟨some i, .indexAddr t x y, ty, ps, af, gd⟩ (.pointer (some ⟨plB p, XO p + j * m, none⟩)) := by
 cases p with
 | none => have h : n = 0 := hs; omega
 | some q =>
  obtain ⟨⟨b, o, s⟩, cap⟩ := q
  have h1 : s = none := (hs.2 m0).1
  subst h1
  exact Kc hx hy ha hm hz hj rfl
theorem X8 {p : Pl} {R : Jj} {cs : List Value} {n : Nat} (hR : ∀ q ∈ R, known c L q.1 q.2) (hx : Kh l x = some (.pointer (some ⟨plB p, XO p + j, none⟩))) (hs : Seg R n cs p) (hn : 0 < n) (ht : Wg c.P t = some false) (hv : cs[j]? = some v) :
  J9 c d l L X ⟨some i, .load t x, ty, ps, af, gd⟩ v := by
 cases p with
 | none => have h : n = 0 := hs; omega
 | some q =>
  obtain ⟨⟨b, o, s⟩, cap⟩ := q
  obtain ⟨_, all, e, fr, h1, h2⟩ := hs.2 hn
  exact Je hx (hR _ h1) ht (by rw [Vd]; exact Jmz h2 hv)
theorem WA {p : Pl} {R : Jj} {cs : List Value} {n : Nat} (hR : ∀ q ∈ R, known c L q.1 q.2) (hx : Kh l x = some (.pointer (some ⟨plB p, XO p + j, none⟩))) (hs : Seg R n cs p) (hn : 0 < n) (ht : Wg c.P t = some true) (hm : KQ c.P t = some m) (hv : (cs.drop j).take m = vs) (hl : vs.length = m) :
  J9 c d l L X ⟨some i, .load t x, ty, ps, af, gd⟩ (.agg vs.toArray) := by
 cases p with
 | none => have h : n = 0 := hs; omega
 | some q =>
  obtain ⟨⟨b, o, s⟩, cap⟩ := q
  obtain ⟨_, all, e, fr, h1, h2⟩ := hs.2 hn
  exact Jo hx (hR _ h1) ht hm (Jcl h2 hv hl) hl
end
theorem JU (z : Array Value) (n : Nat) : (madeCells z n).toList = (List.range n).map (fun i => z.toList.getD (i % z.size) default) := by
 unfold madeCells
 simp
 intro a _
 rw [getElem!_def]
 cases z[a % z.size]? <;> rfl
def Yo (z : Int) : Prop := -9223372036854775808 ≤ z ∧ z ≤ 9223372036854775807
inductive Ty : Type
  | mk (k n : Int) (p : Pl) (ins : List Ty)
def Ty.k : Ty → Int
 | .mk k _ _ _ => k
def Ty.n : Ty → Int
 | .mk _ n _ _ => n
def Ty.p : Ty → Pl
 | .mk _ _ p _ => p
def Ty.ins : Ty → List Ty
 | .mk _ _ _ ins => ins
def Ty.cells : Ty → List Value
 | .mk k n p ins => [.int .i64 k, .int .i64 n, Ky ins.length p]
def Ty.val (t : Ty) : Value := .agg t.cells.toArray
def zf (l : List Ty) : List Value := l.flatMap Ty.cells
theorem Ty.one (t : Ty) : t.cells.all QW = true := by cases t; rfl
theorem Ty.len (t : Ty) : t.cells.length = 3 := by cases t; rfl
inductive Ty.In (R : Jj) : Ty → Prop
  | mk {k n : Int} {p : Pl} {ins : List Ty} (hk : Yo k) (hn : Yo n) (hl : ins.length ≤ 9223372036854775807) (hs : Seg R ins.length (zf ins) p) (hi : ∀ x ∈ ins, Ty.In R x) : Ty.In R (.mk k n p ins)
theorem Ty.In.mono {R : Jj} (hs : ∀ q ∈ R, q ∈ R') {t : Ty} (h : Ty.In R t) : Ty.In R' t := by
 induction h with
 | mk hk hn hl hg hi ih => exact .mk hk hn hl (hg.mono hs) ih
theorem Ty.In.sub {R : Jj} {k n : Int} {p : Pl} {ins : List Ty} (h : Ty.In R (.mk k n p ins)) : ∀ x ∈ ins, Ty.In R x := by
 cases h; assumption
inductive Vl : Type
  | mk (a b c d : Nat) (bits : List Bool) (pb : Pl) (items : List Vl) (pi : Pl) (pick : Int)
def Vl.num : Vl → List Nat
 | .mk a b c d _ _ _ _ _ => [a, b, c, d]
def Vl.bits : Vl → List Bool
 | .mk _ _ _ _ l _ _ _ _ => l
def Vl.items : Vl → List Vl
 | .mk _ _ _ _ _ _ l _ _ => l
def Vl.pick : Vl → Int
 | .mk _ _ _ _ _ _ _ _ k => k
def Vl.cells : Vl → List Value
 | .mk a b c d bits pb items pi pick => [uV a, uV b, uV c, uV d, Ky bits.length pb, Ky items.length pi, .int .i64 pick]
def Vl.val (t : Vl) : Value := .agg t.cells.toArray
def KC (l : List Vl) : List Value := l.flatMap Vl.cells
def KL (l : List Bool) : List Value := l.map .bool
theorem Vl.one (t : Vl) : t.cells.all QW = true := by cases t; rfl
theorem Vl.len (t : Vl) : t.cells.length = 7 := by cases t; rfl
def YK (n : Nat) : Prop := n < 18446744073709551616
inductive Vl.In (R : Jj) : Vl → Prop
  | mk {a b c d : Nat} {bits : List Bool} {pb : Pl} {items : List Vl} {pi : Pl} {pick : Int} (ha : YK a) (hb : YK b) (hc : YK c) (hd : YK d) (hlb : bits.length ≤ 9223372036854775807) (hsb : Seg R bits.length (KL bits) pb)
      (hl : items.length ≤ 9223372036854775807) (hs : Seg R items.length (KC items) pi) (hp : Yo pick) (hi : ∀ x ∈ items, Vl.In R x) : Vl.In R (.mk a b c d bits pb items pi pick)
theorem Vl.In.mono {R : Jj} (hs : ∀ q ∈ R, q ∈ R') {t : Vl} (h : Vl.In R t) : Vl.In R' t := by
 induction h with
 | mk ha hb hc hd hlb hsb hl hg hp hi ih => exact .mk ha hb hc hd hlb (hsb.mono hs) hl (hg.mono hs) hp ih
theorem Vl.In.sub {R : Jj} {a b c d : Nat} {bits : List Bool} {pb : Pl} {items : List Vl} {pi : Pl} {pick : Int} (h : Vl.In R (.mk a b c d bits pb items pi pick)) : ∀ x ∈ items, Vl.In R x := by
 cases h; assumption
section
variable {c : Cx} {l : Ko} {L : Jj} {X : XP} {d : List Deferred} {i : Nat} {t : TypeId} {ps : String} {af : Array Edge} {gd : Option (Nat × Bool)} {ty : TypeId}
theorem jR {l : List α} {y : α} (h : l[j]? = some y) : 0 < l.length := by
 have := (List.getElem?_eq_some_iff.1 h).1; omega
theorem Kj {p : Pl} {R : Jj} {ins : List Ty} {y : Ty} (hR : ∀ q ∈ R, known c L q.1 q.2) (hx : Kh l x = some (.pointer (some ⟨plB p, XO p + j * 3, none⟩))) (hs : Seg R ins.length (zf ins) p) (hy : ins[j]? = some y) (ht : Wg c.P t = some true) (hm : KQ c.P t = some 3) :
  J9 c d l L X ⟨some i, .load t x, ty, ps, af, gd⟩ y.val :=
 WA hR hx hs (jR hy) ht hm (XV Ty.len hy) y.len
theorem Qe {p : Pl} {R : Jj} {ins : List Vl} {y : Vl} (hR : ∀ q ∈ R, known c L q.1 q.2) (hx : Kh l x = some (.pointer (some ⟨plB p, XO p + j * 7, none⟩))) (hs : Seg R ins.length (KC ins) p) (hy : ins[j]? = some y) (ht : Wg c.P t = some true) (hm : KQ c.P t = some 7) :
  J9 c d l L X ⟨some i, .load t x, ty, ps, af, gd⟩ y.val :=
 WA hR hx hs (jR hy) ht hm (XV Vl.len hy) y.len
theorem ZR {p : Pl} {R : Jj} {cs : List Value} {n : Nat} (hR : ∀ q ∈ R, known c L q.1 q.2) (hx : Kh l x = some (.pointer (some ⟨plB p, XO p + j * 1, none⟩))) (hs : Seg R n cs p) (hn : j < n) (ht : Wg c.P t = some false) (hv : cs[j]? = some v) :
  J9 c d l L X ⟨some i, .load t x, ty, ps, af, gd⟩ v :=
 X8 hR (by rw [Nat.mul_one] at hx; exact hx) hs m0 ht hv
theorem Yu {p : Pl} {R : Jj} {bits : List Bool} {y : Bool} (hR : ∀ q ∈ R, known c L q.1 q.2) (hx : Kh l x = some (.pointer (some ⟨plB p, XO p + j * 1, none⟩))) (hs : Seg R bits.length (KL bits) p) (hy : bits[j]? = some y) (ht : Wg c.P t = some false) :
  J9 c d l L X ⟨some i, .load t x, ty, ps, af, gd⟩ (.bool y) :=
 X8 hR (by rw [Nat.mul_one] at hx; exact hx) hs (jR hy) ht (by unfold KL; rw [List.getElem?_map, hy]; rfl)
end
section
variable {c : Cx} {l : Ko} {L : Jj} {X : XP} {d : List Deferred} {i : Nat} {v : Value} {ps : String} {af : Array Edge} {gd : Option (Nat × Bool)} {ty : TypeId}
theorem WQ {T : Act → Prop}
  (hg : Kp l ops ⟨some i, .call ⟨.value f, args, at_⟩, ty, ps, af, gd⟩ = some true) (hi : Nat.ble (i + 1) c.n = true) (hca : KD l f args = some (g, vs)) (eg : Enters c.P g)
  (hp : PureR c.P g vs.toArray v Rl) (hk : ∀ p ∈ Rl, known c L p.1 p.2) (h : HD c d ((i, v) :: l) L X ops rest T) : HD c d l L X ops (⟨some i, .call ⟨.value f, args, at_⟩, ty, ps, af, gd⟩ :: rest) T := fun a hf => by
 refine ⟨fun _ _ _ _ => trivial, ?_⟩
 rw [if_pos (JD hf hg)]
 refine ⟨v, fun w hs => ?_, h _ (hf.put (Nat.le_of_ble_eq_true hi))⟩
 unfold Oper.quietAtIn
 rw [VJ hf hca c.P w _ rfl eg]
 refine ⟨rfl, fun hdep => nH, ?_⟩
 have hc := callsIn_wide (n := 0) |>.2 (hp.run w fun p hp => hs.known (hk p hp))
 refine CallsIn.mono mM ?_
 rintro e w' ⟨rfl, hk⟩
 exact ⟨rfl, hs.more hk⟩
end
theorem Q0 {l : List α} (h : j < l.length) : ∃ y, l[j]? = some y ∧ y ∈ l := ⟨l[j], List.getElem?_eq_getElem h, List.getElem_mem h⟩
theorem Yv {l : List α} {y : α} (h : l[j]? = some y) : l.drop j = y :: l.drop (j + 1) := by
 exact HZ
def JG (k n : Int) (m : Nat) : Bool :=
 if k = 1 then decide (m = 0) && (decide (n = 1) || decide (n = 2) || decide (n = 4) || decide (n = 8) || decide (n = 32))
 else if k = 2 then decide (m = 0) && decide (n = 0)
 else if k = 3 ∨ k = 4 then decide (m = 1) && decide (1 ≤ n) && decide (n ≤ 512)
 else if k = 5 ∨ k = 6 then decide (m = 0) && decide (1 ≤ n) && decide (n ≤ 512)
 else if k = 7 then decide (n = 0) && decide (1 ≤ m) && decide (m ≤ 16)
 else decide (n = 0) && decide (1 ≤ m) && decide (m ≤ 8)
mutual
def Va : Ty → Int → Int
 | .mk k n _ ins, d => if k < 1 ∨ 8 < k then 9 else if JG k n ins.length = false then 2 else if 6 ≤ d then 7 else Xc ins (d + 1)
def Xc : List Ty → Int → Int
 | [], _ => 0
 | x :: xs, d => if Va x d = 0 then Xc xs d else Va x d
end
mutual
def VP : Ty → Bool
 | .mk k _ _ ins => !(decide (k = 4) || decide (k = 6) || decide (k = 8)) && Yw ins
def Yw : List Ty → Bool
 | [] => true
 | x :: xs => VP x && Yw xs
end
mutual
def JO : Ty → Int
 | .mk k n _ ins => if k = 1 then n else if k = 2 then 1 else if k = 5 then (n + 7) / 8 else if k = 3 then n * V5 ins else V5 ins
def V5 : List Ty → Int
 | [] => 0
 | x :: xs => JO x + V5 xs
end
def JA (t : Ty) : Bool := decide (Va t 0 = 0) && VP t
def WR (t : Ty) : Int := if JA t then JO t else 0
mutual
def X9 : Vl → Vl → Bool
 | .mk a b c d bits _ items _ pick, v => decide ([a, b, c, d] = v.num) && decide (pick = v.pick) && decide (bits = v.bits) && Wi items v.items
def Wi : List Vl → List Vl → Bool
 | [], [] => true
 | x :: xs, y :: ys => X9 x y && Wi xs ys
 | _, _ => false
end
theorem Ty.ind {M : Ty → Prop} (h : ∀ k n p ins, (∀ x ∈ ins, M x) → M (.mk k n p ins)) : ∀ t, M t
 | .mk k n p ins => h k n p ins fun x hx => Ty.ind h x
theorem Vl.ind {M : Vl → Prop} (h : ∀ a b c d bits pb items pi pick, (∀ x ∈ items, M x) → M (.mk a b c d bits pb items pi pick)) : ∀ t, M t
 | .mk a b c d bits pb items pi pick => h a b c d bits pb items pi pick fun x hx => Vl.ind h x
theorem chkL_mem : ∀ {l : List Ty} {d : Int}, Xc l d = 0 → ∀ x ∈ l, Va x d = 0
 | [], _, _, x, hx => by simp at hx
 | y :: l, d, h, x, hx => by
  rw [Xc] at h
  split at h
  ·rename_i h0
   rcases List.mem_cons.1 hx with rfl | hx
   ·exact h0
   ·exact chkL_mem h x hx
  ·rename_i h0; exact absurd h h0
theorem Zm : ∀ {l : List Ty}, Yw l = true ↔ ∀ x ∈ l, VP x = true
 | [] => by simp [Yw]
 | y :: l => by rw [Yw, Bool.and_eq_true, Zm]; simp
theorem Qv {k n : Int} {p : Pl} {ins : List Ty} {d : Int} (h : Va (.mk k n p ins) d = 0) : (1 ≤ k ∧ k ≤ 8) ∧ JG k n ins.length = true ∧ d < 6 ∧ ∀ x ∈ ins, Va x (d + 1) = 0 := by
 rw [Va] at h
 split at h
 ·cases h
 ·split at h
  ·cases h
  ·split at h
   ·cases h
   ·rename_i h1 h2 h3
    exact ⟨by omega, by simpa using h2, by omega, chkL_mem h⟩
def bnd : Nat → Int
 | 0 => 64
 | m + 1 => 512 * bnd m
theorem vP : ∀ m, 64 ≤ bnd m
 | 0 => by decide
 | m + 1 => by have := vP m; rw [bnd]; omega
theorem xT (h : m ≤ 5) : bnd m ≤ 2251799813685248 := by
 have : ∀ m : Nat, m < 6 → bnd m ≤ 2251799813685248 := by decide
 exact this m m0
theorem vQ {B : Int} : ∀ {l : List Ty}, (∀ x ∈ l, 1 ≤ JO x ∧ JO x ≤ B) → (l.length : Int) ≤ V5 l ∧ V5 l ≤ l.length * B
 | [], _ => by simp [V5]
 | y :: l, h => by
  have h1 := h y mf
  have h2 := vQ (l := l) fun x hx => h x (by simp [hx])
  rw [V5, List.length_cons]
  have e : ((l.length + 1 : Nat) : Int) * B = l.length * B + B := by rw [Int.natCast_add, Int.add_mul]; simp
  omega
theorem jp (t : Ty) : ∀ d : Int, 0 ≤ d → Va t d = 0 → VP t = true → 1 ≤ JO t ∧ JO t ≤ bnd (5 - d).toNat := by
 induction t using Ty.ind with
 | h k n p ins ih =>
  intro d hd hc hf
  obtain ⟨hk, ho, h6, hi⟩ := Qv hc
  rw [VP, Bool.and_eq_true] at hf
  have hb := vP (5 - d).toNat
  have hfix := Zm.1 hf.2
  have hne : (k ≠ 4 ∧ k ≠ 6) ∧ k ≠ 8 := by simpa using hf.1
  unfold JG at ho
  rw [JO]
  by_cases h1 : k = 1
  ·subst h1; exact DO
  by_cases h2 : k = 2
  ·subst h2; simp; omega
  by_cases h5 : k = 5
  ·subst h5; exact DO
  have hne0 : 1 ≤ ins.length ∧ ins.length ≤ 16 := by
   by_cases h3 : k = 3
   ·subst h3; simp at ho; omega
   ·have : k = 7 := by omega
    subst this; simp at ho; omega
  have hd5 : d < 5 := by
   obtain ⟨x, hx⟩ : ∃ x, x ∈ ins := ⟨ins[0], List.getElem_mem m0⟩
   cases x with
   | mk a b c e => have := (Qv (hi _ hx)).2.2.1; omega
  have hs := vQ (B := bnd (5 - (d + 1)).toNat) fun x hx => ih x hx (d + 1) m0 (hi x hx) (hfix x hx)
  have e : (5 - d).toNat = (5 - (d + 1)).toNat + 1 := by omega
  rw [e, bnd]
  have hb2 := vP (5 - (d + 1)).toNat
  generalize bnd (5 - (d + 1)).toNat = B at *
  rw [if_neg h1, if_neg h2, if_neg h5]
  by_cases h3 : k = 3
  ·subst h3
   simp at ho
   have hl : (ins.length : Int) = 1 := by omega
   rw [hl] at hs
   rw [if_pos rfl]
   generalize V5 ins = z at *
   constructor
   ·exact Int.le_trans m0 (Int.mul_le_mul ho.1.2 hs.1 m0 m0)
   ·exact Int.le_trans (Int.mul_le_mul ho.2 hs.2 m0 m0) m0
  ·rw [if_neg h3]
   generalize V5 ins = z at *
   exact DM
theorem WB : ∀ {xs ys : List Vl}, Wi xs ys = true ↔ xs.length = ys.length ∧ ∀ (i : Nat) (x y : Vl), xs[i]? = some x → ys[i]? = some y → X9 x y = true
 | [], [] => by simp [Wi]
 | [], y :: ys => by simp [Wi]
 | x :: xs, [] => by simp [Wi]
 | x :: xs, y :: ys => by
  rw [Wi, Bool.and_eq_true, WB]
  constructor
  ·rintro ⟨h1, h2, h3⟩
   refine ⟨by simp [h2], fun i a b ha hb => ?_⟩
   cases i with
   | zero => simp at ha hb; subst ha; subst hb; exact h1
   | succ i => exact h3 i a b (by simpa using ha) Mi
  ·rintro ⟨h1, h2⟩
   exact ⟨h2 0 x y rfl rfl, by simpa using h1, fun i a b ha hb => h2 (i + 1) a b (by simpa using ha) Mi⟩
theorem Jfn (v : Vl) : X9 v v = true := by
 induction v using Vl.ind with
 | h a b c d bits pb items pi pick ih =>
  rw [X9]
  have : Wi items items = true := WB.2 ⟨rfl, fun i x y hx hy => by rw [hx] at hy; cases hy; exact ih x (List.mem_of_getElem? hx)⟩
  simp [Vl.num, Vl.pick, Vl.bits, Vl.items, this]
open Go Go.RowKit Go.Shelf
structure PureMR (P : Program) (f : FuncId) (args : Array Value) (v : Value) (r : Nat) (o o' : Obj) (Rl : Jj) : Prop where
  run : ∀ w, w.heap[r]? = some o → vI Rl w → Calls P f args w fun e w' => e = .returned v ∧ Keep [r] w w' ∧ w'.heap[r]? = some o'
def xU (P : Program) (w : World) (r : Nat) (Rl : Jj) (n : Nat) : Cx := ⟨P, none, w, [r], [], Rl, n⟩
theorem St.startMR  {n : Nat} {o : Obj} (h : w.heap[r]? = some o) (hR : vI Rl w) (hne : ∀ p ∈ Rl, p.1 ≠ r) : St (xU P w r Rl n) [(r, o)] (fun _ _ => True) w :=
 ⟨Keep.refl _ _, fun p hp => by rw [List.mem_singleton.1 hp]; exact ⟨.inl List.mem_cons_self, by simp [xU], h⟩, List.pairwise_singleton _ _, fun p hp => ⟨by simp [xU]; exact hne p hp, by simp [xU], hR p hp⟩, by simp [xU], ⟨[], by simp, fun _ _ => trivial⟩⟩
theorem Xl {f : FuncId} {o : Obj} (hne : ∀ p ∈ Rl, p.1 ≠ r) (hf : P.funcs[f]? = some fn) (hb : fn.body = some code) (hlen : Nat.ble vs.length fn.ntmps = true)
  (h : ∀ w, HC (xU P w r Rl fn.ntmps) [] (Vo 0 vs) [(r, o)] (fun _ _ => True) code (bodyPostM (FW none) 0 P fn (fun e w' => e = .returned v ∧ ∃ L, (r, o') ∈ L ∧ St (xU P w r Rl fn.ntmps) L (fun _ _ => True) w'))) : PureMR P f vs.toArray v r o o' Rl := ⟨fun w hr hR =>
 (QI (xU P w r Rl fn.ntmps) hf hb rfl rfl rfl hlen (St.startMR hr hR hne) (h w)).mono fun _ _ ⟨he, L, hm, hs⟩ => ⟨he, by have := hs.keep; simpa [xU] using this, (hs.own _ hm).2.2⟩⟩
section
variable {c : Cx} {l : Ko} {L : Jj} {X : XP} {Q : Exit → Act → World → Prop} {d : List Deferred}
variable {ops : Array Oper} {rest : List Oper} {i : Nat} {v : Value} {t : TypeId} {ps : String} {af : Array Edge} {gd : Option (Nat × Bool)} {ty t2 : TypeId}
theorem St.apart (hs : St c L X w) {k : Nat} {o : Obj} (hk : L[k]? = some (r, o)) : ∀ p ∈ c.R, p.1 ≠ r := by
 rintro p hp rfl
 have h1 := (hs.own _ (List.mem_of_getElem? hk)).1
 obtain ⟨h2, _, h3⟩ := hs.ext p hp
 rcases h1 with h1 | h1
 ·exact h2 h1
 ·have := Jx h3
  exact absurd this (Nat.not_lt.2 h1)
theorem Jj2 {k : Nat} {o : Obj}
  (hg : Kp l ops ⟨some i, .call ⟨.value f, args, at_⟩, ty, ps, af, gd⟩ = some true) (hi : Nat.ble (i + 1) c.n = true) (hca : KD l f args = some (g, vs)) (eg : Enters c.P g) (hk : L[k]? = some (r, o))
  (hp : (∀ p ∈ Rl, p.1 ≠ r) → PureMR c.P g vs.toArray v r o o' Rl) (hR : ∀ p ∈ Rl, p ∈ c.R) (hL : L.set k (r, o') = L') (h : HL c d ((i, v) :: l) L' X ops rest Q) : HL c d l L X ops (⟨some i, .call ⟨.value f, args, at_⟩, ty, ps, af, gd⟩ :: rest) Q :=
 Yq (α := Unit) (V := fun _ => v) (L' := fun _ => L') (X' := fun _ => X) hg hi hca eg (fun w hs => ((hp fun p hq => hs.apart hk p (hR p hq)).run w (hs.get hk) (fun p hq => hs.readR (hR p hq))).mono fun _ _ ⟨he, hkp, ho⟩ => ⟨(), he, hL ▸ hs.set hk hkp ho⟩) (fun _ => h)
theorem wC (hg : Kp l ops ⟨some i, .makeMap t none, ty, ps, af, gd⟩ = some true) (hi : Nat.ble (i + 1) c.n = true)
  (h : ∀ r, HL c d ((i, .map (some r)) :: l) ((r, .map #[] 0) :: L) X ops rest Q) : HL c d l L X ops (⟨some i, .makeMap t none, ty, ps, af, gd⟩ :: rest) Q :=
 Wo (α := Nat) (V := fun r => .map (some r)) (L' := fun r => (r, .map #[] 0) :: L) (X' := fun _ => X) hg rfl rfl hi (fun a w _ hs => ⟨w.heap.size, w.alloc (.map #[] 0), by simp only [execOp, Sem.run_bind, Option.map]; rfl, hs.alloc _⟩) h
theorem Qf {m : Operand} {kt et : Nat} {key val : Value} (K : KeyL c.P kt dom eq) (hg : Kp l ops ⟨none, .insert t m x y, ty, ps, af, gd⟩ = some true)
  (hm : Kh l m = some (.map (some r))) (hx : Kh l x = some key) (hy : Kh l y = some val) (hq : L[q]? = some (r, .map es clock)) (ht : zp c.P t = some (kt, et)) (hk : dom key) (he : ∀ e ∈ es.toList, dom e.key) (hn : QY eq key (es.toList.map Yg) = none)
  (hL : L.set q (r, .map (es.push { key := key, val := val, born := clock }) (clock + 1)) = L') (h : HL c d l L' X ops rest Q) : HL c d l L X ops (⟨none, .insert t m x y, ty, ps, af, gd⟩ :: rest) Q :=
 xy hg rfl rfl (fun a w hf hs => ⟨_, by
  simp only [execOp, Sem.run_bind]
  rw [hf.eval hm, hf.eval hx, hf.eval hy, Jfl K ht (hs.get hq) hk he hn]; rfl, hL ▸ hs.set hq (Keep.putObj r _) (World.putObj_heap_same (Jx (hs.get hq)))⟩) h
end
def isI (v : Value) : Prop := ∃ n, v = .int .i64 n
def Zd (x y : Value) : Bool := eqS x y
theorem wD (ht : P.underlying t = some (.int .i64)) (b : Bool) (n : Nat) (x : Int) (w : World) : (Instr.checkKey b (n + 1) t (.int .i64 x)).run P w = .ok () w := by
 simp [Instr.checkKey, Sem.run_bind, Qk ht, Result.andThen]
theorem XQ (ht : P.underlying t = some (.int .i64)) : KeyL P t isI Zd where
 now := ⟨_, ht, fun a b ⟨a1, ha⟩ ⟨b1, hb⟩ => by subst ha hb; exact .inr (by simp [Instr.sameNow, Zd, eqS])⟩
 equal := by
  rintro _ _ w ⟨a, rfl⟩ ⟨b, rfl⟩
  exact xG (by simp [Wq, ht]) (by simp [Wq, ht]) 9999 w
 check := by
  rintro _ b w ⟨x, rfl⟩
  exact wD ht b 9999 x w
theorem Jm0 (a b : Int) : Zd (.int .i64 a) (.int .i64 b) = (a == b) := rfl
structure GE where
  α : Type
  V : α → Value
  LL : α → Jj
  x0 : α
inductive Kb
  | quiet
  | pure
  | grow (e : GE)
  | turn
  | dep (ts : List Nat) (e : List Value → GE)
abbrev jS := Nat → Kb
variable {tb : jS}
def Kb.isGrow : Kb → Bool
 | .grow _ => true
 | .dep _ _ => true
 | _ => false
def XA (a : Act) (ts : List Nat) : List Value := ts.map fun t => a.eval (.tmp t)
def Kb.ge : Kb → Act → Option GE
 | .grow e, _ => some e
 | .dep ts e, a => some (e (XA a ts))
 | _, _ => none
def Jj3 (ops : Array Oper) (tb : jS) (m : Nat) : Prop :=
 ∀ j, j < m → ∀ o, ops[j]? = some o → ∀ ts e, tb j = .dep ts e → ∀ t ∈ ts, t ∈ o.looksAt ops
theorem Jj4 {dst : Option Tmp} (h : ∀ d, dst = some d → d ∉ o.looksAt ops) (ht : ∀ t ∈ ts, t ∈ o.looksAt ops) : XA (a.put dst v) ts = XA a ts :=
 List.map_congr_left fun t hm => Act.eval_put fun d hd e => by cases e; exact h t hd (ht t hm)
theorem wE {dst : Option Tmp} (hd : Jj3 ops tb m) (hj : j < m) (ho : ops[j]? = some o) (h : ∀ d, dst = some d → d ∉ o.looksAt ops) : (tb j).ge (a.put dst v) = (tb j).ge a := by
 cases ht : tb j with
 | dep ts e => show some (e (XA (a.put dst v) ts)) = some (e (XA a ts)); rw [Jj4 h (hd j hj o ho ts e ht)]
 | _ => rfl
theorem zv {k : Kb} (a : Act) (h : k.isGrow = true) : ∃ e, k.ge a = some e := by
 cases k with
 | grow e => exact ⟨e, rfl⟩
 | dep ts e => exact ⟨_, rfl⟩
 | _ => cases h
def Kb.isTurn : Kb → Bool
 | .turn => true
 | _ => false
def Kb.isQuiet : Kb → Bool
 | .quiet => true
 | _ => false
section
variable {c : Cx} {X : XP} {S : Jj} {ops : Array Oper} {md : Region.Mode}
def Jm1 (LL : Jj) (w w' : World) : Prop := Keep [] w w' ∧ (∀ p ∈ LL, w.heap.size ≤ p.1 ∧ w'.heap[p.1]? = some p.2) ∧ LL.Pairwise fun p q => p.1 ≠ q.1
def YG (c : Cx) (X : XP) (S : Jj) (ops : Array Oper) (o : Oper) (e : GE) (a : Act) : Prop :=
 Region.wanted o (yielded ops a.tmps) = true ∧ ∀ E, SubS S E → ∀ w, St c E X w → actAt c o a w fun u w' => ∃ x, u = e.V x ∧ Jm1 (e.LL x) w w'
theorem YG.same {e : GE} (hy : YG c X S ops o e a) (he : execOp a'.eval o = execOp a.eval o) (hw : Region.wanted o (yielded ops a'.tmps) = Region.wanted o (yielded ops a.tmps)) : YG c X S ops o e a' :=
 ⟨hw.trans hy.1, fun E hE w hs => (hy.2 E hE w hs).same he⟩
def YT (c : Cx) (E : Jj) (X : XP) (ops : Array Oper) (o : Oper) {α : Type} (V : α → Value) (G : α → Jj) (a : Act) : Prop :=
 Region.wanted o (yielded ops a.tmps) = true ∧ ∀ w, St c E X w → actAt c o a w fun u w' => ∃ x, u = V x ∧ St c (G x) X w'
def stB (c : Cx) (X : XP) (S : Jj) (ops : Array Oper) (tb : jS) (i : Nat) (K : Jj → Act → Prop) (E : Jj) (a : Act) : Prop :=
 ∃ o, ops[i]? = some o ∧ match tb i with
  | .quiet => ∃ v, YQ c E X ops o v a ∧ K E (a.put o.dst v)
  | .pure => ∃ v, YP c X S ops o v a ∧ K E (a.put o.dst v)
  | .grow e => (YG c X S ops o e a ∧ ∀ x, K (e.LL x ++ E) (a.put o.dst (e.V x))) ∨ (Region.wanted o (yielded ops a.tmps) = false ∧ K E (a.put o.dst undef))
  | .turn => (∃ (α : Type) (V : α → Value) (G : α → Jj), YT c E X ops o V G a ∧ ∀ x, SubS S (G x) ∧ K (G x) (a.put o.dst (V x))) ∨ (Region.wanted o (yielded ops a.tmps) = false ∧ K E (a.put o.dst undef))
  | .dep ts e => (YG c X S ops o (e (XA a ts)) a ∧ ∀ x, K ((e (XA a ts)).LL x ++ E) (a.put o.dst ((e (XA a ts)).V x))) ∨ (Region.wanted o (yielded ops a.tmps) = false ∧ K E (a.put o.dst undef))
theorem qC {K : Jj → Act → Prop} {E : Jj} {e : GE} (h : (tb i).ge a = some e) :
  stB c X S ops tb i K E a ↔ ∃ o, ops[i]? = some o ∧ ((YG c X S ops o e a ∧ ∀ x, K (e.LL x ++ E) (a.put o.dst (e.V x))) ∨ (Region.wanted o (yielded ops a.tmps) = false ∧ K E (a.put o.dst undef))) := by
 unfold stB
 cases ht : tb i with
 | grow e' => rw [ht] at h; cases h; exact Iff.rfl
 | dep ts e' => rw [ht] at h; cases h; exact Iff.rfl
 | _ => rw [ht] at h; cases h
def Yi (c : Cx) (X : XP) (S : Jj) (ops : Array Oper) (md : Region.Mode) (tb : jS) (m : Nat) (T : Jj → Array Bool → Act → Prop) : Nat → Array Bool → Jj → Act → Prop
 | 0, listed, E, a => T E listed a
 | f + 1, listed, E, a => Region.ready md ops listed ≠ [] ∧ ∀ i ∈ Region.ready md ops listed, i < m ∧ stB c X S ops tb i (fun E' a' => Yi c X S ops md tb m T f (listed.setIfInBounds i true) E' a') E a
theorem SubS.grow {E LL : Jj} (h : SubS S E) : SubS S (LL ++ E) := fun p hp => List.mem_append_right _ (h p hp)
theorem YQ.perm {E : Jj} (hy : YQ c E X ops o v a) (hp : E.Perm E') : YQ c E' X ops o v a := by
 rcases hy with ⟨h1, h2⟩ | h
 ·exact .inl ⟨h1, fun w hs => h2 w (hs.perm hp.symm)⟩
 ·exact .inr h
theorem Wj {tb : jS} {m : Nat} {T : Jj → Array Bool → Act → Prop} (hTp : ∀ E E' listed a, E.Perm E' → T E listed a → T E' listed a) :
  ∀ (f : Nat) (listed : Array Bool) (E E' : Jj) (a : Act), E.Perm E' → Yi c X S ops md tb m T f listed E a → Yi c X S ops md tb m T f listed E' a
 | 0, listed, E, E', a, hp, h => hTp _ _ _ _ hp h
 | f + 1, listed, E, E', a, hp, h => by
  refine ⟨h.1, fun i hi => ⟨(h.2 i hi).1, ?_⟩⟩
  obtain ⟨o, ho, hm⟩ := (h.2 i hi).2
  refine ⟨o, ho, ?_⟩
  cases ha : tb i with
  | quiet => rw [ha] at hm; obtain ⟨v, h1, h2⟩ := hm; exact ⟨v, h1.perm hp, Wj hTp f _ _ _ _ hp h2⟩
  | pure => rw [ha] at hm; obtain ⟨v, h1, h2⟩ := hm; exact ⟨v, h1, Wj hTp f _ _ _ _ hp h2⟩
  | grow e =>
   rw [ha] at hm
   rcases hm with ⟨h1, h2⟩ | ⟨h1, h2⟩
   ·exact .inl ⟨h1, fun x => Wj hTp f _ _ _ _ (hp.append_left _) (h2 x)⟩
   ·exact .inr ⟨h1, Wj hTp f _ _ _ _ hp h2⟩
  | turn =>
   rw [ha] at hm
   rcases hm with ⟨α, V, G, ⟨h1, h2⟩, h3⟩ | ⟨h1, h2⟩
   ·exact .inl ⟨α, V, G, ⟨h1, fun w hs => h2 w (hs.perm hp.symm)⟩, h3⟩
   ·exact .inr ⟨h1, Wj hTp f _ _ _ _ hp h2⟩
  | dep ts e =>
   rw [ha] at hm
   rcases hm with ⟨h1, h2⟩ | ⟨h1, h2⟩
   ·exact .inl ⟨h1, fun x => Wj hTp f _ _ _ _ (hp.append_left _) (h2 x)⟩
   ·exact .inr ⟨h1, Wj hTp f _ _ _ _ hp h2⟩
theorem Jwg {K : Jj → Act → Prop} {E : Jj} (hnd : ∀ (j : Nat) (o : Oper), ops[j]? = some o → Kx o.op = true)
  (hs : St c E X w) (hE : SubS S E) (h : ∀ E a w', SubS S E → St c E X w' → K E a → K' a w') (hh : stB c X S ops tb i K E a) : wpOpIn (FW c.ro) 0 c.P ops Q' i K' a w := by
 obtain ⟨o, ho, hm⟩ := hh
 have no : Region.wanted o (yielded ops a.tmps) = false → K E (a.put o.dst undef) → wpOpIn (FW c.ro) 0 c.P ops Q' i K' a w := fun hw hk => by
  exact HO
 have yes : ∀ v, YQ c E X ops o v a → K E (a.put o.dst v) → wpOpIn (FW c.ro) 0 c.P ops Q' i K' a w := fun v hy hk => by
  rcases hy with ⟨hw, hq⟩ | ⟨hw, rfl⟩
  ·exact Ht
  ·exact no hw hk
 cases ha : tb i with
 | quiet => rw [ha] at hm; obtain ⟨v, h1, h2⟩ := hm; exact yes v h1 h2
 | pure => rw [ha] at hm; obtain ⟨v, h1, h2⟩ := hm; exact yes v (h1.quiet hE) h2
 | grow e =>
  rw [ha] at hm
  rcases hm with ⟨⟨hw, hr⟩, h2⟩ | ⟨hw, h2⟩
  ·exact GB
  ·exact no hw h2
 | turn =>
  rw [ha] at hm
  rcases hm with ⟨α, V, G, ⟨hw, hr⟩, h2⟩ | ⟨hw, h2⟩
  ·exact Hj
  ·exact no hw h2
 | dep ts e =>
  rw [ha] at hm
  rcases hm with ⟨⟨hw, hr⟩, h2⟩ | ⟨hw, h2⟩
  ·exact GB
  ·exact no hw h2
theorem Jhl {tb : jS} {m g : Nat} {T : Jj → Array Bool → Act → Prop} {Q' : Exit → Act → World → Prop} (hnd : ∀ (j : Nat) (o : Oper), ops[j]? = some o → Kx o.op = true)
  (hT : ∀ E listed a w, SubS S E → St c E X w → T E listed a → wpAnyIn (FW c.ro) 0 c.P md ops Q' g listed a w) :
  ∀ (f : Nat) (listed : Array Bool) (E : Jj) (a : Act) (w : World), SubS S E → St c E X w → Yi c X S ops md tb m T f listed E a → wpAnyIn (FW c.ro) 0 c.P md ops Q' (f + g) listed a w
 | 0, listed, E, a, w, hE, hw, h => by rw [Nat.zero_add]; exact hT _ _ _ _ hE hw h
 | f + 1, listed, E, a, w, hE, hw, h => by
  rw [show f + 1 + g = (f + g) + 1 from by omega]
  exact ⟨fun h0 => absurd h0 h.1, fun i hi => Jwg hnd hw hE (fun E' a' w' hE' hw' h' => Jhl hnd hT f _ E' a' w' hE' hw' h') (h.2 i hi).2⟩
def Jfo (md : Region.Mode) (ops : Array Oper) (tb : jS) (m i : Nat) : Prop :=
 tb i = .quiet → ∀ j, j < m → tb j = .turn → ∀ listed, i ∈ Region.ready md ops listed → j ∈ Region.ready md ops listed → False
def okG (md : Region.Mode) (ops : Array Oper) (tb : jS) (i : Nat) : Nat → Array Bool → Bool
 | 0, listed => (Region.ready md ops listed).all fun j => j == i
 | f + 1, listed => (Region.ready md ops listed).all fun j => j == i || ((tb j).isGrow && okG md ops tb i f (listed.setIfInBounds j true))
theorem Jfp (hi : ops[i]? = some oi) (hai : tb i = .quiet ∨ tb i = .pure) (hsel : ∀ (j : Nat) (o : Oper) cs b, ops[j]? = some o → o.op ≠ .select cs b)
  (hbd : Jfo md ops tb m i) (hdep : Jj3 ops tb m)
  (hlt : ∀ listed, HeadInv md ops m listed → listed.getD i true = false → ∀ j ∈ Region.ready md ops listed, j < m)
  (hT : ∀ E listed a, T E listed a → ∀ j ∈ Region.ready md ops listed, m ≤ j) :
  ∀ (f : Nat) (listed : Array Bool) (E : Jj) (a : Act), HeadInv md ops m listed →
   (∀ j oj, ops[j]? = some oj → j ≠ i → listed.getD j true = false → (∀ e ∈ oj.after, Region.binds md e = true → e.on ≠ i) → oi.apart ops oj = true) →
   SubS S E → i ∈ Region.ready md ops listed → (YQ c E X ops oi v a ∧ (tb i = .pure → YP c X S ops oi v a)) →
   Yi c X S ops md tb m T f (listed.setIfInBounds i true) E (a.put oi.dst v) → Yi c X S ops md tb m T (f + 1) listed E a := by
 have self : ∀ {K : Jj → Act → Prop} {E : Jj} {a : Act}, (YQ c E X ops oi v a ∧ (tb i = .pure → YP c X S ops oi v a)) → K E (a.put oi.dst v) → stB c X S ops tb i K E a := by
  intro K E a hy H
  refine ⟨oi, hi, ?_⟩
  rcases hai with h | h <;> rw [h]
  ·exact ⟨v, hy.1, H⟩
  ·exact ⟨v, hy.2 h, H⟩
 intro f
 induction f with
 | zero =>
  intro listed E a inv _ hSE hr hy H
  refine ⟨fun h => mN, fun j hj => ⟨hlt _ inv (mem_ready.1 hr).1 j hj, ?_⟩⟩
  by_cases hji : j = i
  ·subst hji; exact self hy H
  ·exact Dc
 | succ f ih =>
  intro listed E a inv hfree hSE hr hy H
  refine ⟨fun h => mN, fun j hj => ?_⟩
  have hjm := hlt _ inv (mem_ready.1 hr).1 j hj
  refine ⟨hjm, ?_⟩
  by_cases hji : j = i
  ·subst hji; exact self hy H
  ·obtain ⟨oj, hoj, hm⟩ := (H.2 j (ready_mono hj hji)).2
   obtain ⟨hjun, oj', hoj', hall⟩ := mem_ready.1 hj
   rw [hoj] at hoj'
   cases hoj'
   have hnot : ∀ e ∈ oj.after, Region.binds md e = true → e.on ≠ i := fun e he hb heq => by
    have h2 := hall e he hb
    rw [heq, getD_both (mem_ready.1 hr).1] at h2
    cases h2
   obtain ⟨h1, h2, h3⟩ := Oper.apart_spec (hfree j oj hoj hji hjun hnot)
   have hfree' : ∀ k ok, ops[k]? = some ok → k ≠ i → (listed.setIfInBounds j true).getD k true = false →
     (∀ e ∈ ok.after, Region.binds md e = true → e.on ≠ i) → oi.apart ops ok = true := fun k ok hk hki hun hno => by
    refine hfree k ok hk hki ?_ hno
    by_cases hjk : j = k
    ·subst hjk; exact hjun
    ·exact Dk
   have back1 := fun u => (execOp_put oj (fun cs b => hsel j oj cs b hoj) a oi.dst u h1)
   have back2 := fun u => (wanted_put oj a oi.dst u h1)
   have forth1 := fun u => (execOp_put oi (fun cs b => hsel i oi cs b hi) a oj.dst u h3)
   have forth2 := fun u => (wanted_put oi a oj.dst u h3)
   have go : ∀ E' u, SubS S E' → (E.Sublist E' ∨ tb i = .pure) → Yi c X S ops md tb m T f ((listed.setIfInBounds i true).setIfInBounds j true) E' ((a.put oi.dst v).put oj.dst u) →
     Yi c X S ops md tb m T (f + 1) (listed.setIfInBounds j true) E' (a.put oj.dst u) := fun E' u hSE' hsub hK => by
    refine ih (listed.setIfInBounds j true) E' (a.put oj.dst u) (inv.set hj hjm) hfree' hSE' (ready_mono hr (Ne.symm hji)) ⟨?_, fun hp => (hy.2 hp).same (forth1 u) (forth2 u)⟩ ?_
    ·rcases hsub with hsub | hp
     ·exact (hy.1.weak hsub).same (forth1 u) (forth2 u)
     ·exact ((hy.2 hp).same (forth1 u) (forth2 u)).quiet hSE'
    ·rw [Array.setIfInBounds_comm _ _ hji, ← Act.put_comm a v u h2]
     exact hK
   refine ⟨oj, hoj, ?_⟩
   cases ha : tb j with
   | quiet => rw [ha] at hm; obtain ⟨u, g1, g2⟩ := hm; exact ⟨u, g1.same (back1 v).symm (back2 v).symm, go E u hSE (.inl (List.Sublist.refl _)) g2⟩
   | pure => rw [ha] at hm; obtain ⟨u, g1, g2⟩ := hm; exact ⟨u, g1.same (back1 v).symm (back2 v).symm, go E u hSE (.inl (List.Sublist.refl _)) g2⟩
   | grow e =>
    rw [ha] at hm
    rcases hm with ⟨g1, g2⟩ | ⟨g1, g2⟩
    ·exact GJ
    ·exact G1
   | turn =>
    rw [ha] at hm
    rcases hm with ⟨α, V, G, ⟨g0, g1⟩, g2⟩ | ⟨g1, g2⟩
    ·refine .inl ⟨α, V, G, ⟨(back2 v).symm.trans g0, fun w hs => (g1 w hs).same (back1 v).symm⟩, fun x => ⟨(g2 x).1, go _ _ (g2 x).1 ?_ (g2 x).2⟩⟩
     rcases hai with hq | hp
     ·exact (hbd hq j hjm ha listed hr hj).elim
     ·exact .inr hp
    ·exact G1
   | dep ts e =>
    obtain ⟨o', ho', hm'⟩ := (qC (e := e (XA a ts)) ((wE hdep hjm hoj h1).trans nN)).1 (H.2 j (ready_mono hj hji)).2
    rw [hoj] at ho'
    cases ho'
    rcases hm' with ⟨g1, g2⟩ | ⟨g1, g2⟩
    ·exact GJ
    ·exact G1
theorem Jcm (hi : ops[i]? = some oi) (hai : (tb i).isGrow = true) (hdep : Jj3 ops tb m) (hsel : ∀ (j : Nat) (o : Oper) cs b, ops[j]? = some o → o.op ≠ .select cs b)
  (hlt : ∀ listed, HeadInv md ops m listed → listed.getD i true = false → ∀ j ∈ Region.ready md ops listed, j < m)
  (hT : ∀ E listed a, T E listed a → ∀ j ∈ Region.ready md ops listed, m ≤ j) :
  ∀ (f : Nat) (listed : Array Bool) (E : Jj) (a : Act), HeadInv md ops m listed →
   (∀ j oj, ops[j]? = some oj → j ≠ i → listed.getD j true = false → (∀ e ∈ oj.after, Region.binds md e = true → e.on ≠ i) → oi.apart ops oj = true) →
   SubS S E → i ∈ Region.ready md ops listed → Region.wanted oi (yielded ops a.tmps) = false →
   Yi c X S ops md tb m T f (listed.setIfInBounds i true) E (a.put oi.dst undef) → Yi c X S ops md tb m T (f + 1) listed E a := by
 have self : ∀ {K : Jj → Act → Prop} {E : Jj} {a : Act}, Region.wanted oi (yielded ops a.tmps) = false → K E (a.put oi.dst undef) → stB c X S ops tb i K E a := by
  intro K E a hy H
  obtain ⟨e, he⟩ := zv a hai
  exact (qC he).2 ⟨oi, hi, .inr ⟨hy, H⟩⟩
 intro f
 induction f with
 | zero =>
  intro listed E a inv _ hSE hr hy H
  refine ⟨fun h => mN, fun j hj => ⟨hlt _ inv (mem_ready.1 hr).1 j hj, ?_⟩⟩
  by_cases hji : j = i
  ·subst hji; exact self hy H
  ·exact Dc
 | succ f ih =>
  intro listed E a inv hfree hSE hr hy H
  refine ⟨fun h => mN, fun j hj => ?_⟩
  have hjm := hlt _ inv (mem_ready.1 hr).1 j hj
  refine ⟨hjm, ?_⟩
  by_cases hji : j = i
  ·subst hji; exact self hy H
  ·obtain ⟨oj, hoj, hm⟩ := (H.2 j (ready_mono hj hji)).2
   obtain ⟨hjun, oj', hoj', hall⟩ := mem_ready.1 hj
   rw [hoj] at hoj'
   cases hoj'
   have hnot : ∀ e ∈ oj.after, Region.binds md e = true → e.on ≠ i := fun e he hb heq => by
    have h2 := hall e he hb
    rw [heq, getD_both (mem_ready.1 hr).1] at h2
    cases h2
   obtain ⟨h1, h2, h3⟩ := Oper.apart_spec (hfree j oj hoj hji hjun hnot)
   have hfree' : ∀ k ok, ops[k]? = some ok → k ≠ i → (listed.setIfInBounds j true).getD k true = false →
     (∀ e ∈ ok.after, Region.binds md e = true → e.on ≠ i) → oi.apart ops ok = true := fun k ok hk hki hun hno => by
    refine hfree k ok hk hki ?_ hno
    by_cases hjk : j = k
    ·subst hjk; exact hjun
    ·exact Dk
   have back1 := fun u => (execOp_put oj (fun cs b => hsel j oj cs b hoj) a oi.dst u h1)
   have back2 := fun u => (wanted_put oj a oi.dst u h1)
   have forth1 := fun u => (execOp_put oi (fun cs b => hsel i oi cs b hi) a oj.dst u h3)
   have forth2 := fun u => (wanted_put oi a oj.dst u h3)
   have go : ∀ E' u, SubS S E' → Yi c X S ops md tb m T f ((listed.setIfInBounds i true).setIfInBounds j true) E' ((a.put oi.dst undef).put oj.dst u) →
     Yi c X S ops md tb m T (f + 1) (listed.setIfInBounds j true) E' (a.put oj.dst u) := fun E' u hSE' hK => by
    refine ih (listed.setIfInBounds j true) E' (a.put oj.dst u) (inv.set hj hjm) hfree' hSE' (ready_mono hr (Ne.symm hji)) ((forth2 u).trans hy) ?_
    rw [Array.setIfInBounds_comm _ _ hji, ← Act.put_comm a undef u h2]
    exact hK
   refine ⟨oj, hoj, ?_⟩
   cases ha : tb j with
   | quiet => rw [ha] at hm; obtain ⟨u, g1, g2⟩ := hm; exact ⟨u, g1.same (back1 undef).symm (back2 undef).symm, go E u hSE g2⟩
   | pure => rw [ha] at hm; obtain ⟨u, g1, g2⟩ := hm; exact ⟨u, g1.same (back1 undef).symm (back2 undef).symm, go E u hSE g2⟩
   | grow e =>
    rw [ha] at hm
    rcases hm with ⟨g1, g2⟩ | ⟨g1, g2⟩
    ·exact HN
    ·exact H7
   | turn =>
    rw [ha] at hm
    rcases hm with ⟨α, V, G, ⟨g0, g1⟩, g2⟩ | ⟨g1, g2⟩
    ·exact .inl ⟨α, V, G, ⟨(back2 undef).symm.trans g0, fun w hs => (g1 w hs).same (back1 undef).symm⟩, fun x => ⟨(g2 x).1, go _ _ (g2 x).1 (g2 x).2⟩⟩
    ·exact H7
   | dep ts e =>
    obtain ⟨o', ho', hm'⟩ := (qC (e := e (XA a ts)) ((wE hdep hjm hoj h1).trans nN)).1 (H.2 j (ready_mono hj hji)).2
    rw [hoj] at ho'
    cases ho'
    rcases hm' with ⟨g1, g2⟩ | ⟨g1, g2⟩
    ·exact HN
    ·exact H7
theorem zw {ei : GE} (hi : ops[i]? = some oi) (him : i < m) (hdep : Jj3 ops tb m) (hsel : ∀ (j : Nat) (o : Oper) cs b, ops[j]? = some o → o.op ≠ .select cs b)
  (hTp : ∀ E E' listed a, E.Perm E' → T E listed a → T E' listed a)
  (hlt : ∀ listed, HeadInv md ops m listed → listed.getD i true = false → ∀ j ∈ Region.ready md ops listed, j < m)
  (hT : ∀ E listed a, T E listed a → ∀ j ∈ Region.ready md ops listed, m ≤ j) :
  ∀ (f : Nat) (listed : Array Bool) (E : Jj) (a : Act), HeadInv md ops m listed →
   (∀ j oj, ops[j]? = some oj → j ≠ i → listed.getD j true = false → (∀ e ∈ oj.after, Region.binds md e = true → e.on ≠ i) → oi.apart ops oj = true) →
   SubS S E → (tb i).ge a = some ei → i ∈ Region.ready md ops listed → okG md ops tb i f listed = true → YG c X S ops oi ei a →
   (∀ x, Yi c X S ops md tb m T f (listed.setIfInBounds i true) (ei.LL x ++ E) (a.put oi.dst (ei.V x))) → Yi c X S ops md tb m T (f + 1) listed E a := by
 have self : ∀ {K : Jj → Act → Prop} {E : Jj} {a : Act}, (tb i).ge a = some ei → YG c X S ops oi ei a → (∀ x, K (ei.LL x ++ E) (a.put oi.dst (ei.V x))) → stB c X S ops tb i K E a := by
  intro K E a hai hy H
  exact (qC hai).2 ⟨oi, hi, .inl ⟨hy, H⟩⟩
 intro f
 induction f with
 | zero =>
  intro listed E a inv _ hSE hai hr hok hy H
  refine ⟨fun h => mN, fun j hj => ⟨hlt _ inv (mem_ready.1 hr).1 j hj, ?_⟩⟩
  by_cases hji : j = i
  ·subst hji; exact self hai hy H
  ·have h1 := hT _ _ _ (H ei.x0) j (ready_mono hj hji)
   have h2 := hlt _ inv (mem_ready.1 hr).1 j hj
   omega
 | succ f ih =>
  intro listed E a inv hfree hSE hai hr hok hy H
  refine ⟨fun h => mN, fun j hj => ?_⟩
  have hjm := hlt _ inv (mem_ready.1 hr).1 j hj
  refine ⟨hjm, ?_⟩
  by_cases hji : j = i
  ·subst hji; exact self hai hy H
  ·unfold okG at hok
   have hokj := List.all_eq_true.1 hok j hj
   simp only [Bool.or_eq_true, beq_iff_eq, hji, false_or, Bool.and_eq_true] at hokj
   obtain ⟨hgj, hok'⟩ := hokj
   obtain ⟨ej, ha⟩ := zv a hgj
   obtain ⟨hjun, oj, hoj, hall⟩ := mem_ready.1 hj
   have hnot : ∀ e ∈ oj.after, Region.binds md e = true → e.on ≠ i := fun e he hb heq => by
    have h2 := hall e he hb
    rw [heq, getD_both (mem_ready.1 hr).1] at h2
    cases h2
   obtain ⟨h1, h2, h3⟩ := Oper.apart_spec (hfree j oj hoj hji hjun hnot)
   have hfree' : ∀ k ok, ops[k]? = some ok → k ≠ i → (listed.setIfInBounds j true).getD k true = false →
     (∀ e ∈ ok.after, Region.binds md e = true → e.on ≠ i) → oi.apart ops ok = true := fun k ok hk hki hun hno => by
    refine hfree k ok hk hki ?_ hno
    by_cases hjk : j = k
    ·subst hjk; exact hjun
    ·exact Dk
   have back1 := fun u => (execOp_put oj (fun cs b => hsel j oj cs b hoj) a oi.dst u h1)
   have back2 := fun u => (wanted_put oj a oi.dst u h1)
   have forth1 := fun u => (execOp_put oi (fun cs b => hsel i oi cs b hi) a oj.dst u h3)
   have forth2 := fun u => (wanted_put oi a oj.dst u h3)
   have hstep : ∀ x, (YG c X S ops oj ej (a.put oi.dst (ei.V x)) ∧ ∀ y, Yi c X S ops md tb m T f ((listed.setIfInBounds i true).setIfInBounds j true) (ej.LL y ++ (ei.LL x ++ E)) ((a.put oi.dst (ei.V x)).put oj.dst (ej.V y))) ∨
     (Region.wanted oj (yielded ops (a.put oi.dst (ei.V x)).tmps) = false ∧ Yi c X S ops md tb m T f ((listed.setIfInBounds i true).setIfInBounds j true) (ei.LL x ++ E) ((a.put oi.dst (ei.V x)).put oj.dst undef)) := fun x => by
    obtain ⟨o', ho', hm⟩ := (qC ((wE hdep hjm hoj h1).trans ha)).1 ((H x).2 j (ready_mono hj hji)).2
    rw [hoj] at ho'
    cases ho'
    exact hm
   refine (qC ha).2 ⟨oj, hoj, ?_⟩
   cases hw : Region.wanted oj (yielded ops a.tmps) with
   | true =>
    have hpos : ∀ x, YG c X S ops oj ej (a.put oi.dst (ei.V x)) ∧ ∀ y, Yi c X S ops md tb m T f ((listed.setIfInBounds i true).setIfInBounds j true) (ej.LL y ++ (ei.LL x ++ E)) ((a.put oi.dst (ei.V x)).put oj.dst (ej.V y)) := fun x => by
     rcases hstep x with h | h
     ·exact h
     ·have := (back2 (ei.V x)).symm.trans h.1; rw [hw] at this; cases this
    refine .inl ⟨(hpos ei.x0).1.same (back1 _).symm (back2 _).symm, fun y => ?_⟩
    refine ih (listed.setIfInBounds j true) (ej.LL y ++ E) (a.put oj.dst (ej.V y)) (inv.set hj hjm) hfree' hSE.grow ((wE hdep him hi h3).trans hai) (ready_mono hr (Ne.symm hji)) hok' (hy.same (forth1 _) (forth2 _)) fun x => ?_
    rw [Array.setIfInBounds_comm _ _ hji, ← Act.put_comm a _ _ h2]
    refine Wj hTp f _ _ _ _ ?_ ((hpos x).2 y)
    rw [← List.append_assoc, ← List.append_assoc]
    exact List.Perm.append_right _ List.perm_append_comm
   | false =>
    have hneg : ∀ x, Yi c X S ops md tb m T f ((listed.setIfInBounds i true).setIfInBounds j true) (ei.LL x ++ E) ((a.put oi.dst (ei.V x)).put oj.dst undef) := fun x => by
     rcases hstep x with h | h
     ·have := (back2 (ei.V x)).symm.trans h.1.1; rw [hw] at this; cases this
     ·exact h.2
    refine .inr ⟨rfl, ?_⟩
    refine ih (listed.setIfInBounds j true) E (a.put oj.dst undef) (inv.set hj hjm) hfree' hSE ((wE hdep him hi h3).trans hai) (ready_mono hr (Ne.symm hji)) hok' (hy.same (forth1 _) (forth2 _)) fun x => ?_
    rw [Array.setIfInBounds_comm _ _ hji, ← Act.put_comm a _ _ h2]
    exact hneg x
def Jfq (c : Cx) (X : XP) (S : Jj) (ops : Array Oper) (tb : jS) (T : Jj → Act → Prop) : List Nat → Jj → Act → Prop
 | [], E, a => T E a
 | k :: rest, E, a => stB c X S ops tb k (fun E' a' => Jfq c X S ops tb T rest E' a') E a
def Jm2 (md : Region.Mode) (ops : Array Oper) (tb : jS) (m g : Nat) : List Nat → Array Bool → Bool
  | [], listed => Region.seqB md ops g m listed
  | k :: r, listed => Nat.blt k m && (match (tb k).isTurn with
      | true => decide (Region.ready md ops listed = [k])
      | false => (Region.ready md ops listed).contains k && Region.free md ops listed k && (!(tb k).isGrow || okG md ops tb k r.length listed)) && Jm2 md ops tb m g r (listed.setIfInBounds k true)
theorem Jcn {tb : jS} {m g : Nat} {T : Jj → Act → Prop} (hsel : Region.noSelect ops = true) (hTp : ∀ E E' a, E.Perm E' → T E a → T E' a) (hbd : ∀ i, i < m → Jfo md ops tb m i) (hdep : Jj3 ops tb m) (hlt : ∀ i, i < m → ∀ listed, HeadInv md ops m listed → listed.getD i true = false → ∀ j ∈ Region.ready md ops listed, j < m)
  (hseq : ∀ listed, Region.seqB md ops g m listed = true → ∀ j ∈ Region.ready md ops listed, m ≤ j) :
  ∀ (l : List Nat) (listed : Array Bool) (E : Jj) (a : Act), HeadInv md ops m listed → SubS S E →
  Jm2 md ops tb m g l listed = true → Jfq c X S ops tb T l E a →
  Yi c X S ops md tb m (fun E' listed' a' => Region.seqB md ops g m listed' = true ∧ T E' a') l.length listed E a
 | [], listed, E, a, _, _, hB, h => ⟨by simpa [Jm2] using hB, h⟩
 | k :: l, listed, E, a, inv, hSE, hB, h => by
  simp only [Jm2, Bool.and_eq_true] at hB
  obtain ⟨⟨hkm, hr⟩, hB'⟩ := hB
  have hkm : k < m := by
   have : k + 1 ≤ m := Nat.le_of_ble_eq_true hkm
   omega
  have hr' : k ∈ Region.ready md ops listed := by
   cases ht : (tb k).isTurn with
   | true => rw [ht] at hr; simp only [decide_eq_true_eq] at hr; rw [hr]; exact List.mem_cons_self
   | false => rw [ht] at hr; simp only [Bool.and_eq_true] at hr; simpa using hr.1.1
  have next : ∀ E' a', SubS S E' → Jfq c X S ops tb T l E' a' → Yi c X S ops md tb m (fun E' listed' a' => Region.seqB md ops g m listed' = true ∧ T E' a') l.length (listed.setIfInBounds k true) E' a' := fun E' a' hSE' hw =>
   Jcn hsel hTp hbd hdep hlt hseq l _ E' a' (inv.set hr' hkm) hSE' hB' hw
  obtain ⟨o, h0, hm⟩ := h
  have quiet : (tb k).isTurn = false → ∀ v, (tb k = .quiet ∨ tb k = .pure) → (YQ c E X ops o v a ∧ (tb k = .pure → YP c X S ops o v a)) → Jfq c X S ops tb T l E (a.put o.dst v) →
    Yi c X S ops md tb m (fun E' listed' a' => Region.seqB md ops g m listed' = true ∧ T E' a') (l.length + 1) listed E a := fun hnt v hai hy hw => by
   rw [hnt] at hr
   simp only [Bool.and_eq_true] at hr
   exact Jfp h0 hai (Region.noSelect_spec hsel) (hbd k hkm) hdep (hlt k hkm) (fun E' listed' a' hL => hseq _ hL.1) l.length listed E a inv (Region.free_spec h0 hr.1.2) hSE hr' hy (next _ _ hSE hw)
  cases ha : tb k with
  | quiet => rw [ha] at hm; obtain ⟨v, hy, hw⟩ := hm; exact quiet nN v (.inl ha) ⟨hy, fun e => by rw [ha] at e; cases e⟩ hw
  | pure => rw [ha] at hm; obtain ⟨v, hy, hw⟩ := hm; exact quiet nN v (.inr ha) ⟨hy.quiet hSE, fun _ => hy⟩ hw
  | grow e =>
   rw [ha] at hm hr
   simp only [Kb.isTurn, Kb.isGrow, Bool.not_true, Bool.false_or, Bool.and_eq_true] at hr
   rcases hm with ⟨h1, h2⟩ | ⟨h1, h2⟩
   ·exact kL
   ·exact gS
  | dep ts e =>
   rw [ha] at hm hr
   simp only [Kb.isTurn, Kb.isGrow, Bool.not_true, Bool.false_or, Bool.and_eq_true] at hr
   rcases hm with ⟨h1, h2⟩ | ⟨h1, h2⟩
   ·exact kL
   ·exact gS
  | turn =>
   rw [ha] at hm hr
   simp only [Kb.isTurn, decide_eq_true_eq] at hr
   refine ⟨fun e => (by rw [e] at hr'; cases hr'), fun i hi => ?_⟩
   rw [hr] at hi
   have hik : i = k := by simpa using hi
   subst hik
   refine ⟨hkm, o, h0, ?_⟩
   rw [ha]
   rcases hm with ⟨α, V, G, h1, h2⟩ | ⟨h1, h2⟩
   ·exact .inl ⟨α, V, G, h1, fun x => ⟨(h2 x).1, next _ _ (h2 x).1 (h2 x).2⟩⟩
   ·exact .inr ⟨h1, next _ _ hSE h2⟩
def Jfr : List (Nat × Kb) → jS
 | [], _ => .quiet
 | (j, p) :: r, k => match Nat.beq k j with | true => p | false => Jfr r k
def Jhm (md : Region.Mode) (ops : Array Oper) (tb : jS) (m : Nat) : Bool :=
 (List.range m).all fun j => if (tb j).isTurn then (List.range m).all fun i => !(tb i).isQuiet || onB md ops j i || onB md ops i j else true
theorem xV (h : Jhm md ops tb m = true) (hi : i < m) : Jfo md ops tb m i := fun hq j hj he listed hir hjr => by
 have h1 := List.all_eq_true.1 h j (List.mem_range.2 hj)
 rw [he] at h1
 simp only [Kb.isTurn, if_true] at h1
 have h2 := List.all_eq_true.1 h1 i (List.mem_range.2 hi)
 rw [hq] at h2
 simp only [Kb.isQuiet, Bool.not_true, Bool.false_or, Bool.or_eq_true] at h2
 rcases h2 with h2 | h2
 ·exact xJ h2 hjr hir
 ·exact xJ h2 hir hjr
end
section
variable {c : Cx} {l : Ko} {L E : Jj} {X : XP} {Q : Exit → Act → World → Prop} {d : List Deferred}
variable {ops : Array Oper} {rest : List Nat} {i k : Nat} {v : Value} {o : Oper} {tb : jS} {S : Jj} {T : Jj → Act → Prop}
def HB (c : Cx) (d : List Deferred) (l : Ko) (E : Jj) (X : XP) (S : Jj) (ops : Array Oper) (tb : jS) (rest : List Nat) (T : Jj → Act → Prop) : Prop :=
 ∀ a, Fr c.n d l a → Jfq c X S ops tb T rest E a
def Jyn (ops : Array Oper) (tb : jS) (m : Nat) : Bool :=
 (List.range m).all fun j => match tb j with
  | .dep ts _ => match ops[j]? with
   | some o => ts.all fun t => (o.looksAt ops).contains t
   | none => true
  | _ => true
theorem Jj5 (h : Jyn ops tb m = true) : Jj3 ops tb m := fun j hj o ho ts e ht t hm => by
 have h1 := List.all_eq_true.1 h j (List.mem_range.2 hj)
 rw [ht] at h1
 simp only [ho] at h1
 simpa using List.all_eq_true.1 h1 t hm
def Jm3 (ops : List Oper) (tb : jS) (m : Nat) (order : List Nat) : Bool :=
 (ops.all fun o => Kx o.op) && Region.noSelect ops.toArray && Nat.ble m ops.length && Nat.beq order.length m &&
 (Nat.beq m ops.length || (Region.sinkB .any ops.toArray m && Region.chainB .any ops.toArray m)) && Jhm .any ops.toArray tb m && Jyn ops.toArray tb m &&
 Jm2 .any ops.toArray tb m (ops.length - m) order (Array.replicate ops.length false)
theorem JJ {ops : List Oper} (S : Jj) (tab : List (Nat × Kb)) (m : Nat) (order : List Nat) (hm : c.P.follows .mixedOrders = true) (hB : Jm3 ops (Jfr tab) m order = true) (hSL : SubS S L)
  (h : HB c d l L X S ops.toArray (Jfr tab) order (fun E a' => ∀ w, St c E X w → wpListIn (FW c.ro) 0 c.P ops.toArray Q (ops.drop m) a' w)) : HC c d l L X (.region id ops.toArray true) Q := fun a w hf hs => by
 simp only [Jm3, Bool.and_eq_true, Bool.or_eq_true] at hB
 obtain ⟨⟨⟨⟨⟨⟨⟨h1, hsel⟩, hle⟩, hol⟩, hsc⟩, hcr⟩, hdp⟩, hlex⟩ := hB
 have hle' := Nat.le_of_ble_eq_true hle
 have hol' := Nat.eq_of_beq_eq_true hol
 have hnd : ∀ (j : Nat) (o : Oper), ops.toArray[j]? = some o → Kx o.op = true := fun j o ho => List.all_eq_true.1 h1 o (List.mem_of_getElem? MQ)
 have hdl : (ops.drop m).length = ops.length - m := by simp
 have hlt : ∀ i, i < m → ∀ listed, HeadInv .any ops.toArray m listed → listed.getD i true = false → ∀ j ∈ Region.ready .any ops.toArray listed, j < m := by
  intro i hi listed inv hun j hj
  rcases Nat.lt_or_ge j m with hjm | hjm
  exact hjm
  have hjs : j < ops.length := by obtain ⟨_, oj, hoj, _⟩ := mem_ready.1 hj; simpa using (Array.getElem?_eq_some_iff.1 hoj).1
  rcases hsc with h0 | ⟨h2, h3⟩
  exact DQ
  exact Ha
 have inv0 : HeadInv .any ops.toArray m (Array.replicate ops.length false) :=
  ⟨by simp, fun j oj _ hl => Mc, fun t _ ht => getD_in MR (getD_replicate_false _ _)⟩
 have H := Jcn (c := c) (X := X) (md := .any) (g := ops.length - m) hsel (fun E E' a hp hT w hs => hT w (hs.perm hp.symm)) (fun i hi => xV hcr hi) (Jj5 hdp) hlt (fun listed hq => seqB_ready hq) order _ L a inv0 hSL hlex (h a hf)
 refine wpIn_region_any hm ?_
 have := Jhl (Q' := Q) (g := ops.length - m) hnd (fun E' listed a' w' _ hw' hL => by
  have := Xk (ro := c.ro) (P := c.P) (md := .any) (Q' := Q) (ops.drop m) m listed a' w' (fun j => by simp [List.getElem?_drop]) MV (hL.2 w' hw')
  rwa [hdl] at this) _ _ _ _ _ hSL ME H
 rw [hol', show m + (ops.length - m) = ops.toArray.size from by simp; omega] at this
 simpa using this
theorem Kk (h : HL c d l E X ops tail Q) : HB c d l E X S ops tb [] (fun E' a' => ∀ w, St c E' X w → wpListIn (FW c.ro) 0 c.P ops Q tail a' w) :=
 fun a hf w hs => h a w hf hs
theorem KG (hk : W1 ops.toList k = some o) (hg : Kp l ops o = some true) (hd : o.dst = some i) (hi : Nat.ble (i + 1) c.n = true) (hA : tb k = .quiet) (hr : J9 c d l E X o v) (h : HB c d ((i, v) :: l) E X S ops tb rest T) : HB c d l E X S ops tb (k :: rest) T := fun a hf => by
 refine ⟨o, QO hk, ?_⟩
 rw [hA]
 refine ⟨v, .inl ⟨JD hf hg, fun w hs => YH (hr a w hf hs) ⟨rfl, Keep.refl _ _⟩⟩, ?_⟩
 rw [hd]; exact h _ (hf.put (Nat.le_of_ble_eq_true hi))
theorem Ji (hk : W1 ops.toList k = some o) (hg : Kp l ops o = some true) (hd : o.dst = some i) (hi : Nat.ble (i + 1) c.n = true) (hA : tb k = .pure) (hr : ∀ E', SubS S E' → J9 c d l E' X o v) (h : HB c d ((i, v) :: l) E X S ops tb rest T) : HB c d l E X S ops tb (k :: rest) T := fun a hf => by
 refine ⟨o, QO hk, ?_⟩
 rw [hA]
 refine ⟨v, .inl ⟨JD hf hg, fun E' hE' w hs => YH (hr E' hE' a w hf hs) ⟨rfl, Keep.refl _ _⟩⟩, ?_⟩
 rw [hd]; exact h _ (hf.put (Nat.le_of_ble_eq_true hi))
theorem vR (hk : W1 ops.toList k = some o) (hg : Kp l ops o = some false) (hd : o.dst = some i) (hi : Nat.ble (i + 1) c.n = true) (h : HB c d ((i, undef) :: l) E X S ops tb rest T) : HB c d l E X S ops tb (k :: rest) T := fun a hf => by
 refine ⟨o, QO hk, ?_⟩
 have hw := JD hf hg
 have hn : Jfq c X S ops tb T rest E (a.put o.dst undef) := by rw [hd]; exact h _ (hf.put (Nat.le_of_ble_eq_true hi))
 cases tb k with
 | quiet => exact ⟨undef, .inr ⟨hw, rfl⟩, hn⟩
 | pure => exact ⟨undef, .inr ⟨hw, rfl⟩, hn⟩
 | grow e => exact .inr ⟨hw, hn⟩
 | turn => exact .inr ⟨hw, hn⟩
 | dep ts e => exact .inr ⟨hw, hn⟩
theorem Jsc (t : Nat) (ht : Vu l t = some (.bool b)) (h1 : b = true → HB c d ((t, .bool true) :: l) E X S ops tb rest T) (h0 : b = false → HB c d ((t, .bool false) :: l) E X S ops tb rest T) : HB c d l E X S ops tb rest T := fun a hf => by
 cases hb : b with
 | true => exact h1 hb a (vG hf ht hb.symm)
 | false => exact h0 hb a (vG hf ht hb.symm)
theorem VL (e : v = v') (h : HB c d ((i, v') :: l) E X S ops tb rest T) : HB c d ((i, v) :: l) E X S ops tb rest T := e ▸ h
theorem Ws
  (hk : W1 ops.toList k = some ⟨some i, .call ⟨.value f, args, at_⟩, ty, ps, af, gd⟩) (hg : Kp l ops ⟨some i, .call ⟨.value f, args, at_⟩, ty, ps, af, gd⟩ = some true) (hi : Nat.ble (i + 1) c.n = true) (hA : tb k = .pure) (hca : KD l f args = some (g, vs)) (eg : Enters c.P g)
  (hp : Pure c.P g vs.toArray v) (h : HB c d ((i, v) :: l) E X S ops tb rest T) : HB c d l E X S ops tb (k :: rest) T := fun a hf => by
 refine ⟨_, QO hk, ?_⟩
 rw [hA]
 exact ⟨v, .inl ⟨JD hf hg, fun _ _ w _ => X5 hf hca eg ((hp.run w).mono fun _ _ ⟨he, hk⟩ => ⟨v, he, rfl, hk⟩)⟩, h _ (hf.put (Nat.le_of_ble_eq_true hi))⟩
theorem KR
  (hk : W1 ops.toList k = some ⟨some i, .call ⟨.value f, args, at_⟩, ty, ps, af, gd⟩) (hg : Kp l ops ⟨some i, .call ⟨.value f, args, at_⟩, ty, ps, af, gd⟩ = some true) (hi : Nat.ble (i + 1) c.n = true) (hA : tb k = .quiet) (hca : KD l f args = some (g, vs)) (eg : Enters c.P g)
  (hp : PureR c.P g vs.toArray v Rl) (hR : ∀ p ∈ Rl, known c E p.1 p.2) (h : HB c d ((i, v) :: l) E X S ops tb rest T) : HB c d l E X S ops tb (k :: rest) T := fun a hf => by
 refine ⟨_, QO hk, ?_⟩
 rw [hA]
 exact ⟨v, .inl ⟨JD hf hg, fun w hs => X5 hf hca eg ((hp.run w fun p hp => hs.known (hR p hp)).mono fun _ _ ⟨he, hk⟩ => ⟨v, he, rfl, hk⟩)⟩, h _ (hf.put (Nat.le_of_ble_eq_true hi))⟩
def V1 (V : Nat → Value) (ob : Obj) : GE := ⟨Nat, V, fun r => [(r, ob)], 0⟩
def Qh {α : Type} (x0 : α) (V : α → Value) (LL : α → Jj) : GE := ⟨α, V, LL, x0⟩
theorem xW {e : GE} (hk : W1 ops.toList k = some o) (hg : Kp l ops o = some true) (hd : o.dst = some i) (hi : Nat.ble (i + 1) c.n = true) (hA : tb k = .grow e) (hr : ∀ E', SubS S E' → ∀ a w, Fr c.n d l a → St c E' X w → actAt c o a w fun u w' => ∃ x, u = e.V x ∧ Jm1 (e.LL x) w w')
  (h : ∀ x, HB c d ((i, e.V x) :: l) (e.LL x ++ E) X S ops tb rest T) : HB c d l E X S ops tb (k :: rest) T := fun a hf => by
 refine ⟨o, QO hk, ?_⟩
 rw [hA]
 refine .inl ⟨⟨JD hf hg, fun E' hE' w hs => hr E' hE' a w hf hs⟩, fun x => ?_⟩
 rw [hd]; exact h x _ (hf.put (Nat.le_of_ble_eq_true hi))
def YL (l : Ko) : List Nat → Option (List Value)
 | [] => some []
 | t :: ts => match Vu l t, YL l ts with
  | some v, some r => some (v :: r)
  | _, _ => none
theorem jT {n : Nat} {a : Act} (hf : Fr n d l a) : ∀ {ts : List Nat} {vs : List Value}, YL l ts = some vs → XA a ts = vs
 | [], vs, h => by cases h; rfl
 | t :: ts, vs, h => by
  unfold YL at h
  cases h1 : Vu l t with
  | none => rw [h1] at h; cases h
  | some v =>
   cases h2 : YL l ts with
   | none => rw [h1, h2] at h; cases h
   | some r =>
    rw [h1, h2] at h
    cases h
    show a.eval (.tmp t) :: XA a ts = v :: r
    rw [jT hf h2, hf.eval (x := .tmp t) (v := v) h1]
theorem Jwh {e : List Value → GE} {e0 : GE} (hk : W1 ops.toList k = some o) (hg : Kp l ops o = some true) (hd : o.dst = some i) (hi : Nat.ble (i + 1) c.n = true) (hA : tb k = .dep ts e) (hv : YL l ts = some vs) (he : e vs = e0) (hr : ∀ E', SubS S E' → ∀ a w, Fr c.n d l a → St c E' X w → actAt c o a w fun u w' => ∃ x, u = e0.V x ∧ Jm1 (e0.LL x) w w')
  (h : ∀ x, HB c d ((i, e0.V x) :: l) (e0.LL x ++ E) X S ops tb rest T) : HB c d l E X S ops tb (k :: rest) T := fun a hf => by
 refine ⟨o, QO hk, ?_⟩
 rw [hA]
 subst he
 show (YG c X S ops o (e (XA a ts)) a ∧ ∀ x, Jfq c X S ops tb T rest ((e (XA a ts)).LL x ++ E) (a.put o.dst ((e (XA a ts)).V x))) ∨ _
 rw [jT hf hv]
 refine .inl ⟨⟨JD hf hg, fun E' hE' w hs => hr E' hE' a w hf hs⟩, fun x => ?_⟩
 rw [hd]; exact h x _ (hf.put (Nat.le_of_ble_eq_true hi))
theorem Jm4 {V : Nat → Value} (hk : W1 ops.toList k = some o) (hg : Kp l ops o = some true) (hd : o.dst = some i) (hi : Nat.ble (i + 1) c.n = true) (hA : tb k = .grow (V1 V ob)) (hr : ∀ a w, Fr c.n d l a → (execOp a.eval o).run c.P w = .ok (.value (V w.heap.size)) (w.alloc ob))
  (h : ∀ r, HB c d ((i, V r) :: l) ((r, ob) :: E) X S ops tb rest T) : HB c d l E X S ops tb (k :: rest) T :=
 xW (e := V1 V ob) hk hg hd hi hA (fun E' _ a w hf hs => YH (hr a w hf) ⟨w.heap.size, rfl, Keep.alloc ob, fun p hp => by rw [List.mem_singleton.1 hp]; exact ⟨Nat.le_refl _, (MapKept.heap_alloc w _).1⟩, List.pairwise_singleton _ _⟩) h
theorem Jsd {e : List Value → GE} {V : Nat → Value} (hk : W1 ops.toList k = some o) (hg : Kp l ops o = some true) (hd : o.dst = some i) (hi : Nat.ble (i + 1) c.n = true) (hA : tb k = .dep ts e) (hv : YL l ts = some vs) (he : e vs = V1 V ob) (hr : ∀ a w, Fr c.n d l a → (execOp a.eval o).run c.P w = .ok (.value (V w.heap.size)) (w.alloc ob))
  (h : ∀ r, HB c d ((i, V r) :: l) ((r, ob) :: E) X S ops tb rest T) : HB c d l E X S ops tb (k :: rest) T :=
 Jwh (e0 := V1 V ob) hk hg hd hi hA hv he (fun E' _ a w hf hs => YH (hr a w hf) ⟨w.heap.size, rfl, Keep.alloc ob, fun p hp => by rw [List.mem_singleton.1 hp]; exact ⟨Nat.le_refl _, (MapKept.heap_alloc w _).1⟩, List.pairwise_singleton _ _⟩) h
theorem Vh {ev : List Value → GE} {dv : List Value} {n e : Nat} {vs : Ko} {r : List Value} (hk : W1 ops.toList k = some ⟨some i, .buildSlice t n pa.toArray, ty, ps, af, gd⟩) (hg : Kp l ops ⟨some i, .buildSlice t n pa.toArray, ty, ps, af, gd⟩ = some true) (hi : Nat.ble (i + 1) c.n = true)
  (hA : tb k = .dep ts ev) (hv : YL l ts = some dv) (he : ev dv = V1 (slV n) (.cells r.toArray e (0, 0)))
  (hp : WI l pa = some vs) (ht : Ks c.P t = some e) (hz : QL c.P e = some z) (hs : KQ c.P e = some sz) (hzs : z.cells.size = sz) (hb : Nat.ble (n * sz) 16777216 = true) (h0 : Nat.ble 1 (n * sz) = true)
  (hmk : (madeCells z.cells (n * sz)).toList = zs) (hf : Zc (fun i => some (i * sz, sz)) zs (QE vs) = some r)
  (h : ∀ q, HB c d ((i, .slice (some ⟨q, 0, none⟩) n n) :: l) ((q, .cells r.toArray e (0, 0)) :: E) X S ops tb rest T) : HB c d l E X S ops tb (k :: rest) T :=
 Jsd (V := slV n) hk hg rfl hi hA hv he (fun a w hfr => by
  have h1 := Vp hfr hp
  have h2 : (pa.toArray.map fun (p : Nat × Operand) => (p.1, a.eval p.2)) = vs.toArray := by
   apply Array.toList_inj.1; rw [Array.toList_map]; simpa using h1
  rw [Qz] at hf
  subst hmk
  have h3 := VA ht hz hs hzs (Nat.le_of_ble_eq_true hb) (Nat.le_of_ble_eq_true h0) hf w
  rw [← h2] at h3
  refine Gl ?_
  have h4 : (Instr.buildSlice t n (pa.toArray.map fun (i, x) => (i, a.eval x))).run c.P w = .ok (.slice (some ⟨w.heap.size, 0, none⟩) n n) (w.alloc (.cells r.toArray e)) := h3
  rw [h4]; rfl) h
def zx (n e : Nat) (vs : List Value) : GE := V1 (slV n) (.cells (vs.flatMap fun v => v.cells.toList).toArray e (0, 0))
theorem Wt (hk : W1 ops.toList k = some ⟨some i, .alloc t, ty, ps, af, gd⟩) (hg : Kp l ops ⟨some i, .alloc t, ty, ps, af, gd⟩ = some true) (hi : Nat.ble (i + 1) c.n = true) (hA : tb k = .grow (V1 vv (.cells cs t (0, 0)))) (hz : QL c.P t = some z) (hc : z.cells = cs)
  (h : ∀ r, HB c d ((i, .pointer (some ⟨r, 0, none⟩)) :: l) ((r, .cells cs t (0, 0)) :: E) X S ops tb rest T) : HB c d l E X S ops tb (k :: rest) T :=
 Jm4 (V := vv) hk hg rfl hi hA (fun a w hf => by simp [execOp, Instr.alloc, Sem.run_bind, Xz hz, Result.andThen, newVar, newRow, hc, vv]) h
theorem Yx
  (hk : W1 ops.toList k = some ⟨some i, .call ⟨.value f, args, at_⟩, ty, ps, af, gd⟩) (hg : Kp l ops ⟨some i, .call ⟨.value f, args, at_⟩, ty, ps, af, gd⟩ = some true) (hi : Nat.ble (i + 1) c.n = true) (hA : tb k = .grow (Qh x0 V LL)) (hca : KD l f args = some (g, vs)) (eg : Enters c.P g)
  (hp : PureE c.P g vs.toArray V LL) (h : ∀ x, HB c d ((i, V x) :: l) (LL x ++ E) X S ops tb rest T) : HB c d l E X S ops tb (k :: rest) T :=
 xW (e := Qh x0 V LL) hk hg rfl hi hA (fun E' _ a w hf hs => X5 hf hca eg ((hp.run w).mono fun _ _ ⟨x, he, hk, h1, h2⟩ => ⟨V x, he, x, rfl, hk, h1, h2⟩)) h
theorem wF (hk : W1 ops.toList k = some o) (hg : Kp l ops o = some true) (hd : o.dst = none) (hA : tb k = .turn) (hr : ∀ a w, Fr c.n d l a → St c E X w → ∃ w', (execOp a.eval o).run c.P w = .ok .skip w' ∧ St c E' X w') (hS : SubS S E')
  (h : HB c d l E' X S ops tb rest T) : HB c d l E X S ops tb (k :: rest) T := fun a hf => by
 refine ⟨o, QO hk, ?_⟩
 rw [hA]
 refine .inl ⟨Unit, fun _ => undef, fun _ => E', ⟨JD hf hg, fun w hs => ?_⟩, fun _ => ⟨hS, ?_⟩⟩
 ·obtain ⟨w', h1, h2⟩ := hr a w hf hs
  exact Jme h1 ⟨(), rfl, h2⟩
 ·rw [hd]; exact h _ hf
theorem Zn  {n : Nat} (hko : W1 ops.toList k = some ⟨none, .store t x y, ty, ps, af, gd⟩) (hg : Kp l ops ⟨none, .store t x y, ty, ps, af, gd⟩ = some true) (hA : tb k = .turn)
  (hx : Kh l x = some (.pointer (some ⟨r, 0, none⟩))) (hk : E[q]? = some (r, .cells cs e (0, 0))) (hy : Kh l y = some (.agg ys.toArray)) (ht : KQ c.P t = some n) (hn : ys.length = n) (hcz : cs.size = n) (ho : ys.all QW = true) (hL : E.set q (r, .cells ys.toArray e (0, 0)) = E') (hS : SubS S E')
  (h : HB c d l E' X S ops tb rest T) : HB c d l E X S ops tb (k :: rest) T :=
 wF hko hg rfl hA (fun a w hf hst => ⟨w.setRow r ys.toArray, by
  have hcs : (cs.toList.take 0 ++ ys.toArray.toList ++ cs.toList.drop (0 + n)).toArray = ys.toArray := by
   apply Array.toList_inj.1
   simp [← hcz]
  simp only [execOp]; rw [hf.eval hx, hf.eval hy]
  have h1 := run_storeCells_at (P := c.P) r 0 e ys.toArray.toList 0 cs w (hst.get hk) (by simp [hn]; omega) (fun u hu => by rw [XR]; exact List.all_eq_true.1 ho u (by simpa using hu))
  simp only [Nat.add_zero, Array.length_toList, List.size_toArray, hn] at h1
  rw [hcs] at h1
  simp [Instr.storeAt, Instr.sureAddr, Sem.run_bind, Result.andThen, storeVar, V8 ht, Value.cells, hn, h1], by
  subst hL
  exact hst.set hk (Keep.setRow r ys.toArray) (setRow_heap _ _ _ _ _ _ (hst.get hk))⟩) hS h
theorem WS  {cs' : Array Value} (hko : W1 ops.toList k = some ⟨none, .store t x y, ty, ps, af, gd⟩) (hg : Kp l ops ⟨none, .store t x y, ty, ps, af, gd⟩ = some true) (hA : tb k = .turn)
  (hx : Kh l x = some (.pointer (some ⟨r, off, none⟩))) (hk : E[q]? = some (r, .cells cs e (0, 0))) (hy : Kh l y = some v) (ht : KQ c.P t = some 1) (ho : QW v = true) (hc : (cs[off]?).isSome = true)
  (hcs : cs.setIfInBounds off v = cs') (hL : E.set q (r, .cells cs' e (0, 0)) = E') (hS : SubS S E')
  (h : HB c d l E' X S ops tb rest T) : HB c d l E X S ops tb (k :: rest) T :=
 wF hko hg rfl hA (fun a w hf hs => ⟨w.setCell ⟨r, off, none⟩ v, by
  simp only [execOp]; rw [hf.eval hx, hf.eval hy]
  obtain ⟨old, hold⟩ := Option.isSome_iff_exists.1 hc
  have h1 := run_store c.P w ⟨r, off, none⟩ v .plain (by rw [XR]; exact ho)
  rw [Wn (hs.get hk), hold, qy (hs.get hk) (Jwb off)] at h1
  have hcell : v.cells = #[v] := by cases v <;> first | rfl | cases ho
  simp [Instr.storeAt, Instr.sureAddr, Sem.run_bind, Result.andThen, storeVar, V8 ht, hcell, storeCells, Addr.add, h1], by
  subst hL; subst hcs
  exact hs.set hk (Keep.setCell r off v) (heap_setCell_same v (hs.get hk))⟩) hS h
end
theorem Jhn {f : Nat → Nat} (hf : ∀ i, f i < 256) (hi : i < 32) : dg (YJ f 32) i = f i := by
 have h : YJ (dg (YJ f 32)) 32 = YJ f 32 := Jvc (xN hf 32)
 have h2 : sm (dg (YJ f 32)) 32 = sm f 32 := by rw [← Jvb, h, Jvb]
 have key : ∀ n, ∀ g h : Nat → Nat, (∀ i, g i < 256) → (∀ i, h i < 256) → sm g n = sm h n → ∀ i, i < n → g i = h i := by
  intro n
  induction n with
  | zero => intro _ _ _ _ _ i hi; omega
  | succ n ih =>
   intro g h hg hh e i hi
   simp only [sm] at e
   have g1 := Jmv hg n
   have h1 := Jmv hh n
   have hp : 0 < 2 ^ (8 * n) := Nat.two_pow_pos _
   have et : g n = h n := by
    have a1 : (sm g n + g n * 2 ^ (8 * n)) / 2 ^ (8 * n) = g n := by rw [Nat.add_mul_div_right _ _ hp, Nat.div_eq_of_lt g1, Nat.zero_add]
    have a2 : (sm h n + h n * 2 ^ (8 * n)) / 2 ^ (8 * n) = h n := by rw [Nat.add_mul_div_right _ _ hp, Nat.div_eq_of_lt h1, Nat.zero_add]
    rw [← a1, ← a2, e]
   by_cases hin : i = n
   ·subst hin; exact et
   ·exact ih g h hg hh (by rw [et] at e; omega) i m0
 exact key 32 _ _ (fun i => Jmo _ _) hf h2 i hi
theorem Jse (hs : s.length = 32) : ZO (qB s) 32 = s := by
 apply List.ext_getElem?
 intro m
 by_cases hm : m < 32
 ·rw [xO _ hm]
  unfold qB
  rw [Jhn (fun _ => QC _) m0, UInt8.ofNat_toNat, List.getD_eq_getElem?_getD]
  rw [show 31 - (32 - 1 - m) = m from by omega, List.getElem?_eq_getElem m0]; rfl
 ·rw [List.getElem?_eq_none (by rw [We]; omega), List.getElem?_eq_none m0]
def leW (w : List Nat) (n : Nat) : List UInt8 := (ZO w 32).reverse.take n
theorem xX (w : List Nat) {n : Nat} (h : n ≤ 32) : (leW w n).length = n := by
 unfold leW; rw [List.length_take, List.length_reverse, We]; omega
def Wu (s : List UInt8) : List UInt8 := s ++ List.replicate (32 - s.length) 0
def Xd (s : List UInt8) : List Nat := qB (Wu s).reverse
theorem VX (h : s.length ≤ 32) : (Wu s).length = 32 := by unfold Wu; rw [List.length_append, List.length_replicate]; omega
theorem xY (s : List UInt8) : WOk (Xd s) := Jhh _
theorem Jwi (h : s.length ≤ 32) : leW (Xd s) s.length = s := by
 unfold leW Xd
 rw [Jse (by rw [List.length_reverse, VX h]), List.reverse_reverse]
 unfold Wu
 rw [List.take_left' rfl]
theorem Jm5 (h : s.length ≤ 32) {t : Nat} (h1 : s.length ≤ t) (h2 : t < 32) : dg (Xd s) t = 0 := by
 unfold Xd qB
 rw [Jhn (fun _ => QC _) h2, List.getD_eq_getElem?_getD, List.getElem?_reverse (by rw [VX h]; omega), VX h]
 unfold Wu
 rw [show 32 - 1 - (31 - t) = t by omega, List.getElem?_append_right h1, List.getElem?_replicate]
 rw [if_pos m0]; rfl
def KX (l : List Bool) (N : Nat) : Nat → List UInt8
 | 0 => List.replicate N 0
 | i + 1 => if l.getD i false = true then (KX l N i).set (i / 8) (UInt8.ofNat (((KX l N i).getD (i / 8) 0).toNat ||| 2 ^ (i % 8))) else KX l N i
theorem Vy (l : List Bool) (N : Nat) : ∀ i, (KX l N i).length = N
 | 0 => by rw [KX, List.length_replicate]
 | i + 1 => by
  rw [KX]
  split
  ·rw [List.length_set, Vy l N i]
  ·exact Vy l N i
theorem Jvf {x : Nat} (hx : x < 256) (hm : m < 8) : x ||| 2 ^ m < 256 := Nat.or_lt_two_pow (n := 8) hx (Nat.pow_lt_pow_right m7 hm)
theorem zy (l : List Bool) (N : Nat) : ∀ (i q j : Nat), i ≤ 8 * N → q < N → j < 8 → ((KX l N i).getD q 0).toNat.testBit j = (decide (8 * q + j < i) && l.getD (8 * q + j) false)
 | 0, q, j, _, hq, hj => by
  rw [KX, List.getD_eq_getElem?_getD, List.getElem?_replicate, if_pos hq]
  simp
 | i + 1, q, j, hi, hq, hj => by
  have ih := zy l N i q j m0 hq hj
  rw [KX]
  split
  ·rename_i hl
   rw [List.getD_eq_getElem?_getD, List.getElem?_set, Vy]
   by_cases hqi : i / 8 = q
   ·subst hqi
    rw [if_pos rfl, if_pos m0]
    show (UInt8.ofNat _).toNat.testBit j = _
    rw [UInt8.toNat_ofNat', Nat.mod_eq_of_lt (Jvf (QC _) (Nat.mod_lt _ m7)), Nat.testBit_or, ih, Nat.testBit_two_pow]
    by_cases hij : i % 8 = j
    ·have e : 8 * (i / 8) + j = i := by omega
     rw [e, hl, decide_eq_true hij, decide_eq_true (Nat.lt_succ_self i)]
     simp
    ·rw [decide_eq_false hij, Bool.or_false]
     congr 1
     rw [decide_eq_decide]; omega
   ·rw [if_neg hqi, ← List.getD_eq_getElem?_getD, ih]
    congr 1
    rw [decide_eq_decide]; omega
  ·rename_i hl
   rw [ih]
   by_cases hij : 8 * q + j = i
   ·rw [hij, decide_eq_false (Nat.lt_irrefl i), decide_eq_true (Nat.lt_succ_self i)]
    simp at hl ⊢; exact hl
   ·congr 1
    rw [decide_eq_decide]; omega
def VM (l : List Bool) : List UInt8 := KX l ((l.length + 7) / 8) l.length
theorem Xs (l : List Bool) : (VM l).length = (l.length + 7) / 8 := Vy _ _ _
theorem Jj6 (l : List Bool) (hq : q < (l.length + 7) / 8) (hj : j < 8) : ((VM l).getD q 0).toNat.testBit j = l.getD (8 * q + j) false := by
 unfold VM
 rw [zy l _ _ q j m0 hq hj]
 by_cases h : 8 * q + j < l.length
 ·rw [decide_eq_true h, Bool.true_and]
 ·rw [decide_eq_false h, Bool.false_and, List.getD_eq_getElem?_getD, List.getElem?_eq_none m0]; rfl
def Qg (s : List UInt8) (i : Nat) : Bool := (s.getD (i / 8) 0).toNat.testBit (i % 8)
def J4 (s : List UInt8) (n : Nat) : List Bool := (List.range n).map (Qg s)
theorem Kq (s : List UInt8) (n : Nat) : (J4 s n).length = n := by unfold J4; rw [List.length_map, List.length_range]
theorem Vj (s : List UInt8) {n : Nat} (h : i < n) : (J4 s n)[i]? = some (Qg s i) := by
 unfold J4; rw [List.getElem?_map, List.getElem?_range h]; rfl
theorem Jho {a b : UInt8} (h : ∀ j, j < 8 → a.toNat.testBit j = b.toNat.testBit j) : a = b := by
 apply UInt8.toNat_inj.1
 apply Nat.eq_of_testBit_eq
 intro j
 by_cases hj : j < 8
 ·exact h j hj
 ·rw [Nat.testBit_lt_two_pow (Nat.lt_of_lt_of_le (QC a) (Nat.pow_le_pow_right (n := 2) (i := 8) m7 m0)), Nat.testBit_lt_two_pow (Nat.lt_of_lt_of_le (QC b) (Nat.pow_le_pow_right (n := 2) (i := 8) m7 m0))]
theorem ve {n : Nat} (h : s.length = (n + 7) / 8) (hz : ∀ i, n ≤ i → i < 8 * s.length → Qg s i = false) : VM (J4 s n) = s := by
 apply List.ext_getElem?
 intro q
 by_cases hq : q < s.length
 ·have hl : q < ((J4 s n).length + 7) / 8 := by rw [Kq]; omega
  have h1 : q < (VM (J4 s n)).length := by rw [Xs]; exact hl
  rw [List.getElem?_eq_getElem h1, List.getElem?_eq_getElem hq]
  congr 1
  refine Jho fun j hj => ?_
  have e1 : (VM (J4 s n))[q] = (VM (J4 s n)).getD q 0 := by rw [List.getD_eq_getElem?_getD, List.getElem?_eq_getElem h1]; rfl
  have e2 : s[q] = s.getD q 0 := by rw [List.getD_eq_getElem?_getD, List.getElem?_eq_getElem hq]; rfl
  rw [e1, Jj6 _ hl hj, e2]
  have hb : Qg s (8 * q + j) = (s.getD q 0).toNat.testBit j := by
   unfold Qg
   rw [show (8 * q + j) / 8 = q by omega, show (8 * q + j) % 8 = j by omega]
  rw [← hb, List.getD_eq_getElem?_getD]
  by_cases hn : 8 * q + j < n
  ·rw [Vj _ hn]; rfl
  ·rw [List.getElem?_eq_none MS, hz (8 * q + j) m0 m0]; rfl
 ·rw [List.getElem?_eq_none (by rw [Xs, Kq]; omega), List.getElem?_eq_none m0]
open Go
def SOk (n : Nat) (a : List Nat) : Prop := a.length = n ∧ ∀ x ∈ a, x < 18446744073709551616
theorem SOk.get {n : Nat} {a : List Nat} (h : SOk n a) (j : Nat) : a.getD j 0 < 18446744073709551616 := by
 by_cases hj : j < a.length
 ·have : a.getD j 0 ∈ a := by simp [List.getD_eq_getElem?_getD, hj]
  exact h.2 _ this
 ·rw [List.getD_eq_getElem?_getD, List.getElem?_eq_none m0]; decide
theorem SOk.set {n : Nat} {a : List Nat} (h : SOk n a) (j : Nat) {x : Nat} (hx : x < 18446744073709551616) : SOk n (a.set j x) :=
 ⟨by rw [List.length_set, h.1], fun y hy => (List.mem_or_eq_of_mem_set hy).elim (h.2 y) fun e => e ▸ hx⟩
def Jfs (n k : Nat) : Nat := n * 2 ^ (k % 64) % 18446744073709551616 ||| n / 2 ^ (64 - k % 64)
theorem Jsf {a b : Nat} (ha : a < 18446744073709551616) (hb : b < 18446744073709551616) : a ||| b < 18446744073709551616 := Nat.or_lt_two_pow (n := 64) ha hb
theorem WT {a b : Nat} (ha : a < 18446744073709551616) (hb : b < 18446744073709551616) : a ^^^ b < 18446744073709551616 := Nat.xor_lt_two_pow (n := 64) ha hb
theorem Jcp {a b : Nat} (hb : b < 18446744073709551616) : a &&& b < 18446744073709551616 := Nat.lt_of_le_of_lt Nat.and_le_right hb
theorem vT {n : Nat} (hn : n < 18446744073709551616) (k : Nat) : Jfs n k < 18446744073709551616 :=
 Jsf (Nat.mod_lt _ m7) (Nat.lt_of_le_of_lt (Nat.div_le_self _ _) hn)
def cS (a : List Nat) : Nat → List Nat
 | 0 => [0, 0, 0, 0, 0]
 | i + 1 => (cS a i).set (i % 5) ((cS a i).getD (i % 5) 0 ^^^ a.getD i 0)
theorem Jcq {a : List Nat} (h : SOk 25 a) : ∀ i, SOk 5 (cS a i)
 | 0 => ⟨rfl, by simp [cS]⟩
 | i + 1 => (Jcq h i).set _ (WT ((Jcq h i).get _) (h.get _))
def mS (c a : List Nat) : Nat → List Nat
 | 0 => a
 | i + 1 => (mS c a i).set i ((mS c a i).getD i 0 ^^^ (c.getD ((i % 5 + 5 - 1) % 5) 0 ^^^ Jfs (c.getD ((i % 5 + 1) % 5) 0) 1))
theorem Jhp {c a : List Nat} (hc : SOk 5 c) (h : SOk 25 a) : ∀ i, SOk 25 (mS c a i)
 | 0 => h
 | i + 1 => (Jhp hc h i).set _ (WT ((Jhp hc h i).get _) (WT (hc.get _) (vT (hc.get _) 1)))
def Jj7 (a : List Nat) : List Nat := mS (cS a 25) a 25
theorem xZ {a : List Nat} (h : SOk 25 a) : SOk 25 (Jj7 a) := Jhp (Jcq h 25) h 25
def z25 : List Nat := [0, 0, 0, 0, 0, 0, 0, 0, 0, 0, 0, 0, 0, 0, 0, 0, 0, 0, 0, 0, 0, 0, 0, 0, 0]
theorem Jm6 : SOk 25 z25 := ⟨rfl, by simp [z25]⟩
def rS (a b : List Nat) : Nat → List Nat
 | 0 => z25
 | i + 1 => (rS a b i).set (i / 5 + 5 * ((2 * (i % 5) + 3 * (i / 5)) % 5)) (Jfs (a.getD i 0) (b.getD i 0))
theorem Jcr {a : List Nat} (b : List Nat) (h : SOk 25 a) : ∀ i, SOk 25 (rS a b i)
 | 0 => Jm6
 | i + 1 => (Jcr b h i).set _ (vT (h.get _) _)
def Jwj (b : List Nat) (i : Nat) : Nat := b.getD i 0 ^^^ ((18446744073709551615 ^^^ b.getD (i - i % 5 + (i % 5 + 1) % 5) 0) &&& b.getD (i - i % 5 + (i % 5 + 2) % 5) 0)
theorem Jsg {b : List Nat} (h : SOk 25 b) (i : Nat) : Jwj b i < 18446744073709551616 := WT (h.get _) (Jcp (h.get _))
def xS (b a : List Nat) : Nat → List Nat
 | 0 => a
 | i + 1 => (xS b a i).set i (Jwj b i)
theorem Jhq {b a : List Nat} (hb : SOk 25 b) (h : SOk 25 a) : ∀ i, SOk 25 (xS b a i)
 | 0 => h
 | i + 1 => (Jhq hb h i).set _ (Jsg hb _)
def Jhr (a : List Nat) (n : Nat) : List Nat := a.set 0 (a.getD 0 0 ^^^ n)
def wG (by_ a : List Nat) (n : Nat) : List Nat := Jhr (xS (rS (Jj7 a) by_ 25) (Jj7 a) 25) n
theorem Jm7 {a : List Nat} (h : SOk 25 a) {n : Nat} (hn : n < 18446744073709551616) : SOk 25 (Jhr a n) := h.set _ (WT (h.get _) hn)
theorem Jj8 {a : List Nat} (by_ : List Nat) (h : SOk 25 a) {n : Nat} (hn : n < 18446744073709551616) : SOk 25 (wG by_ a n) :=
 Jm7 (Jhq (Jcr by_ (xZ h) 25) (xZ h) 25) hn
def turnsL : List Nat := [0, 1, 62, 28, 27, 36, 44, 6, 55, 20, 3, 10, 43, 25, 39, 41, 45, 15, 21, 8, 18, 2, 61, 56, 14]
def numsL : List Nat := [0x0000000000000001, 0x0000000000008082, 0x800000000000808A, 0x8000000080008000, 0x000000000000808B, 0x0000000080000001,
 0x8000000080008081, 0x8000000000008009, 0x000000000000008A, 0x0000000000000088, 0x0000000080008009, 0x000000008000000A,
 0x000000008000808B, 0x800000000000008B, 0x8000000000008089, 0x8000000000008003, 0x8000000000008002, 0x8000000000000080,
 0x000000000000800A, 0x800000008000000A, 0x8000000080008081, 0x8000000000008080, 0x0000000080000001, 0x8000000080008008]
theorem numsL_ok : SOk 24 numsL := ⟨rfl, by decide +kernel⟩
def jU (a : List Nat) : Nat → List Nat
 | 0 => a
 | i + 1 => wG turnsL (jU a i) (numsL.getD i 0)
theorem Yy {a : List Nat} (h : SOk 25 a) : ∀ i, SOk 25 (jU a i)
 | 0 => h
 | i + 1 => Jj8 turnsL (Yy h i) (numsL_ok.get i)
def zz (a : List Nat) : List Nat := jU a 24
theorem Jcs {a : List Nat} (h : SOk 25 a) : SOk 25 (zz a) := by unfold zz; exact Yy h 24
def abS (a : List Nat) (s : List UInt8) : Nat → List Nat
 | 0 => a
 | i + 1 => (abS a s i).set (i / 8) ((abS a s i).getD (i / 8) 0 ^^^ (s.getD i 0).toNat * 2 ^ (i % 8 * 8))
theorem Jaa {a : List Nat} (s : List UInt8) (h : SOk 25 a) : ∀ i, SOk 25 (abS a s i)
 | 0 => h
 | i + 1 => (Jaa s h i).set _ (WT ((Jaa s h i).get _) (vc (QC _) m0))
def Jct (t : List UInt8) : Nat → List Nat
 | 0 => z25
 | j + 1 => zz (abS (Jct t j) (t.drop (136 * j)) 136)
theorem Jab (t : List UInt8) : ∀ j, SOk 25 (Jct t j)
 | 0 => Jm6
 | j + 1 => by unfold Jct; exact Jcs (Jaa _ (Jab t j) 136)
def vx (n : Nat) : List UInt8 := if 136 - n % 136 = 1 then [129] else 1 :: (List.replicate (134 - n % 136) 0 ++ [128])
theorem jV (n : Nat) : (vx n).length = 136 - n % 136 := by
 unfold vx; split
 ·simp; omega
 ·simp; omega
def jW (a : List Nat) : Nat → List UInt8
 | 0 => []
 | i + 1 => jW a i ++ [UInt8.ofNat (a.getD (i / 8) 0 / 2 ^ (i % 8 * 8) % 256)]
theorem WU (a : List Nat) : ∀ i, (jW a i).length = i
 | 0 => rfl
 | i + 1 => by simp [jW, WU a i]
def WZ (s : List UInt8) : List UInt8 := jW (Jct (s ++ vx s.length) ((s ++ vx s.length).length / 136)) 32
theorem ZS (s : List UInt8) : (WZ s).length = 32 := WU _ _
theorem Jft (s : List UInt8) : (s ++ vx s.length).length % 136 = 0 := by rw [List.length_append, jV]; omega
abbrev BS : Type := List UInt8
variable {last : Option BS} {kf : α → BS}
theorem YM : ∀ a : BS, Op.bytesLess a a = false
 | [] => rfl
 | x :: a => by simp [Op.bytesLess, YM a]
theorem VY : ∀ {a b c : BS}, Op.bytesLess a b = true → Op.bytesLess b c = true → Op.bytesLess a c = true
 | _, [], _, h, _ => by simp [Op.bytesLess] at h
 | _, _ :: _, [], _, h => by simp [Op.bytesLess] at h
 | [], y :: b, z :: c, _, _ => rfl
 | x :: a, y :: b, z :: c, h, h2 => by
  simp only [Op.bytesLess, Bool.or_eq_true, decide_eq_true_eq, Bool.and_eq_true, beq_iff_eq] at h h2 ⊢
  rcases h with h | ⟨rfl, h⟩
  ·rcases h2 with h2 | ⟨rfl, h2⟩
   ·exact .inl (UInt8.lt_trans h h2)
   ·exact .inl h
  ·rcases h2 with h2 | ⟨rfl, h2⟩
   ·exact .inl h2
   ·exact .inr ⟨rfl, VY h h2⟩
theorem Jac : ∀ a b : BS, a = b ∨ Op.bytesLess a b = true ∨ Op.bytesLess b a = true
 | [], [] => .inl rfl
 | [], _ :: _ => .inr (.inl rfl)
 | _ :: _, [] => .inr (.inr rfl)
 | x :: a, y :: b => by
  simp only [Op.bytesLess, Bool.or_eq_true, decide_eq_true_eq, Bool.and_eq_true, beq_iff_eq]
  by_cases h1 : x < y
  ·exact .inr (.inl (.inl h1))
  by_cases h2 : y < x
  ·exact .inr (.inr (.inl h2))
  have e : x = y := UInt8.le_antisymm (UInt8.not_lt.1 h2) (UInt8.not_lt.1 h1)
  subst e
  rcases Jac a b with rfl | h | h
  ·exact .inl rfl
  ·exact .inr (.inl (.inr ⟨rfl, h⟩))
  ·exact .inr (.inr (.inr ⟨rfl, h⟩))
theorem Jad {a b : BS} (h : Op.bytesLess a b = true) : Op.bytesLess b a = false := by
 cases h2 : Op.bytesLess b a
 ·rfl
 ·have := VY h h2; rw [YM] at this; cases this
theorem zA {a b : BS} (h : Op.bytesLess a b = true) : a ≠ b := by rintro rfl; rw [YM] at h; cases h
theorem Jm9 {a b : BS} (h : Op.bytesLess a b = false) (hn : a ≠ b) : Op.bytesLess b a = true := by
 rcases Jac a b with h1 | h1 | h1
 ·exact absurd h1 hn
 ·rw [h] at h1; cases h1
 ·exact h1
section
variable {α : Type} (kf : α → BS)
def QS : List α → Bool
 | [] => true
 | [_] => true
 | x :: y :: l => Op.bytesLess (kf x) (kf y) && QS (y :: l)
abbrev KN (l : List α) : Prop := l.Pairwise fun x y => Op.bytesLess (kf x) (kf y) = true
theorem qD : ∀ l : List α, QS kf l = true ↔ KN kf l
 | [] => by simp [QS]
 | [_] => by simp [QS]
 | x :: y :: l => by
  rw [QS, Bool.and_eq_true, qD (y :: l)]
  refine Iff.trans ?_ List.pairwise_cons.symm
  constructor
  ·rintro ⟨h1, h2⟩
   refine ⟨fun z hz => ?_, h2⟩
   rcases List.mem_cons.1 hz with rfl | hz
   ·exact h1
   ·exact VY h1 ((List.pairwise_cons.1 h2).1 z hz)
  ·rintro ⟨h1, h2⟩
   exact ⟨h1 y List.mem_cons_self, h2⟩
def VZ (k : BS) (l : List α) : Option α := l.find? fun x => kf x == k
def QH (x : α) : List α → List α
 | [] => [x]
 | y :: ys => if Op.bytesLess (kf y) (kf x) then y :: QH x ys else if kf y = kf x then x :: ys else x :: y :: ys
def qE (k : BS) (l : List α) : List α := l.filter fun y => !(kf y == k)
variable {kf}
theorem QM {k : BS} {y : α} {l : List α} : VZ kf k (y :: l) = if kf y = k then some y else VZ kf k l := by
 unfold VZ
 rw [List.find?_cons]
 by_cases h : kf y = k
 ·simp [h]
 ·rw [if_neg h, show (kf y == k) = false from by simpa using h]
theorem zB {k : BS} {y : α} {l : List α} (h : VZ kf k l = some y) : kf y = k ∧ y ∈ l := ⟨by have := List.find?_some h; simpa using this, List.mem_of_find?_eq_some h⟩
theorem Jfu {k : BS} {l : List α} (h : ∀ y ∈ l, kf y ≠ k) : VZ kf k l = none := by
 unfold VZ; rw [List.find?_eq_none]; intro x hx; simpa using h x hx
theorem zC {y : α} : ∀ {l : List α}, KN kf l → y ∈ l → VZ kf (kf y) l = some y
 | z :: l, hs, hm => by
  rw [QM]
  obtain ⟨h1, h2⟩ := List.pairwise_cons.1 hs
  rcases List.mem_cons.1 hm with rfl | hm
  ·rw [if_pos rfl]
  ·rw [if_neg (zA (h1 y hm)), zC h2 hm]
theorem vU {x y : α} : ∀ {l : List α}, y ∈ QH kf x l → y = x ∨ y ∈ l
 | [], h => by simpa [QH] using h
 | z :: l, h => by
  unfold QH at h
  split at h
  ·rcases List.mem_cons.1 h with rfl | h
   ·exact .inr List.mem_cons_self
   ·exact (vU h).elim .inl fun h => .inr (List.mem_cons_of_mem _ h)
  ·split at h
   ·rcases List.mem_cons.1 h with rfl | h
    ·exact .inl rfl
    ·exact .inr (List.mem_cons_of_mem _ h)
   ·exact List.mem_cons.1 h
theorem wH {x : α} : ∀ {l : List α}, KN kf l → KN kf (QH kf x l)
 | [], _ => by simp [QH]
 | z :: l, h => by
  obtain ⟨h1, h2⟩ := List.pairwise_cons.1 h
  unfold QH
  split
  ·rename_i hz
   refine List.pairwise_cons.2 ⟨fun y hy => ?_, wH h2⟩
   rcases vU hy with rfl | hy
   ·exact hz
   ·exact h1 y hy
  ·rename_i hz
   split
   ·rename_i he
    exact List.pairwise_cons.2 ⟨fun y hy => he ▸ h1 y hy, h2⟩
   ·rename_i he
    have hx := Jm9 (by simpa using hz) he
    refine List.pairwise_cons.2 ⟨fun y hy => ?_, h⟩
    rcases List.mem_cons.1 hy with rfl | hy
    ·exact hx
    ·exact VY hx (h1 y hy)
theorem Jcu {x : α} {k : BS} : ∀ {l : List α}, KN kf l → VZ kf k (QH kf x l) = if kf x = k then some x else VZ kf k l
 | [], _ => by unfold QH; rw [QM]
 | z :: l, h => by
  obtain ⟨h1, h2⟩ := List.pairwise_cons.1 h
  unfold QH
  split
  ·rename_i hz
   rw [QM, QM, Jcu h2]
   by_cases hk : kf z = k
   ·subst hk
    rw [if_pos rfl, if_neg (fun e => zA hz e.symm), if_pos rfl]
   ·rw [if_neg hk, if_neg hk]
  ·split
   ·rename_i he
    rw [QM, QM, he]
    split <;> rfl
   ·rw [QM]
theorem Jhs {x : α} : ∀ {l : List α}, KN kf l → (QH kf x l).length = if (VZ kf (kf x) l).isSome then l.length else l.length + 1
 | [], _ => rfl
 | z :: l, h => by
  obtain ⟨h1, h2⟩ := List.pairwise_cons.1 h
  unfold QH
  rw [QM]
  split
  ·rename_i hz
   rw [List.length_cons, Jhs h2, if_neg (zA hz)]
   split <;> rfl
  ·rename_i hz
   split
   ·rename_i he
    rfl
   ·rename_i he
    have hx := Jm9 (by simpa using hz) he
    rw [Jfu (fun y hy e => ?_)]
    ·rfl
    ·have := VY hx (h1 y hy)
     rw [e, YM] at this; cases this
theorem Jfv {k : BS} {l : List α} (h : KN kf l) : KN kf (qE kf k l) := h.filter _
theorem Jcv {k j : BS} : ∀ {l : List α}, VZ kf j (qE kf k l) = if k = j then none else VZ kf j l
 | [] => by simp [qE, VZ]
 | z :: l => by
  have ih := Jcv (k := k) (j := j) (l := l)
  unfold qE at ih ⊢
  rw [List.filter_cons, QM]
  by_cases hz : kf z = k
  ·subst hz
   rw [if_neg mf, ih]
   split
   ·rfl
   ·rfl
  ·rw [if_pos (by simpa using hz), QM, ih]
   by_cases hj : kf z = j
   ·subst hj
    rw [if_pos rfl, if_pos rfl, if_neg (fun e => hz e.symm)]
   ·rw [if_neg hj, if_neg hj]
theorem Jsh {k : BS} {l : List α} {y : α} (h : y ∈ qE kf k l) : y ∈ l := (List.mem_filter.1 h).1
theorem Jht {x : α} : ∀ {l : List α}, qE kf (kf x) (QH kf x l) = qE kf (kf x) l
 | [] => by simp [qE, QH]
 | z :: l => by
  have ih := Jht (x := x) (l := l)
  unfold qE at ih ⊢
  unfold QH
  split
  ·rw [List.filter_cons, ih, List.filter_cons]
  ·split
   ·rename_i he
    rw [List.filter_cons, List.filter_cons, he]
    simp
   ·rw [List.filter_cons]
    simp
theorem Jna {x : α} : ∀ {p q : List α}, (∀ y ∈ p, Op.bytesLess (kf y) (kf x) = true) → (∀ y ∈ q, Op.bytesLess (kf y) (kf x) = false) →
  QH kf x (p ++ q) = match q with
   | [] => p ++ [x]
   | y :: q' => if kf y = kf x then p ++ x :: q' else p ++ x :: y :: q'
 | [], [], _, _ => rfl
 | [], y :: q', _, h => by
  rw [List.nil_append, QH, h y List.mem_cons_self]
  simp
 | z :: p, q, h1, h2 => by
  rw [List.cons_append, QH, if_pos (h1 z List.mem_cons_self), Jna (p := p) (fun y hy => h1 y (List.mem_cons_of_mem _ hy)) h2]
  cases q with
  | nil => rfl
  | cons y q' => dsimp only; split <;> rfl
end
def V2 : BS := List.replicate 32 0
structure W4 : Type where
  a : Nat
  b : Nat
  c : Nat
  d : Nat
deriving DecidableEq
def W4.l (w : W4) : List Nat := [w.a, w.b, w.c, w.d]
def w40 : W4 := ⟨0, 0, 0, 0⟩
def W4.of (l : List Nat) : W4 := ⟨l.getD 0 0, l.getD 1 0, l.getD 2 0, l.getD 3 0⟩
theorem W4.of_l {l : List Nat} (h : l.length = 4) : (W4.of l).l = l := by
 match l, h with
 | [a, b, c, d], _ => rfl
theorem W4.l_inj {x y : W4} (h : x.l = y.l) : x = y := by
 cases x; cases y; simp [W4.l] at h; simp [h]
structure AcE : Type where
  addr : BS
  nonce : Nat
  bal : W4
  code : BS
  slots : List (BS × BS)
deriving DecidableEq
def ac0 : AcE := ⟨[], 0, w40, [], []⟩
def Zo (x : BS × BS) : Bool := decide (x.1.length ≠ 32) || decide (x.2.length ≠ 32)
def Xe (x : BS × BS) : Bool := decide (x.2 = V2)
def XW (a : AcE) : Int := if a.addr.length ≠ 20 ∨ a.slots.any Zo = true then 2 else if QS Prod.fst a.slots = false then 11 else if a.code.length > 512 ∨ a.slots.length > 16 then 5 else if a.slots.any Xe = true then 8 else 0
def Vk (last : Option BS) (a : AcE) : Int := if XW a ≠ 2 ∧ (∃ b, last = some b ∧ Op.bytesLess b a.addr = false) then 11 else XW a
instance (last : Option BS) (a : AcE) : Decidable (∃ b, last = some b ∧ Op.bytesLess b a.addr = false) := match last with
  | none => .isFalse (by simp)
  | some b => if h : Op.bytesLess b a.addr = false then .isTrue ⟨b, rfl, h⟩ else .isFalse (by simpa using h)
def goS : Option BS → List AcE → Int
 | _, [] => 0
 | last, a :: l => if Vk last a ≠ 0 then Vk last a else goS (some a.addr) l
def Qi (s : List AcE) : Int := if s.length > 32 then 5 else goS none s
def VN (s : List AcE) (k : BS) : Option AcE := VZ AcE.addr k s
def Jsi (s : List AcE) (a : AcE) : List AcE × Int := if Qi s ≠ 0 then (s, Qi s) else if XW a ≠ 0 then (s, XW a) else if (QH AcE.addr a s).length > 32 then (s, 5) else (QH AcE.addr a s, 0)
def Qr (a : AcE) (k : BS) : BS := match VZ Prod.fst k a.slots with
 | some x => x.2
 | none => V2
def Qm (l : List (BS × BS)) (k v : BS) : List (BS × BS) := if v = V2 then qE Prod.fst k l else QH Prod.fst (k, v) l
def wI (a : AcE) (k v : BS) : AcE × Int := if XW a ≠ 0 then (a, XW a) else if k.length ≠ 32 ∨ v.length ≠ 32 then (a, 2) else if (Qm a.slots k v).length > 16 then (a, 5) else ({ a with slots := Qm a.slots k v }, 0)
theorem Xm {a : AcE} (h : XW a = 0) : a.addr.length = 20 ∧ (∀ x ∈ a.slots, x.1.length = 32 ∧ x.2.length = 32 ∧ x.2 ≠ V2) ∧ KN Prod.fst a.slots ∧ a.code.length ≤ 512 ∧ a.slots.length ≤ 16 := by
 unfold XW at h
 split at h
 ·cases h
 rename_i h1
 split at h
 ·cases h
 rename_i h2
 split at h
 ·cases h
 rename_i h3
 split at h
 ·cases h
 rename_i h4
 simp only [not_or, Decidable.not_not] at h1 h3
 refine ⟨h1.1, fun x hx => ?_, (qD _ _).1 (by simpa using h2), by omega, by omega⟩
 have a1 := h1.2
 simp only [Bool.not_eq_true, List.any_eq_false] at a1 h4
 have := a1 x hx
 have h5 := h4 x hx
 unfold Zo at this
 unfold Xe at h5
 simp at this h5
 exact ⟨this.1, this.2, h5⟩
theorem Jsj {a : AcE} (h1 : a.addr.length = 20) (h2 : ∀ x ∈ a.slots, x.1.length = 32 ∧ x.2.length = 32 ∧ x.2 ≠ V2) (h3 : KN Prod.fst a.slots) (h4 : a.code.length ≤ 512) (h5 : a.slots.length ≤ 16) : XW a = 0 := by
 unfold XW
 have e1 : ¬ a.slots.any Zo = true := by
  simp only [Bool.not_eq_true, List.any_eq_false]
  intro x hx
  obtain ⟨a1, a2, _⟩ := h2 x hx
  simp [Zo, a1, a2]
 have e2 : ¬ a.slots.any Xe = true := by
  simp only [Bool.not_eq_true, List.any_eq_false]
  intro x hx
  obtain ⟨_, _, a3⟩ := h2 x hx
  simp [Xe, a3]
 have e3 := (qD Prod.fst a.slots).2 h3
 rw [if_neg (fun h => h.elim (fun h => h h1) e1), if_neg (by rw [e3]; simp), if_neg m0, if_neg e2]
theorem Jka (a : AcE) : Vk none a = XW a := by unfold Vk; rw [if_neg mf]
theorem Jhu {a : AcE} : Vk last a = 0 ↔ XW a = 0 ∧ ∀ b, last = some b → Op.bytesLess b a.addr = true := by
 unfold Vk
 split
 ·rename_i h
  obtain ⟨h1, b, h2, h3⟩ := h
  constructor
  ·intro h; cases h
  ·rintro ⟨_, h⟩; rw [h b h2] at h3; cases h3
 ·rename_i h
  constructor
  ·intro h0
   refine ⟨h0, fun b hb => ?_⟩
   cases h4 : Op.bytesLess b a.addr
   ·exact absurd ⟨by omega, b, hb, h4⟩ h
   ·rfl
  ·exact fun h => h.1
theorem Jvg : ∀ {last : Option BS} {s : List AcE}, goS last s = 0 ↔ (∀ a ∈ s, XW a = 0) ∧ KN AcE.addr s ∧ (∀ b, last = some b → ∀ a ∈ s, Op.bytesLess b a.addr = true)
 | last, [] => by simp [goS]
 | last, a :: l => by
  rw [goS]
  split
  ·rename_i h
   constructor
   ·intro h0; exact absurd h0 h
   ·rintro ⟨h1, h2, h3⟩
    exact absurd (Jhu.2 ⟨h1 a List.mem_cons_self, fun b hb => h3 b hb a List.mem_cons_self⟩) h
  ·rename_i h
   have h := Jhu.1 (Decidable.not_not.1 h)
   rw [Jvg]
   constructor
   ·rintro ⟨h1, h2, h3⟩
    refine ⟨fun x hx => ?_, List.pairwise_cons.2 ⟨fun x hx => h3 _ rfl x hx, h2⟩, fun b hb x hx => ?_⟩
    ·rcases List.mem_cons.1 hx with rfl | hx
     ·exact h.1
     ·exact h1 x hx
    ·rcases List.mem_cons.1 hx with rfl | hx
     ·exact h.2 b hb
     ·exact VY (h.2 b hb) (h3 _ rfl x hx)
   ·rintro ⟨h1, h2, h3⟩
    obtain ⟨h4, h5⟩ := List.pairwise_cons.1 h2
    exact ⟨fun x hx => h1 x (List.mem_cons_of_mem _ hx), h5, fun b hb x hx => by cases hb; exact h4 x hx⟩
theorem Jae {s : List AcE} : Qi s = 0 ↔ s.length ≤ 32 ∧ (∀ a ∈ s, XW a = 0) ∧ KN AcE.addr s := by
 unfold Qi
 split
 ·constructor
  ·intro h; cases h
  ·rintro ⟨h, _⟩; omega
 ·rw [Jvg]
  constructor
  ·rintro ⟨h1, h2, _⟩; exact ⟨by omega, h1, h2⟩
  ·rintro ⟨_, h1, h2⟩; exact ⟨h1, h2, by simp⟩
structure PureT {α : Type} (P : Program) (f : FuncId) (args : Array Value) (V : α → Value) (T : Jj) (LL : α → Jj) (Rl : Jj) : Prop where
  run : ∀ w, vI T w → vI Rl w → (T.Pairwise fun p q => p.1 ≠ q.1) → (∀ p ∈ Rl, ∀ q ∈ T, p.1 ≠ q.1) → Calls P f args w fun e w' => ∃ x, e = .returned (V x) ∧ Keep (T.map (·.1)) w w' ∧ (∀ p ∈ LL x, (p.1 ∈ T.map (·.1) ∨ w.heap.size ≤ p.1) ∧ w'.heap[p.1]? = some p.2) ∧ (LL x).Pairwise fun p q => p.1 ≠ q.1
def cxT (P : Program) (w : World) (T Rl : Jj) (n : Nat) : Cx := ⟨P, none, w, T.map (·.1), [], Rl, n⟩
theorem St.startT {n : Nat} {T : Jj} (hT : vI T w) (hR : vI Rl w) (hd : T.Pairwise fun p q => p.1 ≠ q.1) (hne : ∀ p ∈ Rl, ∀ q ∈ T, p.1 ≠ q.1) : St (cxT P w T Rl n) T (fun _ _ => True) w :=
 ⟨Keep.refl _ _, fun p hp => ⟨.inl (List.mem_map.2 ⟨p, hp, rfl⟩), by simp [cxT], hT p hp⟩, hd, fun p hp => ⟨fun h => by obtain ⟨q, hq, e⟩ := List.mem_map.1 h; exact hne p hp q hq e.symm, by simp [cxT], hR p hp⟩, by simp [cxT], ⟨[], by simp, fun _ _ => trivial⟩⟩
theorem J2 {f : FuncId} {T : Jj} (hf : P.funcs[f]? = some fn) (hb : fn.body = some code) (hlen : Nat.ble vs.length fn.ntmps = true)
  (h : ∀ w, HC (cxT P w T Rl fn.ntmps) [] (Vo 0 vs) T (fun _ _ => True) code (bodyPostM (FW none) 0 P fn (fun e w' => ∃ x, e = .returned (V x) ∧ St (cxT P w T Rl fn.ntmps) (LL x) (fun _ _ => True) w'))) : PureT P f vs.toArray V T LL Rl := ⟨fun w hT hR hd hne =>
 (QI (cxT P w T Rl fn.ntmps) hf hb rfl rfl rfl hlen (St.startT hT hR hd hne) (h w)).mono fun _ _ ⟨x, he, hs⟩ => ⟨x, he, by have := hs.keep; simpa [cxT] using this, fun p hp => ⟨(hs.own p hp).1, (hs.own p hp).2.2⟩, hs.distinct⟩⟩
section
variable {c : Cx} {l : Ko} {L : Jj} {X : XP} {Q : Exit → Act → World → Prop} {d : List Deferred}
variable {ops : Array Oper} {rest : List Oper} {i : Nat} {v : Value} {t : TypeId} {ps : String} {af : Array Edge} {gd : Option (Nat × Bool)} {ty t2 : TypeId}
theorem St.turnT {T LL : Jj} (hs : St c (T ++ L0) X w) (hk : Keep (T.map (·.1)) w w') (hL : ∀ p ∈ LL, (p.1 ∈ T.map (·.1) ∨ w.heap.size ≤ p.1) ∧ w'.heap[p.1]? = some p.2) (hd : LL.Pairwise fun p q => p.1 ≠ q.1) : St c (LL ++ L0) X w' := by
 have hT : ∀ p ∈ T, p ∈ T ++ L0 := fun p hp => List.mem_append_left _ hp
 have hle := hs.keep.size
 obtain ⟨hd1, hd2, hd3⟩ := List.pairwise_append.1 hs.distinct
 have hin : ∀ k ∈ T.map (·.1), ∃ p ∈ T, p.1 = k := fun k hk => by obtain ⟨p, hp, e⟩ := List.mem_map.1 hk; exact ⟨p, hp, e⟩
 refine ⟨hs.keep.glue hk ?_, fun p hp => ?_, ?_, hs.ext, hs.xlt, ?_⟩
 ·intro k hk
  obtain ⟨p, hp, rfl⟩ := hin k hk
  exact (hs.own p (hT p hp)).1.imp (fun h => List.mem_append_left _ h) id
 ·rcases List.mem_append.1 hp with hp | hp
  ·obtain ⟨h1, h2⟩ := hL p hp
   rcases h1 with h1 | h1
   ·obtain ⟨q, hq, e⟩ := hin _ h1
    obtain ⟨g1, g2, _⟩ := hs.own q (hT q hq)
    rw [e] at g1 g2
    exact ⟨g1, g2, h2⟩
   ·exact ⟨.inr m0, fun hx => (by have := hs.xlt _ hx; omega), h2⟩
  ·obtain ⟨g1, g2, g3⟩ := hs.own p (List.mem_append_right _ hp)
   refine ⟨g1, g2, ?_⟩
   rw [hk.block _ (Jx g3) (fun h => by obtain ⟨q, hq, e⟩ := hin _ h; exact hd3 q hq p hp e)]
   exact g3
 ·refine List.pairwise_append.2 ⟨hd, hd2, fun p hp q hq => ?_⟩
  rcases (hL p hp).1 with h1 | h1
  ·obtain ⟨u, hu, e⟩ := hin _ h1
   rw [← e]; exact hd3 u hu q hq
  ·have := Jx (hs.own q (List.mem_append_right _ hq)).2.2
   omega
 ·obtain ⟨xs, e1, e2⟩ := hs.x
  refine ⟨xs, fun k hkx => ?_, fun w2 hw2 => e2 w2 fun k hkx => (hw2 k hkx).trans (hk.block k (e1 k hkx).2.1 (fun h => by obtain ⟨q, hq, e⟩ := hin _ h; exact (e1 k hkx).2.2 q (hT q hq) e))⟩
  obtain ⟨a1, a2, a3⟩ := e1 k hkx
  refine ⟨a1, Nat.lt_of_lt_of_le a2 hk.size, fun p hp => ?_⟩
  rcases List.mem_append.1 hp with hp | hp
  ·rcases (hL p hp).1 with h1 | h1
   ·obtain ⟨u, hu, e⟩ := hin _ h1
    rw [← e]; exact a3 u (hT u hu)
   ·omega
  ·exact a3 p (List.mem_append_right _ hp)
theorem Vv  {T : Jj}
  (hp : L.Perm (T ++ L0)) (hg : Kp l ops ⟨some i, .call ⟨.value f, args, at_⟩, ty, ps, af, gd⟩ = some true) (hi : Nat.ble (i + 1) c.n = true) (hca : KD l f args = some (g, vs)) (eg : Enters c.P g)
  (hpt : PureT c.P g vs.toArray V T LL Rl) (hR : ∀ p ∈ Rl, known c L0 p.1 p.2) (h : ∀ x, HL c d ((i, V x) :: l) (LL x ++ L0) X ops rest Q) : HL c d l L X ops (⟨some i, .call ⟨.value f, args, at_⟩, ty, ps, af, gd⟩ :: rest) Q :=
 Yq (V := V) (L' := fun x => LL x ++ L0) (X' := fun _ => X) hg hi hca eg (fun w hs => by
  have hs := hs.perm hp
  obtain ⟨hd1, _, hd3⟩ := List.pairwise_append.1 hs.distinct
  refine (hpt.run w (fun p hp => (hs.own p (List.mem_append_left _ hp)).2.2) (fun p hp => ?_) hd1 (fun p hp q hq => ?_)).mono fun _ _ ⟨x, he, hk, h1, h2⟩ => ⟨x, he, hs.turnT hk h1 h2⟩
  ·exact (hR p hp).elim (fun h => (hs.own _ (List.mem_append_right _ h)).2.2) hs.readR
  ·rcases hR p hp with h | h
   ·exact fun e => hd3 q hq _ h e.symm
   ·rintro e
    obtain ⟨h1, _, h3⟩ := hs.ext _ h
    have h3 := Jx h3
    rcases (hs.own q (List.mem_append_left _ hq)).1 with h4 | h4
    ·exact h1 (e ▸ h4)
    ·simp only at h3 e; omega) h
theorem JW
  (hg : Kp l ops ⟨some i, .call ⟨.value f, args, at_⟩, ty, ps, af, gd⟩ = some true) (hi : Nat.ble (i + 1) c.n = true) (hca : KD l f args = some (g, vs)) (eg : Enters c.P g)
  (hpt : PureT c.P g vs.toArray V [] LL Rl) (hR : ∀ p ∈ Rl, known c L p.1 p.2) (h : ∀ x, HL c d ((i, V x) :: l) (LL x ++ L) X ops rest Q) : HL c d l L X ops (⟨some i, .call ⟨.value f, args, at_⟩, ty, ps, af, gd⟩ :: rest) Q :=
 Vv (T := []) (L0 := L) (List.Perm.refl _) hg hi hca eg hpt hR h
theorem PureR.toT {f : FuncId} {args : Array Value} (h : PureR P f args v Rl) : PureT (α := Unit) P f args (fun _ => v) [] (fun _ => []) Rl :=
 ⟨fun w _ hR _ _ => (h.run w hR).mono fun _ _ ⟨he, hk⟩ => ⟨(), he, hk, by simp, List.Pairwise.nil⟩⟩
theorem PureT.map {β : Type} {f : FuncId} {args : Array Value} {V' : β → Value} {T : Jj} {LL' : β → Jj} (h : PureT P f args V T LL Rl) (g : α → β) (hv : ∀ x, V x = V' (g x)) (hl : ∀ x, (LL' (g x)).Sublist (LL x)) : PureT P f args V' T LL' Rl :=
 ⟨fun w hT hR hd hne => (h.run w hT hR hd hne).mono fun _ _ ⟨x, he, hk, h1, h2⟩ => ⟨g x, he.trans (by rw [hv]), hk, fun p hp => h1 p ((hl x).subset hp), h2.sublist (hl x)⟩⟩
theorem Jcw (w : World) (dT sT ty e : TypeId) (inf : TypeInfo) (hu : P.underlying dT = some (.slice e)) (hi : P.info? e = some inf) {dl dc sl sc n : Nat}
  (hn : Nat.min sl dl = n) (hb : w.heap[r]? = some (.cells cs e1 (0, 0))) (hl : vs.length = n * inf.size) (hsrc : ∀ j v, vs[j]? = some v → w.cell? ((⟨r2, off2, none⟩ : Addr).add j) = some v) (hfit : off + n * inf.size ≤ cs.size) (h1 : ∀ v ∈ vs, v.oneCell' = true) :
  (Builtin.copy_ #[dT, sT] ty #[.slice (some ⟨r, off, none⟩) dl dc, .slice (some ⟨r2, off2, none⟩) sl sc]).run P w = .ok (.int .i64 n) (w.setRow r (cs.toList.take off ++ vs ++ cs.toList.drop (off + n * inf.size)).toArray) := by
 have hl1 := run_loadCells_list (P := P) w ⟨r2, off2, none⟩ vs hsrc
 rw [hl] at hl1
 have hst := run_storeCells_at (P := P) r off e1 vs 0 cs w hb (by rw [Nat.add_zero, hl]; exact hfit) h1
 rw [Nat.add_zero, hl] at hst
 have hn' : min sl dl = n := hn
 simp [Builtin.copy_, run_underlying hu, Builtin.lenOf, Builtin.firstCells, sizeOf, typeInfo, hi, hn', hl1, hst, Result.andThen, goInt]
theorem XX  {e k dl dc sl sc n : Nat} {cs' : List Value}
  (hg : Kp l ops ⟨some i, .call ⟨.builtin .copy, #[x, y], #[t, t2]⟩, ty, ps, af, gd⟩ = some true) (hi : Nat.ble (i + 1) c.n = true)
  (hx : Kh l x = some (.slice (some ⟨r, off, none⟩) dl dc)) (hy : Kh l y = some (.slice (some ⟨r2, off2, none⟩) sl sc)) (hk : L[k]? = some (r, .cells cs e1 (0, 0))) (hk2 : known c L r2 (.cells cs2 e2 fr2))
  (ht : Ks c.P t = some e) (hs : KQ c.P e = some sz) (hn : Nat.min sl dl = n) (hvs : (cs2.toList.drop off2).take (n * sz) = vs) (hl : vs.length = n * sz) (hone : vs.all QW = true) (hfit : off + n * sz ≤ cs.size)
  (hcs : cs.toList.take off ++ vs ++ cs.toList.drop (off + n * sz) = cs') (hL : L.set k (r, .cells cs'.toArray e1 (0, 0)) = L')
  (h : HL c d ((i, .int .i64 n) :: l) L' X ops rest Q) : HL c d l L X ops (⟨some i, .call ⟨.builtin .copy, #[x, y], #[t, t2]⟩, ty, ps, af, gd⟩ :: rest) Q := by
 obtain ⟨inf, hinf, hs'⟩ : ∃ inf, c.P.info? e = some inf ∧ inf.size = sz := by
  unfold KQ at hs
  cases hq : c.P.info? e with
  | none => simp [hq] at hs
  | some inf => simp only [hq, Option.some.injEq] at hs; exact ⟨inf, rfl, hs⟩
 subst hs'
 refine Jl2 (v := .int .i64 n) (L' := L') hg rfl rfl hi (fun a w hf hst => ⟨w.setRow r cs'.toArray, ?_, ?_⟩) h
 ·have hr := Jcw (P := c.P) w t t2 ty e inf (Ki ht) hinf (dc := dc) (sc := sc) hn (hst.get hk) hl (X0 (hst.known hk2) hvs) hfit (fun u hu => by rw [XR]; exact List.all_eq_true.1 hone u hu)
  rw [hcs] at hr
  have ex := hf.eval hx
  have ey := hf.eval hy
  simp [execOp, resolve, Sem.run_bind, ex, ey, Result.andThen, invoke, builtin, hr]
 ·subst hL
  exact hst.set hk (Keep.setRow r cs'.toArray) (setRow_heap _ _ _ _ _ _ (hst.get hk))
theorem Jfw (z : Array Value) (n : Nat) : (Builtin.zeroCells z n).toList = (List.range (n * z.size)).map (fun i => z.toList.getD (i % z.size) default) := by
 unfold Builtin.zeroCells
 simp
 intro a _
 rw [getElem!_def]
 cases z[a % z.size]? <;> rfl
theorem Jsk (hg : Kp l ops o = some true) (hn : Kx o.op = true) (hd : o.dst = none)
  (hr : ∀ a w, Fr c.n d l a → St c L X w → ∃ w', (execOp a.eval o).run c.P w = .ok (.value v) w' ∧ St c L' X w') (h : HL c d l L' X ops rest Q) : HL c d l L X ops (o :: rest) Q := fun a w hf hs => by
 obtain ⟨w', h1, h2⟩ := hr a w hf hs
 refine QT (JD hf hg) hn ?_
 rw [h1, Oper.uponIn_value, hd]
 exact h a w' hf h2
theorem Jkb  {e k n : Nat} {cs' : List Value}
  (hg : Kp l ops ⟨none, .call ⟨.builtin .clear, #[x], #[t]⟩, ty, ps, af, gd⟩ = some true)
  (hx : Kh l x = some (.slice (some ⟨r, off, none⟩) n cap)) (hk : L[k]? = some (r, .cells cs e1 (0, 0))) (ht : Ks c.P t = some e) (hz : QL c.P e = some z) (hs : z.cells.size = sz) (hone : z.cells.toList.all QW = true) (hsz : 0 < sz) (hfit : off + n * sz ≤ cs.size)
  (hcs : cs.toList.take off ++ (Builtin.zeroCells z.cells n).toList ++ cs.toList.drop (off + n * sz) = cs') (hL : L.set k (r, .cells cs'.toArray e1 (0, 0)) = L')
  (h : HL c d l L' X ops rest Q) : HL c d l L X ops (⟨none, .call ⟨.builtin .clear, #[x], #[t]⟩, ty, ps, af, gd⟩ :: rest) Q := by
 have hlen : (Builtin.zeroCells z.cells n).toList.length = n * sz := by rw [Array.length_toList, size_zeroCells, hs]
 have hone' : ∀ u ∈ (Builtin.zeroCells z.cells n).toList, u.oneCell' = true := fun u hu => by
  rw [Jfw] at hu
  obtain ⟨j, hj, rfl⟩ := List.mem_map.1 hu
  rw [XR]
  have hj2 : j % z.cells.size < z.cells.toList.length := by rw [Array.length_toList]; exact Nat.mod_lt _ m0
  rw [List.getD_eq_getElem?_getD, List.getElem?_eq_getElem hj2]
  exact List.all_eq_true.1 hone _ (List.getElem_mem _)
 refine Jsk (v := .tuple #[]) (L' := L') hg rfl rfl (fun a w hf hst => ?_) h
 have ex := hf.eval hx
 have hst2 := run_storeCells_at (P := c.P) r off e1 (Builtin.zeroCells z.cells n).toList 0 cs w (hst.get hk) (by rw [Nat.add_zero, hlen]; exact hfit) hone'
 rw [Nat.add_zero, hlen, hcs] at hst2
 cases n with
 | zero =>
  refine ⟨w, ?_, ?_⟩
  ·simp [execOp, resolve, Sem.run_bind, ex, Result.andThen, invoke, builtin, Builtin.clear_, Qk (Ki ht)]
  ·have : cs' = cs.toList := by
    rw [← hcs]
    have : (Builtin.zeroCells z.cells 0).toList = [] := List.length_eq_zero_iff.1 (by rw [hlen, Nat.zero_mul])
    rw [this, List.append_nil, Nat.zero_mul, Nat.add_zero, List.take_append_drop]
   rw [this] at hL
   have e2 : L.set k (r, .cells cs.toList.toArray e1 (0, 0)) = L := by
    obtain ⟨h1, h2⟩ := List.getElem?_eq_some_iff.1 hk
    rw [Array.toArray_toList, ← h2, List.set_getElem_self]
   rw [e2] at hL
   exact hL ▸ hst
 | succ n =>
  refine ⟨w.setRow r cs'.toArray, ?_, hL ▸ hst.set hk (Keep.setRow r cs'.toArray) (setRow_heap _ _ _ _ _ _ (hst.get hk))⟩
  simp [execOp, resolve, Sem.run_bind, ex, Result.andThen, invoke, builtin, Builtin.clear_, Qk (Ki ht), Xz hz, hst2]
theorem wJ  {e tn b n : Nat} {kk : IntKind} {xs : List Value} {kn : IntKind}
  (hg : Kp l ops ⟨some i, .call ⟨.builtin .append, #[x, y], #[t, tn]⟩, ty, ps, af, gd⟩ = some true) (hi : Nat.ble (i + 1) c.n = true)
  (hx : Kh l x = some (.slice (some ⟨r, off, none⟩) n cap)) (hy : Kh l y = some (.int kk (m : Int))) (hk : known c L r (.cells cs e1 fr)) (ht : Ks c.P t = some e) (htn : c.P.underlying tn = some (.int kn)) (hz : QL c.P e = some z) (hs : KQ c.P e = some sz) (hb : Jb6 c.P e = some b) (hzs : z.cells.size = sz) (hsz : 0 < sz)
  (hxs : (cs.toList.drop off).take (n * sz) = xs) (hl : xs.length = n * sz) (hm : 0 < m) (hno : cap < n + m) (hcap : n ≤ cap) (h63 : n + m ≤ 9223372036854775807) (h47 : (n + m) * b ≤ 140737488355328)
  (h : ∀ r' cap' (Z spare : List Value), Z.length = m * sz → (n + m) * sz + spare.length = cap' * sz → HL c d ((i, .slice (some ⟨r', 0, none⟩) (n + m) cap') :: l) ((r', .cells (xs ++ Z ++ spare).toArray e (0, 0)) :: L) X ops rest Q) :
  HL c d l L X ops (⟨some i, .call ⟨.builtin .append, #[x, y], #[t, tn]⟩, ty, ps, af, gd⟩ :: rest) Q := by
 obtain ⟨inf, hinf, hz', hs', hb'⟩ := vH hz hs hb
 subst hs' hb'
 refine Wo (α := { p : Nat × Nat × List Value // (n + m) * inf.size + p.2.2.length = p.2.1 * inf.size }) (V := fun p => .slice (some ⟨p.1.1, 0, none⟩) (n + m) p.1.2.1)
  (L' := fun p => (p.1.1, .cells (xs ++ (Builtin.zeroCells z.cells m).toList ++ p.1.2.2).toArray e (0, 0)) :: L) (X' := fun _ => X) hg rfl rfl hi (fun a w hf hst => ?_) (fun p => h p.1.1 p.1.2.1 _ p.1.2.2 (by rw [Array.length_toList, size_zeroCells, hzs]) p.2)
 have ex := hf.eval hx
 have ey := hf.eval hy
 have hold : (Builtin.firstCells inf.size n (.slice (some ⟨r, off, none⟩) n cap)).run c.P w.drew = .ok xs.toArray w.drew :=
  run_firstCells_some (P := c.P) w.drew inf.size n ⟨r, off, none⟩ n cap xs hl (fun j u hj => X0 (hst.drew.known hk) hxs j u hj)
 have hmb : m * inf.bytes ≤ 281474976710656 := Nat.le_trans (Nat.mul_le_mul_right _ (Nat.le_add_left m n)) m0
 have hr := Lib.run_append_grow_zeros (P := c.P) w t tn ty e inf z kk kn (Ki ht) htn hinf hz' (some ⟨r, off, none⟩) n cap xs hold m hm hsz hno m0 hmb (growslice_fits m0 h47)
 have hge := grownCap_ge w (n + m) cap e
 have e1 : (xs.toArray ++ Builtin.zeroCells z.cells m ++ Builtin.zeroCells z.cells (grownCap w (n + m) cap e - (n + m))) = (xs ++ (Builtin.zeroCells z.cells m).toList ++ (Builtin.zeroCells z.cells (grownCap w (n + m) cap e - (n + m))).toList).toArray := by
  apply Array.toList_inj.1; simp
 refine ⟨⟨(w.heap.size, grownCap w (n + m) cap e, (Builtin.zeroCells z.cells (grownCap w (n + m) cap e - (n + m))).toList), ?_⟩, w.drew.alloc (.cells (xs ++ (Builtin.zeroCells z.cells m).toList ++ (Builtin.zeroCells z.cells (grownCap w (n + m) cap e - (n + m))).toList).toArray e (0, 0)), ?_, hst.drew.alloc _⟩
 ·simp only
  rw [Array.length_toList, size_zeroCells, hzs, ← Nat.add_mul]
  congr 1; omega
 ·rw [e1] at hr
  simp [execOp, resolve, Sem.run_bind, ex, ey, Result.andThen, invoke, builtin, hr]
theorem Jfx  {e r1 o1 o2 n1 c1 n2 : Nat} {cs1 : Array Value} {tR : TypeId}
  (hf : Kh l f = some (.func (.func g) #[] #[])) (hx : Kh l x = some (.slice (some ⟨r1, o1, none⟩) n1 c1)) (hy : Kh l y = some (.slice (some ⟨r2, o2, none⟩) n2 c2)) (hne : r1 ≠ r2) (hk1 : known c L r1 (.cells cs1 e1 (0, 0))) (hk2 : known c L r2 (.cells cs2 e2 (0, 0)))
  (ht : Ks c.P t = some e) (hs : KQ c.P e = some sz) (h0 : 0 < cs2.size) (hF : c.P.funcs[g]? = some fn) (hn1 : (fn.name == "runtime.NumGoroutine") = false) (hb : fn.body.isNone = true) (hn2 : Extern.findNext fn = none) (he : Extern.find fn = some (Extern.SlicesOverlaps.overlaps #[t, t] #[tR])) :
  J9 c d l L X ⟨some i, .call ⟨.value f, #[x, y], at_⟩, ty, ps, af, gd⟩ (.bool false) := fun a w hfr hst => by
 have ef := hfr.eval hf
 have ex := hfr.eval hx
 have ey := hfr.eval hy
 have h1 := hst.known hk1
 have h2 := hst.known hk2
 have hov := Lib.run_overlaps_apart (P := c.P) w t tR e (Ki ht) sz (fun w => V8 hs w) ⟨r1, o1, none⟩ ⟨r2, o2, none⟩ n1 c1 n2 c2 hne e1 e2 cs1.size cs2.size (by simp [World.shape?, h1]) (by simp [World.shape?, h2]) m0 (by simp [World.frozen?, h1]) (by simp [World.frozen?, h1])
 have hcf : (callFunc g #[.slice (some ⟨r1, o1, none⟩) n1 c1, .slice (some ⟨r2, o2, none⟩) n2 c2]).run c.P w = .ok (.value (.bool false)) w := by
  rw [run_callFunc_extern hF hn1 hb hn2 he, hov]; rfl
 simp [execOp, resolve, Sem.run_bind, ef, ex, ey, Deferred.ofValue, Result.andThen, invoke, hcf]
end
abbrev Jw (s : BS) : Value := .string (bs s)
structure W4.ok (w : W4) : Prop where
  a : YK w.a
  b : YK w.b
  c : YK w.c
  d : YK w.d
theorem W4.ok.wok {w : W4} (h : w.ok) : WOk w.l := ⟨rfl, fun x hx => by
 unfold W4.l at hx
 simp only [List.mem_cons, List.not_mem_nil, or_false] at hx
 rcases hx with rfl | rfl | rfl | rfl
 ·exact h.a
 ·exact h.b
 ·exact h.c
 ·exact h.d⟩
theorem W3 : YK 0 := by unfold YK; decide
theorem Jwk : w40.ok := ⟨W3, W3, W3, W3⟩
structure Rec : Type where
  number : Nat
  time : Nat
  base : W4
  blob : W4
  overhead : W4
  scalar : Nat
  extra : Nat
  operator : Nat
deriving DecidableEq
def Jwl : Rec := ⟨0, 0, w40, w40, w40, 0, 0, 0⟩
def Rec.nats (r : Rec) : List Nat := [r.number, r.time, r.base.a, r.base.b, r.base.c, r.base.d, r.blob.a, r.blob.b, r.blob.c, r.blob.d, r.overhead.a, r.overhead.b, r.overhead.c, r.overhead.d, r.scalar, r.extra, r.operator]
def Rec.cells (r : Rec) : List Value := r.nats.map uV
def Rec.val (r : Rec) : Value := .agg r.cells.toArray
theorem Rec.len (r : Rec) : r.cells.length = 17 := rfl
theorem Rec.one (r : Rec) : r.cells.all QW = true := rfl
structure Rec.ok (r : Rec) : Prop where
  number : YK r.number
  time : YK r.time
  base : r.base.ok
  blob : r.blob.ok
  overhead : r.overhead.ok
  scalar : YK r.scalar
  extra : YK r.extra
  operator : YK r.operator
def Vi (x : BS × BS) : List Value := [Jw x.1, Jw x.2]
theorem Kl (x : BS × BS) : (Vi x).length = 2 := rfl
theorem jX (x : BS × BS) : (Vi x).all QW = true := rfl
def jq (l : List (BS × BS)) : List Value := l.flatMap Vi
abbrev Yj : Nat := 9223372036854775807
structure AcL : Type where
  addr : BS
  nonce : Nat
  bal : W4
  code : BS
  slots : List (BS × BS)
  p : Pl
def AcL.cells (a : AcL) : List Value := [Jw a.addr, uV a.nonce, uV a.bal.a, uV a.bal.b, uV a.bal.c, uV a.bal.d, Jw a.code, Ky a.slots.length a.p]
def AcL.val (a : AcL) : Value := .agg a.cells.toArray
def AcL.er (a : AcL) : AcE := ⟨a.addr, a.nonce, a.bal, a.code, a.slots⟩
theorem AcL.len (a : AcL) : a.cells.length = 8 := rfl
theorem AcL.one (a : AcL) : a.cells.all QW = true := rfl
structure AcL.In (R : Jj) (a : AcL) : Prop where
  addr : a.addr.length ≤ Yj
  nonce : YK a.nonce
  bal : a.bal.ok
  code : a.code.length ≤ Yj
  len : a.slots.length ≤ Yj
  seg : Seg R a.slots.length (jq a.slots) a.p
  slots : ∀ x ∈ a.slots, x.1.length ≤ Yj ∧ x.2.length ≤ Yj
theorem AcL.In.mono {R : Jj} {a : AcL} (h : a.In R) (hs : ∀ q ∈ R, q ∈ R') : a.In R' := ⟨h.addr, h.nonce, h.bal, h.code, h.len, h.seg.mono hs, h.slots⟩
def ac0L : AcL := ⟨[], 0, w40, [], [], none⟩
theorem Jnb {R : Jj} : ac0L.In R := ⟨Nat.zero_le _, W3, Jwk, Nat.zero_le _, Nat.zero_le _, rfl, by simp [ac0L]⟩
def Xn (l : List AcL) : List Value := l.flatMap AcL.cells
structure StL : Type where
  accts : List AcL
  p : Pl
def StL.cells (s : StL) : List Value := [Ky s.accts.length s.p]
def StL.val (s : StL) : Value := .agg s.cells.toArray
def StL.er (s : StL) : List AcE := s.accts.map AcL.er
theorem StL.er_len (s : StL) : s.er.length = s.accts.length := by simp [StL.er]
structure StL.In (R : Jj) (s : StL) : Prop where
  len : s.accts.length ≤ Yj
  seg : Seg R s.accts.length (Xn s.accts) s.p
  accts : ∀ a ∈ s.accts, a.In R
theorem StL.In.mono {R : Jj} {s : StL} (h : s.In R) (hs : ∀ q ∈ R, q ∈ R') : s.In R' := ⟨h.len, h.seg.mono hs, fun a ha => (h.accts a ha).mono hs⟩
def st0L : StL := ⟨[], none⟩
theorem jr {R : Jj} : st0L.In R := ⟨Nat.zero_le _, rfl, by simp [st0L]⟩
theorem Jnc {f : α → List Value} (hf : ∀ x, (f x).length = m) {l : List α} {k : Nat} {x : α} (h : l[j]? = some x) (hk : (f x)[k]? = some v) : (l.flatMap f)[j * m + k]? = some v := by
 have h1 := XV hf h
 have hlt : k < m := by have := (List.getElem?_eq_some_iff.1 hk).1; rwa [hf] at this
 rw [← h1, List.getElem?_take, if_pos hlt, List.getElem?_drop] at hk
 exact hk
section
variable {c : Cx} {l : Ko} {L : Jj} {X : XP} {d : List Deferred} {i : Nat} {t : TypeId} {ps : String} {af : Array Edge} {gd : Option (Nat × Bool)} {ty : TypeId}
theorem KE {f : α → List Value} (hf : ∀ x, (f x).length = m) {p : Pl} {R : Jj} {y : α} (hR : ∀ q ∈ R, known c L q.1 q.2) (hx : Kh l x = some (.pointer (some ⟨plB p, XO p + j * m, none⟩))) (hs : Seg R xs.length (xs.flatMap f) p) (hy : xs[j]? = some y) (ht : Wg c.P t = some true) (hm : KQ c.P t = some m) :
  J9 c d l L X ⟨some i, .load t x, ty, ps, af, gd⟩ (.agg (f y).toArray) :=
 WA hR hx hs (jR hy) ht hm (XV hf hy) (hf y)
theorem Wa {f : α → List Value} {k : Nat} (hf : ∀ x, (f x).length = m) {p : Pl} {R : Jj} {y : α} (hR : ∀ q ∈ R, known c L q.1 q.2) (hx : Kh l x = some (.pointer (some ⟨plB p, XO p + (j * m + k), none⟩))) (hs : Seg R xs.length (xs.flatMap f) p) (hy : xs[j]? = some y) (hv : (f y)[k]? = some v) (ht : Wg c.P t = some false) :
  J9 c d l L X ⟨some i, .load t x, ty, ps, af, gd⟩ v :=
 X8 hR hx hs (jR hy) ht (Jnc hf hy hv)
end
theorem Jwm {l : List Nat} (hl : WOk l) : qB (ZO l 32) = l := by
 have : qB (ZO l 32) = YJ (dg l) 32 := zt fun i hi => by
  have h := xO l (n := 32) (m := 31 - i) m0
  have e : 32 - 1 - (31 - i) = i := by omega
  rw [e] at h
  rw [List.getD_eq_getElem?_getD, h, Option.getD_some, UInt8.toNat_ofNat', Nat.mod_eq_of_lt (Jmo l i)]
 rw [this, Jvc hl]
def bW (w : W4) : BS := ZO w.l 32
def uW (s : BS) : W4 := W4.of (Zk s).1
theorem Jnd (s : BS) : WOk (Zk s).1 := by
 unfold Zk; split
 ·exact Jhh _
 ·exact Jyl
theorem Jz2 (s : BS) : (uW s).l = (Zk s).1 := W4.of_l (Jnd s).1
theorem Jz3 {w : W4} (h : w.ok) : uW (bW w) = w := by
 apply W4.l_inj
 rw [Jz2]
 unfold Zk bW
 rw [if_pos (We _ _)]
 exact Jwm h.wok
def wN1 (n : Nat) : W4 := ⟨n, 0, 0, 0⟩
def Jkc (n : Nat) : BS := bW (wN1 n)
def Jkd : Nat → Nat
 | 0 => 0
 | 1 => 1
 | 2 => 5
 | 3 => 6
 | 4 => 3
 | 5 => 7
 | _ => 8
def Jfy (f : Int) : Nat → Bool
 | 0 => true
 | 1 => true
 | 2 => decide (f ≤ 2)
 | 3 => decide (f ≤ 2)
 | 4 => decide (f ≥ 3)
 | 5 => decide (f ≥ 3)
 | _ => decide (f = 5)
def wK (r : Rec) : Nat → W4
 | 0 => ⟨r.number, r.time, 0, 0⟩
 | 1 => r.base
 | 2 => r.overhead
 | 3 => ⟨r.scalar, 0, 0, 0⟩
 | 4 => ⟨r.scalar, r.extra, 0, 0⟩
 | 5 => r.blob
 | _ => ⟨r.operator, 0, 0, 0⟩
def Jhv (r : Rec) (w : W4) : Nat → Rec
 | 0 => { r with number := w.a, time := w.b }
 | 1 => { r with base := w }
 | 2 => { r with overhead := w }
 | 3 => { r with scalar := w.a }
 | 4 => { r with scalar := w.a, extra := w.b }
 | 5 => { r with blob := w }
 | _ => { r with operator := w.a }
theorem Jne {r : Rec} (h : r.ok) (i : Nat) : (wK r i).ok := by
 unfold wK
 split
 ·exact ⟨h.number, h.time, W3, W3⟩
 ·exact h.base
 ·exact h.overhead
 ·exact ⟨h.scalar, W3, W3, W3⟩
 ·exact ⟨h.scalar, h.extra, W3, W3⟩
 ·exact h.blob
 ·exact ⟨h.operator, W3, W3, W3⟩
def wM (f : Int) (g : Nat → W4) : List Nat → Rec → Rec
 | [], out => out
 | i :: l, out => wM f g l (if Jfy f i then Jhv out (g i) i else out)
def tab : List Nat := [0, 1, 2, 3, 4, 5, 6]
def Jnf (f : Int) (r : Rec) : Rec := wM f (wK r) tab Jwl
def Jhw (f : Int) (a : AcE) : Rec := wM f (fun i => uW (Qr a (Jkc (Jkd i)))) tab Jwl
def jt (f : Int) : Prop := 0 ≤ f ∧ f ≤ 5
instance (f : Int) : Decidable (jt f) := inferInstanceAs (Decidable (_ ∧ _))
theorem Jaf {f : Int} (h : jt f) : f = 0 ∨ f = 1 ∨ f = 2 ∨ f = 3 ∨ f = 4 ∨ f = 5 := by unfold jt at h; omega
def Jhx (f : Int) (r : Rec) : Bool := !((decide (f ≥ 3) && decide (r.overhead ≠ w40)) || (decide (f < 3) && (decide (r.extra ≠ 0) || decide (r.blob ≠ w40))) || (decide (f < 5) && decide (r.operator ≠ 0)))
theorem Jng {f : Int} {r : Rec} (h : jt f) : Jnf f r = r ↔ Jhx f r = true := by
 obtain ⟨n, t, b, l, o, s, e, p⟩ := r
 rcases Jaf h with rfl | rfl | rfl | rfl | rfl | rfl <;>
  (simp [Jnf, wM, tab, Jfy, Jhv, wK, Jhx, Jwl]; try (constructor <;> (intro h; simp_all <;> omega)))
def Jcx (which : Int) : BS := if which < 0 ∨ which > 1 then [] else 66 :: (List.replicate 18 0 ++ [UInt8.ofNat (1 + which).toNat])
def Jz4 : BS := [111, 110, 101]
def Jz5 : BS := [116, 119, 111]
def Jwn : BS := [116, 104, 114, 101, 101]
def Jyp : BS := [102, 105, 118, 101]
def Jz6 : BS := [102, 101, 101]
def zD (f which : Int) : BS × Bool := if which = 1 then (if f ≥ 2 then (Jz6, true) else ([], false)) else if f = 0 then (Jz4, true) else if f ≤ 2 then (Jz5, true) else if f ≤ 4 then (Jwn, true) else (Jyp, true)
def A0 : BS := Jcx 0
def A1 : BS := Jcx 1
theorem vf {l : List (BS × BS)} {k v : BS} (h : KN Prod.fst l) : KN Prod.fst (Qm l k v) := by
 unfold Qm; split
 ·exact Jfv h
 ·exact wH h
theorem Jke {l : List (BS × BS)} {k v j : BS} (h : KN Prod.fst l) : VZ Prod.fst j (Qm l k v) = if k = j then (if v = V2 then none else some (k, v)) else VZ Prod.fst j l := by
 unfold Qm
 by_cases hv : v = V2
 ·rw [if_pos hv, if_pos hv, Jcv]
 ·rw [if_neg hv, if_neg hv, Jcu h]
theorem wO {l : List (BS × BS)} {k v : BS} {x : BS × BS} (h : x ∈ Qm l k v) : (x = (k, v) ∧ v ≠ V2) ∨ x ∈ l := by
 unfold Qm at h
 split at h
 ·exact .inr (Jsh h)
 ·rename_i hv; exact (vU h).imp (fun h => ⟨h, hv⟩) id
theorem Jwo {a : AcE} {k v : BS} (h1 : XW a = 0) (h2 : k.length = 32) (h3 : v.length = 32) (h4 : (Qm a.slots k v).length ≤ 16) : wI a k v = ({ a with slots := Qm a.slots k v }, 0) := by
 unfold wI
 rw [if_neg m0, if_neg m0, if_neg m0]
theorem Jsl {a : AcE} {k v : BS} (h1 : XW a = 0) (h2 : k.length = 32) (h3 : v.length = 32) (h4 : (Qm a.slots k v).length ≤ 16) : XW { a with slots := Qm a.slots k v } = 0 := by
 obtain ⟨g1, g2, g3, g4, g5⟩ := Xm h1
 refine Jsj g1 (fun x hx => ?_) (vf g3) g4 h4
 rcases wO hx with ⟨rfl, hv⟩ | hx
 ·exact ⟨h2, h3, hv⟩
 ·exact g2 x hx
theorem Jkf {a : AcE} {k v j : BS} (h : KN Prod.fst a.slots) : Qr { a with slots := Qm a.slots k v } j = if k = j then v else Qr a j := by
 unfold Qr
 simp only
 rw [Jke h]
 by_cases hk : k = j
 ·rw [if_pos hk, if_pos hk]
  by_cases hv : v = V2
  ·rw [if_pos hv]; exact hv.symm
  ·rw [if_neg hv]
 ·rw [if_neg hk, if_neg hk]
def Jag : AcE → List (BS × BS) → AcE × Int
 | a, [] => (a, 0)
 | a, x :: l => if (wI a x.1 x.2).2 ≠ 0 then wI a x.1 x.2 else Jag (wI a x.1 x.2).1 l
structure RowsOk (a b : AcE) (l : List (BS × BS)) : Prop where
  lk : XW b = 0
  addr : b.addr = a.addr
  nonce : b.nonce = a.nonce
  bal : b.bal = a.bal
  code : b.code = a.code
  at_ : ∀ x ∈ l, Qr b x.1 = x.2
  off : ∀ k, (∀ x ∈ l, x.1 ≠ k) → Qr b k = Qr a k
theorem Jnh {a : AcE} (h : XW a = 0) {x : BS × BS} (hx : x ∈ a.slots) : Qr a x.1 = x.2 ∧ x.2 ≠ V2 := by
 obtain ⟨_, g2, g3, _⟩ := Xm h
 unfold Qr
 rw [zC g3 hx]
 exact ⟨rfl, (g2 x hx).2.2⟩
theorem Jni {a : AcE} {k : BS} (h : Qr a k ≠ V2) : (k, Qr a k) ∈ a.slots := by
 unfold Qr at h ⊢
 cases hl : VZ Prod.fst k a.slots with
 | none => rw [hl] at h; exact absurd rfl h
 | some x =>
  obtain ⟨h1, h2⟩ := zB hl
  simp only
  rw [← h1]; exact h2
theorem Jah {α : Type} {kf : α → BS} : ∀ {m l : List α}, KN kf m → KN kf l → (∀ y ∈ l, y ∈ m) → l.length ≤ m.length
 | [], [], _, _, _ => Nat.le_refl _
 | [], y :: l, _, _, h => absurd (h y List.mem_cons_self) mf
 | z :: m, [], _, _, _ => Nat.zero_le _
 | z :: m, y :: l, hm, hl, h => by
  obtain ⟨m1, m2⟩ := List.pairwise_cons.1 hm
  obtain ⟨l1, l2⟩ := List.pairwise_cons.1 hl
  rcases List.mem_cons.1 (h y List.mem_cons_self) with e | hy
  ·rw [e] at l1
   have := Jah (m := m) (l := l) m2 l2 fun x hx => by
    rcases List.mem_cons.1 (h x (List.mem_cons_of_mem _ hx)) with rfl | hx2
    ·have := l1 _ hx; rw [YM] at this; cases this
    ·exact hx2
   simp only [List.length_cons]; omega
  ·have := Jah (m := m) (l := y :: l) m2 hl fun x hx => by
    rcases List.mem_cons.1 (h x hx) with rfl | hx2
    ·have a1 := m1 y hy
     rcases List.mem_cons.1 hx with rfl | hx3
     ·rw [YM] at a1; cases a1
     ·have := VY a1 (l1 _ hx3); rw [YM] at this; cases this
    ·exact hx2
   simp only [List.length_cons] at this ⊢; omega
theorem fill {a : AcE} (ha : XW a = 0) : ∀ (l : List (BS × BS)) (x : AcE), XW x = 0 → (∀ k, Qr x k = Qr a k ∨ Qr x k = V2) → (∀ p ∈ l, p.1.length = 32 ∧ p.2.length = 32 ∧ (p.2 = Qr a p.1 ∨ p.2 = V2)) → (Jag x l).2 = 0
 | [], _, _, _, _ => rfl
 | p :: l, x, hx, hs, hp => by
  obtain ⟨p1, p2, p3⟩ := hp p List.mem_cons_self
  have hsx := (Xm hx).2.2.1
  have hlen : (Qm x.slots p.1 p.2).length ≤ 16 := by
   refine Nat.le_trans (Jah (kf := Prod.fst) (Xm ha).2.2.1 (vf hsx) fun y hy => ?_) (Xm ha).2.2.2.2
   have hne : y.2 ≠ V2 ∧ y.2 = Qr a y.1 := by
    rcases wO hy with ⟨rfl, hv⟩ | hy
    ·exact ⟨hv, p3.resolve_right hv⟩
    ·obtain ⟨e1, e2⟩ := Jnh hx hy
     refine ⟨e2, ?_⟩
     rcases hs y.1 with h | h
     ·rw [← e1, h]
     ·rw [← e1] at e2; exact absurd h e2
   have h3 := Jni (a := a) (k := y.1) (by rw [← hne.2]; exact hne.1)
   rw [← hne.2] at h3
   exact h3
  unfold Jag
  rw [Jwo hx p1 p2 hlen, if_neg mf]
  refine fill ha l _ (Jsl hx p1 p2 hlen) (fun k => ?_) fun q hq => hp q (List.mem_cons_of_mem _ hq)
  rw [Jkf hsx]
  split
  ·rename_i e; subst e; exact p3
  ·exact hs k
theorem Jai {s : List AcE} (hs : Qi s = 0) {k : BS} {a : AcE} (h : VN s k = some a) : a.addr = k ∧ XW a = 0 := by
 obtain ⟨h1, h2⟩ := zB h
 exact ⟨h1, (Jae.1 hs).2.1 a h2⟩
def Jsm (f : Int) (r : Rec) (i : Nat) : BS × BS := (Jkc (Jkd i), if Jfy f i then bW (wK r i) else V2)
def Jfz (k : BS) : Prop := ∃ i ∈ tab, Jkc (Jkd i) = k
def Jf0 (t : List AcE) (which : Int) : AcE := { (VN t (Jcx which)).getD ac0 with addr := Jcx which }
theorem Jnj {s : List AcE} (hs : Qi s = 0) {w : Int} {a : AcE} (h : VN s (Jcx w) = some a) : Jf0 s w = a := by
 unfold Jf0
 rw [h]
 obtain ⟨h1, _⟩ := Jai hs h
 cases a
 simp only at h1
 simp [h1]
structure Wrote (f : Int) (s t : List AcE) (r : Rec) : Prop where
  forked : jt f
  fits : Jhx f r = true
  old : Qi s = 0
  new : Qi t = 0
  acct : ∃ b0, VN t A0 = some b0 ∧ XW b0 = 0 ∧ b0.addr = A0 ∧ b0.nonce = (Jf0 s 0).nonce ∧ b0.bal = (Jf0 s 0).bal ∧ b0.code = (zD f 0).1 ∧ (∀ i ∈ tab, Qr b0 (Jkc (Jkd i)) = (Jsm f r i).2) ∧ ∀ k, ¬ Jfz k → Qr b0 k = Qr (Jf0 s 0) k
  others : ∀ k, k ≠ A0 → k ≠ A1 → VN t k = VN s k
  fee : if (zD f 1).2 = true then VN t A1 = some { Jf0 s 1 with code := (zD f 1).1 } else VN t A1 = VN s A1
def zE (s : List AcE) (k : BS) : AcE := (VN s k).getD ac0
theorem wP {f : Int} {g g' : Nat → W4} : ∀ {l : List Nat} {out : Rec}, (∀ i ∈ l, Jfy f i = true → g i = g' i) → wM f g l out = wM f g' l out
 | [], _, _ => rfl
 | i :: l, out, h => by
  unfold wM
  have e : (if Jfy f i then Jhv out (g i) i else out) = if Jfy f i then Jhv out (g' i) i else out := by
   by_cases hi : Jfy f i = true
   ·rw [if_pos hi, if_pos hi, h i List.mem_cons_self hi]
   ·rw [if_neg hi, if_neg hi]
  rw [e]
  exact wP fun j hj => h j (List.mem_cons_of_mem _ hj)
theorem Jkg {f : Int} {a : AcE} {r : Rec} (hf : jt f) (hr : r.ok) (hb : Jhx f r = true) (h : ∀ i ∈ tab, Qr a (Jkc (Jkd i)) = (Jsm f r i).2) : Jhw f a = r := by
 have e : Jhw f a = Jnf f r := wP fun i hi hh => by
  rw [h i hi]
  unfold Jsm
  simp only
  rw [if_pos hh]
  exact Jz3 (Jne hr i)
 rw [e]
 exact (Jng hf).2 hb
structure Checked (f : Int) (s : List AcE) (a : AcE) : Prop where
  forked : jt f
  st : Qi s = 0
  at0 : VN s A0 = some a
  code : a.code = (zD f 0).1
  rows : ∀ i ∈ tab, Qr a (Jkc (Jkd i)) = (Jsm f (Jhw f a) i).2
  fee : (zD f 1).2 = true → ∃ b, VN s A1 = some b ∧ b.code = (zD f 1).1
theorem Wrote.checked {f : Int} {s t : List AcE} {r : Rec} (h : Wrote f s t r) (hr : r.ok) : ∃ a, Checked f t a ∧ Jhw f a = r := by
 obtain ⟨h1, h2, h3, h4, ⟨b0, c1, c2, c3, c4, c5, c6, c7, c8⟩, h6, h7⟩ := h
 have e := Jkg h1 hr h2 c7
 refine ⟨b0, ⟨h1, h4, c1, c6, by rw [e]; exact c7, fun hf => ?_⟩, e⟩
 rw [if_pos hf] at h7
 exact ⟨_, h7, rfl⟩
theorem Checked.lk {f : Int} {s : List AcE} {a : AcE} (h : Checked f s a) : XW a = 0 := (Jai h.st h.at0).2
theorem Checked.addr {f : Int} {s : List AcE} {a : AcE} (h : Checked f s a) : a.addr = A0 := (Jai h.st h.at0).1
theorem Checked.old {f : Int} {s : List AcE} {a : AcE} (h : Checked f s a) : Jf0 s 0 = a := Jnj h.st h.at0
structure Kept (s t : List AcE) : Prop where
  others : ∀ k, k ≠ A0 → k ≠ A1 → VN t k = VN s k
  there : ∀ k, (VN s k).isSome = true → (VN t k).isSome = true
  nonce : ∀ k, (zE t k).nonce = (zE s k).nonce
  bal : ∀ k, (zE t k).bal = (zE s k).bal
  slot : ∀ k j, (k = A0 → ¬ Jfz j) → Qr (zE t k) j = Qr (zE s k) j
theorem Kept.refl (s : List AcE) : Kept s s := ⟨fun _ _ _ => rfl, fun _ h => h, fun _ => rfl, fun _ => rfl, fun _ _ _ => rfl⟩
theorem Kept.trans {s t u : List AcE} (h : Kept s t) (k : Kept t u) : Kept s u :=
 ⟨fun x a b => (k.others x a b).trans (h.others x a b), fun x hx => k.there x (h.there x hx), fun x => (k.nonce x).trans (h.nonce x), fun x => (k.bal x).trans (h.bal x), fun x j hj => (k.slot x j hj).trans (h.slot x j hj)⟩
def Way (f g : Int) : Prop := 0 ≤ f ∧ f ≤ g ∧ g ≤ 5
instance (f g : Int) : Decidable (Way f g) := inferInstanceAs (Decidable (_ ∧ _))
def plS (sz a : Nat) : Pl → Pl
 | none => none
 | some (⟨b, o, s⟩, cap) => some (⟨b, if cap = a then o else o + a * sz, s⟩, cap - a)
theorem Seg.slice {R : Jj} {n a b : Nat} {cs : List Value} {p : Pl} (h : Seg R n cs p) (hl : cs.length = n * sz) (hab : a < b) (hb : b ≤ n) : Seg R (b - a) ((cs.drop (a * sz)).take ((b - a) * sz)) (plS sz a p) := by
 cases p with
 | none => have h : n = 0 := h; omega
 | some q =>
  obtain ⟨⟨r, o, s⟩, cap⟩ := q
  obtain ⟨h1, h2⟩ := h
  obtain ⟨h3, all, e, fr, h4, h5⟩ := h2 m0
  have hne : ¬ cap = a := by omega
  simp only [plS, if_neg hne]
  have hlen : ((cs.drop (a * sz)).take ((b - a) * sz)).length = (b - a) * sz := by
   rw [List.length_take, List.length_drop, hl, ← Nat.sub_mul]
   exact Nat.min_eq_left (Nat.mul_le_mul_right _ m0)
  refine ⟨by omega, fun _ => ⟨h3, all, e, fr, h4, ?_⟩⟩
  rw [hlen]
  exact Jcl h5 rfl hlen
section
variable {c : Cx} {l : Ko} {L : Jj} {X : XP} {Q : Exit → Act → World → Prop} {d : List Deferred}
variable {ops : Array Oper} {rest : List Oper} {i : Nat} {v : Value} {t : TypeId} {ps : String} {af : Array Edge} {gd : Option (Nat × Bool)} {ty t2 : TypeId}
theorem Jkh {lo hi : Operand} {p : Pl} {R : Jj} {cs : List Value} {n e a b : Nat} {ka kb : IntKind} {za zb : Int} (hx : Kh l x = some (Ky n p)) (hs : Seg R n cs p) (hlo : Kh l lo = some (.int ka za)) (hhi : Kh l hi = some (.int kb zb)) (ea : za = (a : Int)) (eb : zb = (b : Int)) (ht : Ks c.P t = some e) (hz : KQ c.P e = some sz) (hab : a < b) (hb : b ≤ n) (hm : b - a = m) :
  J9 c d l L X ⟨some i, .slice t x (some lo) (some hi) none, ty, ps, af, gd⟩ (Ky m (plS sz a p)) := by
 subst ea eb hm
 cases p with
 | none => have h : n = 0 := hs; omega
 | some q =>
  obtain ⟨⟨r, o, s⟩, cap⟩ := q
  obtain ⟨h1, h2⟩ := hs
  have h3 : s = none := (h2 m0).1
  subst h3
  exact JT (kl := some a) (kh := some b) (km := none) hx ht hz ⟨_, hlo⟩ ⟨_, hhi⟩ trivial rfl rfl rfl m0 (by show b ≤ cap; omega) (Nat.le_refl _) (fun h => by cases h) rfl
theorem Jhy {a b : List UInt8} (hx : Kh l x = some (.string (bs a))) (hy : Kh l y = some (.string (bs b))) :
  J9 c d l L X ⟨some i, .binOp .geq t x y t2, ty, ps, af, gd⟩ (.bool (!Op.bytesLess a b)) := fun a' w hf _ => by
 simp only [execOp]
 rw [hf.eval hx, hf.eval hy]
 simp only [binOp, eqGuard, Op.stringOp, Sem.run_bind, Yt]
 rfl
theorem Jaj {a b : List UInt8} (hx : Kh l x = some (.string (bs a))) (hy : Kh l y = some (.string (bs b))) :
  J9 c d l L X ⟨some i, .binOp .gtr t x y t2, ty, ps, af, gd⟩ (.bool (Op.bytesLess b a)) := fun a' w hf _ => by
 simp only [execOp]
 rw [hf.eval hx, hf.eval hy]
 have e : (!(Op.bytesLess a b || decide (a = b))) = Op.bytesLess b a := by
  rcases Jac a b with h | h | h
  ·subst h; rw [YM]; simp
  ·rw [h, Jad h]; simp
  ·rw [h, Jad h]; simp [(zA h).symm]
 rw [← e]
 have e2 : (a == b) = decide (a = b) := by by_cases h : a = b <;> simp [h]
 rw [← e2]
 simp only [binOp, eqGuard, Op.stringOp, Sem.run_bind, Yt]
 rfl
theorem Jf1  {e n : Nat} {a : Option Addr} {r2 : Option Addr} (hg : Kp l ops ⟨some i, .call ⟨.builtin .append, #[x, y], #[t, t]⟩, ty, ps, af, gd⟩ = some true) (hi : Nat.ble (i + 1) c.n = true)
  (hx : Kh l x = some (.slice a n cap)) (hy : Kh l y = some (.slice r2 0 c2)) (ht : Ks c.P t = some e) (hs : KQ c.P e = some sz) (hle : n ≤ cap)
  (h : HL c d ((i, .slice a n cap) :: l) L X ops rest Q) : HL c d l L X ops (⟨some i, .call ⟨.builtin .append, #[x, y], #[t, t]⟩, ty, ps, af, gd⟩ :: rest) Q := by
 obtain ⟨inf, hinf, hs'⟩ : ∃ inf, c.P.info? e = some inf ∧ inf.size = sz := by
  unfold KQ at hs
  cases hq : c.P.info? e with
  | none => simp [hq] at hs
  | some inf => simp only [hq, Option.some.injEq] at hs; exact ⟨inf, rfl, hs⟩
 refine jB hg rfl rfl hi (fun a' w hf _ => ?_) h
 have ex := hf.eval hx
 have ey := hf.eval hy
 have hl : ∀ (q : Addr), (loadCells q 0).run c.P w = .ok #[] w := fun q => by simpa using run_loadCells_list (P := c.P) w q [] mf
 cases r2 <;> cases a <;> simp [execOp, resolve, Sem.run_bind, ex, ey, Result.andThen, invoke, builtin, Builtin.append_, Qk (Ki ht), sizeOf, typeInfo, hinf, Builtin.lenOf, hle, Builtin.firstCells, hl, storeCells]
theorem Jhz {p : Option Addr} {n : Nat} (hx : Kh l x = some (.slice p n cap)) (ht : Ks c.P t = some e) :
  J9 c d l L X ⟨some i, .call ⟨.builtin .cap, #[x], #[t]⟩, ty, ps, af, gd⟩ (.int .i64 cap) := fun a w hf _ => by
 have ex := hf.eval hx
 simp [execOp, resolve, Sem.run_bind, ex, Result.andThen, invoke, builtin, Builtin.cap_, Qk (Ki ht), goInt]
theorem vg  {e k r1 o1 o2 n1 c1 n2 : Nat} {cs1 : Array Value} {tR : TypeId}
  (hf : Kh l f = some (.func (.func g) #[] #[])) (hx : Kh l x = some (.slice (some ⟨r1, o1, none⟩) n1 c1)) (hy : Kh l y = some (.slice (some ⟨r2, o2, none⟩) n2 c2)) (hk1 : (r1, Obj.cells cs1 e1 (0, 0)) ∈ c.R) (hk2 : L[k]? = some (r2, .cells cs2 e2 (0, 0)))
  (ht : Ks c.P t = some e) (hs : KQ c.P e = some sz) (h0 : 0 < cs2.size) (hF : c.P.funcs[g]? = some fn) (hn1 : (fn.name == "runtime.NumGoroutine") = false) (hb : fn.body.isNone = true) (hn2 : Extern.findNext fn = none) (he : Extern.find fn = some (Extern.SlicesOverlaps.overlaps #[t, t] #[tR])) :
  J9 c d l L X ⟨some i, .call ⟨.value f, #[x, y], at_⟩, ty, ps, af, gd⟩ (.bool false) := fun a w hfr hst =>
 Jfx hf hx hy (hst.apart hk2 _ hk1) (Or.inr hk1) (vD hk2) ht hs h0 hF hn1 hb hn2 he a w hfr hst
theorem XB {e : Nat} (hg : Kp l ops ⟨some i, .buildSlice t 0 #[], ty, ps, af, gd⟩ = some true) (hi : Nat.ble (i + 1) c.n = true) (ht : Ks c.P t = some e) (hs : KQ c.P e = some sz)
  (h : ∀ q, HL c d ((i, .slice (some ⟨q, 0, none⟩) 0 0) :: l) ((q, .cells #[] e (0, 0)) :: L) X ops rest Q) : HL c d l L X ops (⟨some i, .buildSlice t 0 #[], ty, ps, af, gd⟩ :: rest) Q := by
 refine Wo (V := fun q => .slice (some ⟨q, 0, none⟩) 0 0) (L' := fun q => (q, .cells #[] e (0, 0)) :: L) (X' := fun _ => X) hg rfl rfl hi (fun a w hfr hst => ⟨w.heap.size, w.alloc (.cells #[] e), ?_, hst.alloc _⟩) h
 simp [execOp, Instr.buildSlice, Sem.run_bind, Qk (Ki ht), V8 hs, Result.andThen, Instr.fill, newRow]
 rw [show Array.range 0 = (#[] : Array Nat) from by decide]
 simp
theorem wQ  {k e b n : Nat} {q : Addr × Nat} {cs : List Value} {R : Jj}
  (hg : Kp l ops ⟨some i, .call ⟨.builtin .append, #[x, y], #[t, t]⟩, ty, ps, af, gd⟩ = some true) (hi : Nat.ble (i + 1) c.n = true) (hx : Kh l x = some (.slice (some ⟨r, 0, none⟩) 0 0)) (hk : L[k]? = some (r, .cells #[] e (0, 0))) (hL : L.eraseIdx k = L0)
  (hy : Kh l y = some (Ky n (some q))) (hs : Seg R n cs (some q)) (hR : ∀ q ∈ R, known c L q.1 q.2) (ht : Ks c.P t = some e) (hz : QL c.P e = some z) (hsz : KQ c.P e = some sz) (hb : Jb6 c.P e = some b) (hzs : z.cells.size = sz) (h0 : 0 < sz)
  (hcs : cs.length = n * sz) (hone : cs.all QW = true) (h63 : n ≤ 9223372036854775807) (h47 : n * b ≤ 140737488355328)
  (h : ∀ row, rowOk sz n cs row → HL c d ((i, J3 n row) :: l) (JL e cs row ++ L0) X ops rest Q) : HL c d l L X ops (⟨some i, .call ⟨.builtin .append, #[x, y], #[t, t]⟩, ty, ps, af, gd⟩ :: rest) Q := by
 obtain ⟨⟨r2, o2, s2⟩, cap⟩ := q
 obtain ⟨hs1, hs2⟩ := hs
 by_cases hn : n = 0
 ·subst hn
  have hc0 : cs = [] := List.length_eq_zero_iff.1 (by rw [hcs, Nat.zero_mul])
  subst hc0
  refine Jf1 hg hi hx hy ht hsz (Nat.le_refl _) ?_
  refine JY ?_ (h (some (r, 0, [])) ⟨by simp, by simp⟩)
  have h1 := (List.getElem?_eq_some_iff.1 hk)
  have := wq h1.1 (r, Obj.cells #[] e (0, 0))
  rw [hL, ← h1.2, List.set_getElem_self, h1.2] at this
  exact this
 ·obtain ⟨h3, all, e', fr, h4, h5⟩ := hs2 m0
  have h3 : s2 = none := h3
  subst h3
  rw [hcs] at h5
  refine W7 hg hi hx hy (hR _ h4) ht hz hsz hb hzs h0 h5 hcs hone m0 (SlOwn.own (n := 0) (cap := 0) (xs := []) hk mf mf mf hL) m0 (by rw [Nat.zero_add]; exact h47) fun r' cap' spare hsp => ?_
  have := h (some (r', cap', spare)) ⟨hcs, by rw [Nat.zero_add] at hsp; exact hsp⟩
  simpa [J3, JL] using this
end
def YN {α : Type} (pr : α → Bool) (xs : List α) : Int := match xs.findIdx? pr with
 | some i => (i : Int)
 | none => -1
theorem Jcy (h : ∀ (j : Nat) x, xs[j]? = some x → pr x = false) : YN pr xs = -1 := by
 unfold YN
 have : xs.findIdx? pr = none := by
  rw [List.findIdx?_eq_none_iff]
  intro x hx
  obtain ⟨j, hj, rfl⟩ := List.mem_iff_getElem.1 hx
  simpa using h j _ (List.getElem?_eq_getElem hj)
 rw [this]
theorem Jcz {x : α} (hx : xs[i]? = some x) (hp : pr x = true) (h : ∀ j, j < i → ∀ y, xs[j]? = some y → pr y = false) : YN pr xs = (i : Int) := by
 unfold YN
 obtain ⟨h1, h2⟩ := List.getElem?_eq_some_iff.1 hx
 have : xs.findIdx? pr = some i := by
  rw [List.findIdx?_eq_some_iff_getElem]
  exact ⟨h1, by rw [h2]; exact hp, fun j hj => by simpa using h j hj _ (List.getElem?_eq_getElem m0)⟩
 rw [this]
theorem Jsn : decide (YN pr xs ≥ 0) = xs.any pr := by
 unfold YN
 cases h : xs.findIdx? pr with
 | none =>
  rw [List.findIdx?_eq_none_iff] at h
  have : xs.any pr = false := by rw [List.any_eq_false]; intro x hx; simpa using h x hx
  rw [this]; rfl
 | some i =>
  rw [List.findIdx?_eq_some_iff_getElem] at h
  obtain ⟨h1, h2, _⟩ := h
  have : xs.any pr = true := List.any_eq_true.2 ⟨xs[i], List.getElem_mem _, h2⟩
  rw [this]; simp
theorem wR : (YN pr xs < 0 ∧ xs.find? pr = none) ∨ ∃ (i : Nat) (x : α), YN pr xs = (i : Int) ∧ xs[i]? = some x ∧ xs.find? pr = some x := by
 unfold YN
 cases h : xs.findIdx? pr with
 | none =>
  rw [List.findIdx?_eq_none_iff] at h
  exact .inl ⟨by simp, by rw [List.find?_eq_none]; intro x hx; simpa using h x hx⟩
 | some i =>
  rw [List.findIdx?_eq_some_iff_getElem] at h
  obtain ⟨h1, h2, h3⟩ := h
  refine .inr ⟨i, xs[i], rfl, List.getElem?_eq_getElem h1, ?_⟩
  rw [List.find?_eq_some_iff_getElem]
  exact ⟨h2, i, h1, rfl, fun j hj => by simpa using h3 j hj⟩
theorem Jh0 (h : 0 ≤ YN pr xs) : ∃ (i : Nat) (x : α), YN pr xs = (i : Int) ∧ xs[i]? = some x ∧ xs.find? pr = some x := by
 rcases wR (pr := pr) (xs := xs) with ⟨h1, _⟩ | h1
 ·omega
 ·exact h1
theorem wS (h : YN pr xs < 0) : xs.find? pr = none := by
 rcases wR (pr := pr) (xs := xs) with ⟨_, h1⟩ | ⟨i, x, h1, _⟩
 ·exact h1
 ·omega
section
variable {α : Type} {kf : α → BS}
def vy (a b : BS) : Int := if Op.bytesLess a b then -1 else if Op.bytesLess b a then 1 else 0
theorem Jh1 (a b : BS) : decide (vy a b < 0) = Op.bytesLess a b := by
 unfold vy
 cases Op.bytesLess a b
 ·cases Op.bytesLess b a <;> rfl
 ·rfl
theorem Jc0 (a b : BS) : (vy a b == 0) = decide (a = b) := by
 unfold vy
 rcases Jac a b with h | h | h
 ·subst h; rw [YM]; simp
 ·rw [h]; simp [zA h]
 ·rw [h, Jad h]; simp [(zA h).symm]
def j9 (kf : α → BS) (k : BS) (xs : List α) : Nat := (xs.takeWhile fun x => Op.bytesLess (kf x) k).length
def Wh (kf : α → BS) (k : BS) (xs : List α) : Bool := match xs[j9 kf k xs]? with
 | some x => decide (kf x = k)
 | none => false
theorem Jnk (k : BS) (xs : List α) : j9 kf k xs ≤ xs.length := by
 unfold j9
 have := (List.takeWhile_prefix (p := fun x => Op.bytesLess (kf x) k) (l := xs)).length_le
 exact this
theorem Jnl {k : BS} : ∀ {xs : List α} {i : Nat}, i ≤ xs.length → (∀ q y, q < i → xs[q]? = some y → Op.bytesLess (kf y) k = true) → (∀ y, xs[i]? = some y → Op.bytesLess (kf y) k = false) → i = j9 kf k xs
 | [], i, h, _, _ => by simp [j9] at h ⊢; exact h
 | x :: xs, 0, _, _, h2 => by
  have := h2 x rfl
  simp [j9, List.takeWhile_cons, this]
 | x :: xs, i + 1, h, h1, h2 => by
  have h0 := h1 0 x m0 rfl
  have := Jnl (xs := xs) (i := i) nb (fun q y hq hy => h1 (q + 1) y m0 hy) (fun y hy => h2 y hy)
  unfold j9 at this ⊢
  rw [List.takeWhile_cons, h0]
  simp only [if_true, List.length_cons]
  omega
theorem Jvh {k : BS} : ∀ {xs : List α} {q : Nat} {y : α}, q < j9 kf k xs → xs[q]? = some y → Op.bytesLess (kf y) k = true
  | [], q, y, h, _ => by simp [j9] at h
  | x :: xs, q, y, h, hy => by
    unfold j9 at h
    rw [List.takeWhile_cons] at h
    split at h
    · rename_i hx
      cases q with
      | zero => obtain rfl : x = y := by simpa using hy
                exact hx
      | succ q => exact Jvh (xs := xs) (q := q) (by simpa [j9] using h) Mx
    · simp at h
theorem Jvi {k : BS} : ∀ {xs : List α} {q : Nat} {y : α}, KN kf xs → j9 kf k xs ≤ q → xs[q]? = some y → Op.bytesLess (kf y) k = false
  | [], q, y, _, _, hy => by simp at hy
  | x :: xs, q, y, hs, h, hy => by
    obtain ⟨s1, s2⟩ := List.pairwise_cons.1 hs
    unfold j9 at h
    rw [List.takeWhile_cons] at h
    split at h
    · cases q with
      | zero => simp at h
      | succ q => exact Jvi (xs := xs) (q := q) s2 (by simpa [j9] using h) Mx
    · rename_i hx
      have hx : Op.bytesLess (kf x) k = false := by simpa using hx
      cases q with
      | zero => obtain rfl : x = y := by simpa using hy
                exact hx
      | succ q =>
        have hm : y ∈ xs := List.mem_of_getElem? Mx
        cases hyk : Op.bytesLess (kf y) k
        · rfl
        · rw [VY (s1 y hm) hyk] at hx; cases hx
theorem Jc1 {k : BS} {xs : List α} (hs : KN kf xs) {h : Nat} {x : α} (hx : xs[h]? = some x) (hb : Op.bytesLess (kf x) k = true) : ∀ q y, q < h + 1 → xs[q]? = some y → Op.bytesLess (kf y) k = true := fun q y hq hy => by
 rcases Nat.lt_succ_iff_lt_or_eq.1 hq with hq | rfl
 ·have hp := List.pairwise_iff_getElem.1 hs q h (List.getElem?_eq_some_iff.1 hy).1 (List.getElem?_eq_some_iff.1 hx).1 hq
  rw [(List.getElem?_eq_some_iff.1 hy).2, (List.getElem?_eq_some_iff.1 hx).2] at hp
  exact VY hp hb
 ·rw [hx] at hy; cases hy; exact hb
theorem Jc2 {k : BS} {xs : List α} (hs : KN kf xs) {h : Nat} {x : α} (hx : xs[h]? = some x) (hb : Op.bytesLess (kf x) k = false) : ∀ q y, h ≤ q → xs[q]? = some y → Op.bytesLess (kf y) k = false := fun q y hq hy => by
 rcases Nat.lt_or_eq_of_le hq with hq | rfl
 ·have hp := List.pairwise_iff_getElem.1 hs h q (List.getElem?_eq_some_iff.1 hx).1 (List.getElem?_eq_some_iff.1 hy).1 hq
  rw [(List.getElem?_eq_some_iff.1 hy).2, (List.getElem?_eq_some_iff.1 hx).2] at hp
  cases hyk : Op.bytesLess (kf y) k
  ·rfl
  ·rw [VY hp hyk] at hb; cases hb
 ·rw [hx] at hy; cases hy; exact hb
theorem Jc3 {k : BS} {xs : List α} {x : α} (h : xs[j9 kf k xs]? = some x) : Wh kf k xs = decide (kf x = k) := by unfold Wh; rw [h]
theorem qF {k : BS} {xs : List α} (h : xs.length ≤ j9 kf k xs) : Wh kf k xs = false := by unfold Wh; rw [List.getElem?_eq_none h]
theorem Jnm {x : α} {xs : List α} (hs : KN kf xs) : QH kf x xs = if Wh kf (kf x) xs = true then xs.set (j9 kf (kf x) xs) x else xs.take (j9 kf (kf x) xs) ++ x :: xs.drop (j9 kf (kf x) xs) := by
 obtain ⟨i, hi⟩ : ∃ i, i = j9 kf (kf x) xs := ⟨_, rfl⟩
 have hle : i ≤ xs.length := hi ▸ Jnk _ _
 have h := Jna (kf := kf) (x := x) (p := xs.take i) (q := xs.drop i) (fun y hy => by
  obtain ⟨j, e⟩ := List.mem_iff_getElem?.1 hy
  have hj := (List.getElem?_eq_some_iff.1 e).1
  rw [List.length_take] at hj
  rw [List.getElem?_take, if_pos m0] at e
  exact Jvh m0 e) (fun y hy => by
  obtain ⟨j, e⟩ := List.mem_iff_getElem?.1 hy
  rw [List.getElem?_drop] at e
  exact Jvi hs m0 e)
 rw [List.take_append_drop] at h
 rw [h]
 unfold Wh
 rw [← hi]
 by_cases hlt : i < xs.length
 ·rw [List.getElem?_eq_getElem hlt, List.drop_eq_getElem_cons hlt]
  simp only [decide_eq_true_eq]
  split
  ·rw [List.set_eq_take_append_cons_drop, if_pos hlt]
  ·rfl
 ·rw [List.getElem?_eq_none m0, List.drop_of_length_le m0]
  simp
end
def fV (f : FuncId) : Value := .func (.func f) #[] #[]
theorem ZT {α : Type} {kf : α → BS} : ∀ {xs : List α}, (∀ (j : Nat) x y, xs[j]? = some x → xs[j + 1]? = some y → Op.bytesLess (kf x) (kf y) = true) → QS kf xs = true
 | [], _ => rfl
 | [_], _ => rfl
 | x :: y :: xs, h => by
  rw [QS, h 0 x y rfl rfl, Bool.true_and]
  exact ZT fun j u v hu hv => h (j + 1) u v (by simpa using hu) (by simpa using hv)
theorem jY {α : Type} {kf : α → BS} : ∀ {xs : List α} {j : Nat} {x y : α}, xs[j]? = some x → xs[j + 1]? = some y → Op.bytesLess (kf x) (kf y) = false → QS kf xs = false
 | [], _, _, _, h, _, _ => by simp at h
 | [_], _, _, _, _, h, _ => by simp at h
 | a :: b :: xs, 0, x, y, hx, hy, h => by
  obtain rfl : a = x := by simpa using hx
  obtain rfl : b = y := by simpa using hy
  rw [QS, h, Bool.false_and]
 | a :: b :: xs, j + 1, x, y, hx, hy, h => by
  rw [QS, jY (xs := b :: xs) (j := j) MP Mx h, Bool.and_false]
theorem YO {α : Type} {f : α → List Value} (h : ∀ x, (f x).all QW = true) : ∀ l : List α, (l.flatMap f).all QW = true
 | [] => rfl
 | x :: l => by rw [List.flatMap_cons, List.all_append, h, YO h l]; rfl
theorem cut {l : List Value} {a : Nat} (h : a ≤ l.length) : ∃ x y, l = x ++ y ∧ x.length = a := ⟨l.take a, l.drop a, (List.take_append_drop ..).symm, by rw [List.length_take]; omega⟩
theorem Jc4 {k : BS} (h : Wh kf k xs = true) : j9 kf k xs < xs.length := by
 rcases Nat.lt_or_ge (j9 kf k xs) xs.length with h1 | h1
 ·exact h1
 ·rw [qF h1] at h; cases h
theorem row_some {n : Nat} {xs : List Value} (h : rowOk sz n xs row) (hn : 0 < n) : ∃ r cap sp, row = some (r, cap, sp) := by
 cases row with
 | none => have := h.1; omega
 | some q => obtain ⟨r, cap, sp⟩ := q; exact ⟨r, cap, sp, rfl⟩
theorem XC {P M S V : List Value} {o n : Nat} (ho : P.length = o) (hn : M.length = n) : (P ++ (M ++ S)).take o ++ V ++ (P ++ (M ++ S)).drop (o + n) = P ++ (V ++ S) := by
 subst ho hn
 rw [List.take_left' rfl, ← List.drop_drop, List.drop_left' rfl, List.drop_left' rfl, List.append_assoc]
theorem Jh2 {f : α → List Value} (hf : ∀ x, (f x).length = m) (hj : j < xs.length) (y : α) (sp : List Value) :
  (xs.flatMap f ++ sp).take (j * m) ++ f y ++ (xs.flatMap f ++ sp).drop (j * m + m) = (xs.set j y).flatMap f ++ sp := by
 have e : xs = xs.take j ++ xs[j] :: xs.drop (j + 1) := by rw [← List.drop_eq_getElem_cons hj, List.take_append_drop]
 have e1 : xs.flatMap f ++ sp = (xs.take j).flatMap f ++ (f xs[j] ++ ((xs.drop (j + 1)).flatMap f ++ sp)) := by
  rw [show xs.flatMap f = (xs.take j ++ xs[j] :: xs.drop (j + 1)).flatMap f from congrArg (List.flatMap f) e, List.flatMap_append, List.flatMap_cons, List.append_assoc, List.append_assoc]
 have e2 : (xs.set j y).flatMap f ++ sp = (xs.take j).flatMap f ++ (f y ++ ((xs.drop (j + 1)).flatMap f ++ sp)) := by
  rw [List.set_eq_take_append_cons_drop, if_pos hj]
  simp [List.flatMap_append, List.flatMap_cons]
 rw [e1, e2]
 exact XC (by rw [Qd hf, List.length_take]; congr 1; omega) (hf _)
theorem Pure.toR {f : FuncId} {args : Array Value} {R : Jj} (h : Pure P f args v) : PureR P f args v R := ⟨fun w _ => h.run w⟩
theorem Jki {f : α → List Value} (hf : ∀ x, (f x).length = m) {x y : α} (hx : xs[i]? = some x) (hy : xs[i + 1]? = some y) : ((xs.flatMap f).drop (i * m)).take (2 * m) = [x, y].flatMap f := by
 have h1 := XV hf hx
 have h2 := XV hf hy
 rw [show 2 * m = m + m by omega, List.take_add, h1, List.drop_drop, show i * m + m = (i + 1) * m by rw [Nat.succ_mul], h2]
 simp
def Wv (s : StL) (k : BS) : AcL := (s.accts.find? fun a => decide (a.addr = k)).getD ac0L
def Xf (s : StL) (k : BS) : Bool := (s.accts.find? fun a => decide (a.addr = k)).isSome
theorem Jc5 {l : List AcL} {k : BS} : VZ AcE.addr k (l.map AcL.er) = (l.find? fun a => decide (a.addr = k)).map AcL.er := by
 induction l with
 | nil => rfl
 | cons a l ih =>
  rw [List.map_cons, QM, ih, List.find?_cons]
  by_cases h : a.addr = k
  ·rw [if_pos (show a.er.addr = k from h), decide_eq_true h]; rfl
  ·rw [if_neg (show ¬ a.er.addr = k from h), decide_eq_false h]
theorem Jnn (s : StL) (k : BS) : Xf s k = (VN s.er k).isSome := by
 unfold Xf VN StL.er
 rw [Jc5]
 cases s.accts.find? fun a => decide (a.addr = k) <;> rfl
theorem Jso (s : StL) (k : BS) : (Wv s k).er = (VN s.er k).getD ac0 := by
 unfold Wv VN StL.er
 rw [Jc5]
 cases s.accts.find? fun a => decide (a.addr = k) <;> rfl
theorem Jsp {R : Jj} {s : StL} (h : s.In R) (k : BS) : (Wv s k).In R := by
 unfold Wv
 cases hx : s.accts.find? fun a => decide (a.addr = k) with
 | none => exact Jnb
 | some a => exact h.accts a (List.mem_of_find?_eq_some hx)
theorem Jc6 {s : StL} {k : BS} {a : AcL} (h : (s.accts.find? fun a => decide (a.addr = k)) = some a) : Wv s k = a ∧ Xf s k = true := by
 unfold Wv Xf; rw [h]; exact ⟨rfl, rfl⟩
theorem zF {s : StL} {k : BS} (h : (s.accts.find? fun a => decide (a.addr = k)) = none) : Wv s k = ac0L ∧ Xf s k = false := by
 unfold Wv Xf; rw [h]; exact ⟨rfl, rfl⟩
theorem Jno {a : AcE} {k : BS} {x : BS × BS} (h : (a.slots.find? fun y => decide (y.1 = k)) = some x) : Qr a k = x.2 := by
 unfold Qr VZ
 rw [show (fun y : BS × BS => y.1 == k) = fun y => decide (y.1 = k) from funext fun y => by by_cases e : y.1 = k <;> simp [e], h]
theorem Jkj {a : AcE} {k : BS} (h : (a.slots.find? fun y => decide (y.1 = k)) = none) : Qr a k = V2 := by
 unfold Qr VZ
 rw [show (fun y : BS × BS => y.1 == k) = fun y => decide (y.1 = k) from funext fun y => by by_cases e : y.1 = k <;> simp [e], h]
theorem Jf2 (x y : α) : QS kf [x, y] = Op.bytesLess (kf x) (kf y) := by
 rw [QS, QS, Bool.and_true]
def WV (l : List AcE) : Nat → Option BS
 | 0 => none
 | i + 1 => l[i]?.map AcE.addr
theorem Jh3 {l : List AcE} {a : AcE} (h : l[i]? = some a) : goS (WV l i) (l.drop i) = if Vk (WV l i) a ≠ 0 then Vk (WV l i) a else goS (WV l (i + 1)) (l.drop (i + 1)) := by
 rw [Yv h, goS, show WV l (i + 1) = some a.addr from by show Option.map AcE.addr l[i]? = _; rw [h]; rfl]
theorem XD {s : StL} {a : AcL} (h : s.accts[i]? = some a) : s.er[i]? = some a.er := by unfold StL.er; rw [List.getElem?_map, h]; rfl
theorem Seg.two {f : α → List Value} (hf : ∀ x, (f x).length = m) {R : Jj} {p : Pl} (h : Seg R xs.length (xs.flatMap f) p) {x y : α} (hx : xs[j]? = some x) (hy : xs[i]? = some y) (e : j + 1 = i) : Seg R [x, y].length ([x, y].flatMap f) (plS m j p) := by
 subst e
 have hlt := (List.getElem?_eq_some_iff.1 hy).1
 have h1 := h.slice (sz := m) (a := j) (b := j + 2) (Qd hf xs) m0 m0
 rw [show j + 2 - j = 2 by omega, Jki hf hx hy] at h1
 exact h1
theorem Jh4 {a : AcE} {b : BS} (h : XW a ≠ 2) (hl : last = some b) (hb : Op.bytesLess b a.addr = false) : Vk last a = 11 := by unfold Vk; rw [if_pos ⟨h, b, hl, hb⟩]
theorem Jak {a : AcE} (h : XW a = 2 ∨ last = none ∨ ∃ b, last = some b ∧ Op.bytesLess b a.addr = true) : Vk last a = XW a := by
 unfold Vk
 rw [if_neg]
 rintro ⟨h1, b, h2, h3⟩
 rcases h with h | h | ⟨c, h, h4⟩
 ·exact h1 h
 ·rw [h] at h2; cases h2
 ·rw [h] at h2; cases h2; rw [h3] at h4; cases h4
theorem Jal {s : StL} {x : AcL} (hx : s.accts[j]? = some x) (e : j + 1 = i) : WV s.er i = some x.addr := by
 subst e; show Option.map AcE.addr s.er[j]? = _; rw [XD hx]; rfl
theorem Jh5 (s : StL) : (32 < (s.accts.length : Int) → Qi s.er = 5) ∧ (¬ 32 < (s.accts.length : Int) → Qi s.er = goS none s.er) := by
 unfold Qi
 rw [s.er_len]
 exact ⟨fun h => by rw [if_pos m0], fun h => by rw [if_neg m0]⟩
theorem PureR.mono {f : FuncId} {args : Array Value} {R : Jj} (h : PureR P f args v R) (hs : ∀ q ∈ R, q ∈ R') : PureR P f args v R' := ⟨fun w hw => h.run w fun p hp => hw p (hs p hp)⟩
def QD : Vg → Pl
 | none => none
 | some (r, cap, _) => some (⟨r, 0, none⟩, cap)
theorem VE (n : Nat) (row : Vg) (h : row = none → n = 0) : Ky n (QD row) = J3 n row := by
 cases row with
 | none => rw [h rfl]; rfl
 | some q => rfl
theorem KY {n e : Nat} {cs : List Value} (h : rowOk sz n cs row) (h0 : 0 < sz) : Seg (JL e cs row) n cs (QD row) := by
 cases row with
 | none => exact h.1
 | some q =>
  obtain ⟨r, cap, sp⟩ := q
  obtain ⟨h1, h2⟩ := h
  exact ⟨Nat.le_of_mul_le_mul_right (by omega : n * sz ≤ cap * sz) h0, fun _ => ⟨rfl, _, e, (0, 0), List.mem_cons_self, by simp⟩⟩
theorem Jsq (h : YN pr xs = (i : Int)) : i < xs.length ∧ (xs.take (i + 1)).filter (fun x => !pr x) = xs.take i := by
 unfold YN at h
 split at h
 ·rename_i j hj
  obtain rfl : j = i := by omega
  rw [List.findIdx?_eq_some_iff_getElem] at hj
  obtain ⟨h1, h2, h3⟩ := hj
  refine ⟨h1, ?_⟩
  rw [List.take_succ_eq_append_getElem h1, List.filter_append, List.filter_eq_self.2, List.filter_eq_nil_iff.2, List.append_nil]
  ·intro x hx
   rw [List.mem_singleton.1 hx]; simp [h2]
  ·intro x hx
   obtain ⟨q, hq, rfl⟩ := List.mem_iff_getElem.1 hx
   rw [List.getElem_take]
   simp only [List.length_take] at hq
   simpa using h3 q m0
 ·omega
theorem Jsr (h : YN pr xs < 0) : xs.filter (fun x => !pr x) = xs := by
 rw [List.filter_eq_self]
 intro x hx
 have := wS h
 rw [List.find?_eq_none] at this
 simpa using this x hx
theorem Yz {x : α} (hx : xs[j]? = some x) : (xs.take (j + 1)).filter pr = (xs.take j).filter pr ++ (if pr x then [x] else []) := by
 obtain ⟨h1, h2⟩ := List.getElem?_eq_some_iff.1 hx
 rw [List.take_succ_eq_append_getElem h1, List.filter_append, h2]
 congr 1
 by_cases h : pr x = true <;> simp [h]
theorem Jc7 {f : α → List Value} {x : α} (hx : xs[j]? = some x) : (xs.drop j).flatMap f = f x ++ (xs.drop (j + 1)).flatMap f := by rw [Yv hx, List.flatMap_cons]
structure AcRes (R : Jj) (e : AcE × Int) : Type where
  a : AcL
  err : Int
  L : Jj
  ok : a.In (L ++ R)
  eq : (a.er, err) = e
structure StRes (R : Jj) (e : List AcE × Int) : Type where
  s : StL
  err : Int
  L : Jj
  ok : s.In (L ++ R)
  eq : (s.er, err) = e
def AcRes.val {R : Jj} {e : AcE × Int} (x : AcRes R e) : Value := .tuple #[x.a.val, .int .i64 x.err]
def StRes.val {R : Jj} {e : List AcE × Int} (x : StRes R e) : Value := .tuple #[x.s.val, .int .i64 x.err]
theorem Zp (n : Nat) (row : Vg) : QW (J3 n row) = true := by cases row <;> rfl
theorem Jf3 {k v : BS} {l : List (BS × BS)} : (QH Prod.fst (k, v) l).filter (fun x => !decide (x.1 = k)) = qE Prod.fst k l := by
 rw [← Jht (kf := Prod.fst) (x := (k, v)) (l := l)]
 unfold qE
 refine List.filter_congr fun x _ => ?_
 by_cases h : x.1 = k <;> simp [h]
theorem Jf4 (a : AcL) : ∀ l : List AcL, (QH AcL.addr a l).map AcL.er = QH AcE.addr a.er (l.map AcL.er)
 | [] => rfl
 | x :: l => by
  rw [List.map_cons, QH, QH]
  show _ = if Op.bytesLess x.addr a.addr then _ else if x.addr = a.addr then _ else _
  split
  ·rw [List.map_cons, Jf4 a l]
  ·split <;> rfl
theorem Jkk (s : StL) : KN AcL.addr s.accts ↔ KN AcE.addr s.er := by
 unfold StL.er KN
 rw [List.pairwise_map]
 exact Iff.rfl
theorem wT {R : Jj} {a : AcL} (ha : a.In R) {k v : BS} (hk : k.length = 32) (hv : v.length = 32) (hlen : (Qm a.slots k v).length ≤ 9223372036854775807) {p : Pl} (hp : Seg L (Qm a.slots k v).length (jq (Qm a.slots k v)) p) : AcL.In (L ++ R) ⟨a.addr, a.nonce, a.bal, a.code, Qm a.slots k v, p⟩ :=
 ⟨ha.addr, ha.nonce, ha.bal, ha.code, hlen, hp.mono fun q hq => List.mem_append_left _ hq, fun x hx => by
  rcases wO hx with ⟨rfl, _⟩ | hx
  ·exact ⟨by show k.length ≤ _; rw [hk]; decide, by show v.length ≤ _; rw [hv]; decide⟩
  ·exact ha.slots x hx⟩
inductive EqF (P : Program) (xs ys : List Value) : List Field → Bool → Prop
  | nil : EqF P xs ys [] true
  | scal {f : Field} {fs : List Field} {a b : Value} {r : Bool} (hn : (f.name == "_") = false) (he : Wg P f.type = some false) (ga : W1 xs f.offset = some a) (gb : W1 ys f.offset = some b) (ha : Wq P f.type a = true) (hb : Wq P f.type b = true) (h : EqF P xs ys fs r) : EqF P xs ys (f :: fs) (eqS a b && r)
  | arr {f : Field} {fs : List Field} {n e : Nat} {va vb : List Value} {r : Bool} (hn : (f.name == "_") = false) (ht : jH P f.type = some (n, e)) (hz : KQ P f.type = some n) (he : Wg P e = some false) (hs : KQ P e = some 1) (ga : (xs.drop f.offset).take n = va) (gb : (ys.drop f.offset).take n = vb) (hla : va.length = n) (hlb : vb.length = n)
      (h1 : va.all (Wq P e) = true) (h2 : vb.all (Wq P e) = true) (h : EqF P xs ys fs r) : EqF P xs ys (f :: fs) (Vr va vb && r)
theorem zG {t n : Nat} {cs va : List Value} {e : Nat} (ht : jH P t = some (m, e)) (hz : KQ P t = some n) (ga : (cs.drop off).take n = va) (hl : va.length = n) (w : World) : (part t cs.toArray off).run P w = .ok (.agg va.toArray) w := by
 have e1 : (cs.toArray.extract off (off + n)) = va.toArray := by
  apply Array.toList_inj.1
  rw [← ga, List.extract_toArray, List.extract_eq_take_drop, Nat.add_sub_cancel_left]
 unfold part
 simp only [Sem.run_bind, jC (show Wg P t = some true from by unfold Wg; rw [vF ht]), Result.andThen, V8 hz, if_true, e1]
 rfl
theorem Jam  {xs : List Value} {d : Nat} : ∀ {fs : List Field} {b : Bool}, EqF P xs ys fs b → (Op.eqFields (d + 2) xs.toArray ys.toArray fs).run P w = .ok b w := by
 intro fs b h
 induction h with
 | nil => simp [Op.eqFields]
 | @scal f fs a b r hn he ga gb ha hb h ih =>
  have hn' : f.name ≠ "_" := by intro e; rw [e] at hn; simp at hn
  simp only [Op.eqFields, Sem.run_ite, if_pos hn', Sem.run_bind, ZM he (show xs.toArray[f.offset]? = some a from by rw [List.getElem?_toArray, ← Vd]; exact ga), ZM he (show ys.toArray[f.offset]? = some b from by rw [List.getElem?_toArray, ← Vd]; exact gb), Result.andThen, xG ha hb]
  cases hab : eqS a b
  ·simp
  ·simpa using ih
 | @arr f fs n e va vb r hn ht hz he hs ga gb hla hlb h1 h2 h ih =>
  have hn' : f.name ≠ "_" := by intro e; rw [e] at hn; simp at hn
  simp only [Op.eqFields, Sem.run_ite, if_pos hn', Sem.run_bind, zG ht hz ga hla, zG ht hz gb hlb, Result.andThen, q8 ht he hs hla hlb h1 h2]
  cases hab : Vr va vb
  ·simp
  ·simpa using ih
section
variable {c : Cx} {l : Ko} {L : Jj} {X : XP} {d : List Deferred}
variable {i : Nat} {t : TypeId} {ps : String} {af : Array Edge} {gd : Option (Nat × Bool)} {ty t2 : TypeId}
theorem Jh6  {xs : List Value} (hx : Kh l x = some (.agg xs.toArray)) (hy : Kh l y = some (.agg ys.toArray)) (ht : c.P.underlying t = some (.struct (c.P.fieldsOf t))) (hp : c.P.stoodInHeld t = false) (hgt : c.P.eqGuardType c.P.depth t = false) (hE : EqF c.P xs ys (c.P.fieldsOf t).toList b) :
  J9 c d l L X ⟨some i, .binOp .neq t x y t2, ty, ps, af, gd⟩ (.bool (!b)) := fun a' w hf _ => by
 have hr := run_equalIn_struct (P := c.P) w 9999 t xs.toArray ys.toArray ht hp
 rw [Jam hE] at hr
 have h0 := run_neq_struct (P := c.P) w t xs.toArray ys.toArray
 rw [hr] at h0
 simp only [execOp]
 rw [hf.eval hx, hf.eval hy]
 simp only [Sem.run_bind, run_eqGuard_agg w .neq t x y _ _ hgt, Result.andThen, h0]
 rfl
end
theorem Jh7 (a b : BS) : eqS (Jw a) (Jw b) = decide (a = b) := xF a b
theorem Jh8 (x y : BS × BS) : (eqS (Jw x.1) (Jw y.1) && (eqS (Jw x.2) (Jw y.2) && true)) = decide (x = y) := by
 rw [Jh7, Jh7]
 obtain ⟨a, b⟩ := x
 obtain ⟨c, d⟩ := y
 by_cases h1 : a = c <;> by_cases h2 : b = d <;> simp [h1, h2]
theorem Jnp  {ys : List α} (hl : xs.length = ys.length) (hi : xs.length ≤ i) (h : ∀ j, j < i → xs[j]? = ys[j]?) : xs = ys := by
 apply List.ext_getElem?
 intro j
 by_cases hj : j < i
 ·exact h j hj
 ·rw [List.getElem?_eq_none m0, List.getElem?_eq_none m0]
theorem Jnq  {ys : List α} {x y : α} (hx : xs[i]? = some x) (hy : ys[i]? = some y) (h : ¬ x = y) : ¬ xs = ys := by
 rintro rfl; rw [hx] at hy; exact h (Option.some.inj hy)
theorem eqU (a b : Nat) : eqS (uV a) (uV b) = decide (a = b) := by
 show ((a : Int) == (b : Int)) = _
 by_cases h : a = b
 ·subst h; simp
 ·have : ¬ (a : Int) = b := by omega
  simp [h, this]
theorem eqW (x y : W4) : Vr [uV x.a, uV x.b, uV x.c, uV x.d] [uV y.a, uV y.b, uV y.c, uV y.d] = decide (x = y) := by
 simp only [Vr, eqU]
 obtain ⟨a, b, c, d⟩ := x
 obtain ⟨a', b', c', d'⟩ := y
 by_cases h1 : a = a' <;> by_cases h2 : b = b' <;> by_cases h3 : c = c' <;> by_cases h4 : d = d' <;> simp [h1, h2, h3, h4]
theorem Jc8 {f : FuncId} {nx : ι → List Value → Jj → ι → Prop} (hf : P.funcs[f]? = some fn) (hb : fn.body = some code) (hlen : Nat.ble (caps.length + 1) fn.ntmps = true)
  (h : ∀ (q : Nat) (xids : List Nat) (w2 : World) (XI : ι → XP) (XF : XP),
   (∀ i v B i', nx i v B i' → ∀ xs w, (∀ k ∈ xs, k < w.heap.size ∧ (k ∈ xids ∨ w2.heap.size ≤ k)) → Keep ([] ++ xids) w2 w → Zf xs (XI i) w → vI B w → (∀ p ∈ B, p.1 ∉ xs ∧ p.1 ∉ xids) → YS P q v.toArray xs w (XI i') XF) →
   HC ⟨P, none, w2, [], xids, Rl, fn.ntmps⟩ [] (Vo 0 (.func (.yield q) #[] #[] :: caps)) [] (XI p0) code
    (bodyPostM (FW none) 0 P fn (fun e w' => (∃ v, e = .returned v) ∧ Keep ([] ++ xids) w2 w' ∧ ((∃ i xs, fin i ∧ XI i xs w') ∨ ∃ xs, XF xs w')))) : Jma P f caps Rl p0 nx fin :=
 fun q xids w2 XI XF hR hlt h0 hY =>
  QI ⟨P, none, w2, [], xids, Rl, fn.ntmps⟩ hf hb rfl rfl rfl hlen
   ⟨Keep.refl _ _, by simp, by simp, fun p hp => ⟨by simp, (hR p hp).1, (hR p hp).2⟩, hlt, xids, fun k hk => ⟨.inl hk, hlt k hk, by simp⟩, h0⟩ (h q xids w2 XI XF hY)
section
variable {c : Cx} {d : List Deferred} {l : Ko} {E : Jj} {X : XP} {S : Jj} {ops : Array Oper} {tb : jS} {rest : List Nat} {T : Jj → Act → Prop} {k i : Nat}
theorem KI
  (hk : W1 ops.toList k = some ⟨some i, .call ⟨.value f, args, at_⟩, ty, ps, af, gd⟩) (hg : Kp l ops ⟨some i, .call ⟨.value f, args, at_⟩, ty, ps, af, gd⟩ = some true) (hi : Nat.ble (i + 1) c.n = true) (hA : tb k = .grow (Qh x0 V LL)) (hca : KD l f args = some (g, vs)) (eg : Enters c.P g)
  (hp : PureT c.P g vs.toArray V [] LL Rl) (hR : ∀ p ∈ Rl, p ∈ S ∨ p ∈ c.R) (h : ∀ x, HB c d ((i, V x) :: l) (LL x ++ E) X S ops tb rest T) : HB c d l E X S ops tb (k :: rest) T :=
 xW (e := Qh x0 V LL) hk hg rfl hi hA (fun E' hE a w hf hs => X5 hf hca eg ((hp.run w (fun p hp => by cases hp) (fun p hp => (hR p hp).elim (fun h => (hs.own _ (hE p h)).2.2) hs.readR) List.Pairwise.nil (fun p _ q hq => by cases hq)).mono fun _ _ ⟨x, he, hk, h1, h2⟩ => ⟨V x, he, x, rfl, hk, (fun p hp => ⟨((h1 p hp).1).elim (fun h => by cases h) id, (h1 p hp).2⟩), h2⟩)) h
end
theorem Jss {l : Ko} (hp : L.Perm L') (h : HC c d l L' X code Q) : HC c d l L X code Q := fun a w hf hs => h a w hf (hs.perm hp)
theorem Jc9 (A B C : List α) : (A ++ (B ++ C)).Perm (B ++ (A ++ C)) := by
 rw [← List.append_assoc, ← List.append_assoc]
 exact List.perm_append_comm.append_right C
structure AcSt (R : Jj) : Type where
  a : AcL
  L : Jj
  ok : a.In (L ++ R)
structure StSt (R : Jj) : Type where
  s : StL
  L : Jj
  ok : s.In (L ++ R)
def AcSt.next {R : Jj} (s : AcSt R) {e : AcE × Int} (x : AcRes (s.L ++ R) e) : AcSt R := ⟨x.a, x.L ++ s.L, by rw [List.append_assoc]; exact x.ok⟩
def StSt.next {R : Jj} (s : StSt R) {L' : Jj} {e : List AcE × Int} (x : StRes (L' ++ (s.L ++ R)) e) : StSt R := ⟨x.s, x.L ++ (L' ++ s.L), by rw [List.append_assoc, List.append_assoc]; exact x.ok⟩
theorem map_drop (f : Nat → α) (h : i < 7) : (tab.map f).drop i = f i :: (tab.map f).drop (i + 1) := by
 have : i = 0 ∨ i = 1 ∨ i = 2 ∨ i = 3 ∨ i = 4 ∨ i = 5 ∨ i = 6 := by omega
 rcases this with rfl | rfl | rfl | rfl | rfl | rfl | rfl <;> rfl
def z32 : List UInt8 := List.replicate 32 0
def pairUp : List (List UInt8) → List (List UInt8)
 | a :: b :: l => WZ (a ++ b) :: pairUp l
 | _ => []
def QA (l : List (List UInt8)) (z : List UInt8) : List (List UInt8) := if l.length % 2 = 1 then l ++ [z] else l
def Wb : Nat → List (List UInt8) → List UInt8 → List UInt8
 | 0, l, z => l.headD z
 | k + 1, l, z => Wb k (pairUp (QA l z)) (WZ (z ++ z))
def zH : Nat → List (List UInt8) → List UInt8
 | 0, l => l.headD []
 | k + 1, l => zH k (pairUp l)
theorem WC : ∀ l : List (List UInt8), (pairUp l).length = l.length / 2
 | [] => by simp [pairUp]
 | [_] => by simp [pairUp]
 | a :: b :: l => by rw [pairUp, List.length_cons, WC l, List.length_cons, List.length_cons]; omega
theorem wU : ∀ {l m : List (List UInt8)}, l.length % 2 = 0 → pairUp (l ++ m) = pairUp l ++ pairUp m
 | [], m, _ => rfl
 | [_], _, h => by simp at h
 | a :: b :: l, m, h => by
  have h2 : l.length % 2 = 0 := by simp only [List.length_cons] at h; omega
  rw [List.cons_append, List.cons_append, pairUp, pairUp, wU h2, List.cons_append]
theorem wW (z : List UInt8) : ∀ m : Nat, pairUp (List.replicate (2 * m) z) = List.replicate m (WZ (z ++ z))
 | 0 => rfl
 | m + 1 => by rw [show 2 * (m + 1) = 2 * m + 1 + 1 by omega, List.replicate_succ, List.replicate_succ, pairUp, wW z m, List.replicate_succ]
theorem XE (l : List (List UInt8)) (z : List UInt8) : (QA l z).length = l.length + l.length % 2 := by
 unfold QA
 split
 ·rename_i h; rw [List.length_append, h]; rfl
 ·omega
theorem Jf5 {l : List (List UInt8)} {z : List UInt8} {n : Nat} (h : l.length ≤ 2 * n) : QA l z ++ List.replicate (2 * n - (QA l z).length) z = l ++ List.replicate (2 * n - l.length) z := by
 rw [XE]
 unfold QA
 split
 ·rename_i h1
  rw [List.append_assoc, h1]
  congr 1
  rw [show 2 * n - l.length = (2 * n - (l.length + 1)) + 1 by omega, List.replicate_succ]; rfl
 ·rename_i h1
  rw [show l.length % 2 = 0 by omega]; rfl
theorem Jh9 : ∀ (k : Nat) {l : List (List UInt8)} (z : List UInt8), l.length ≤ 2 ^ k → Wb k l z = zH k (l ++ List.replicate (2 ^ k - l.length) z)
 | 0, [], z, _ => rfl
 | 0, [a], z, _ => rfl
 | 0, _ :: _ :: _, z, h => by simp at h
 | k + 1, l, z, h => by
  rw [Nat.pow_succ, Nat.mul_comm] at h
  have h2 := XE l z
  have hp : (QA l z).length % 2 = 0 := by rw [h2]; omega
  rw [Wb, zH, Nat.pow_succ, Nat.mul_comm, ← Jf5 h, wU hp, show 2 * 2 ^ k - (QA l z).length = 2 * (2 ^ k - (QA l z).length / 2) by omega, wW]
  rw [Jh9 k (WZ (z ++ z)) (by rw [WC]; omega), WC]
theorem ju (l : List (List UInt8)) : ∀ x ∈ pairUp l, x.length = 32 := by
 induction l using pairUp.induct with
 | case1 a b l ih =>
  intro x hx
  rw [pairUp] at hx
  rcases List.mem_cons.1 hx with hx | hx
  ·rw [hx]; exact ZS _
  ·exact ih x hx
 | case2 l h =>
  intro x hx
  rw [pairUp.eq_2 l h] at hx
  cases hx
theorem Jkl (k : Nat) : ∀ {l : List (List UInt8)}, l.length = 2 ^ k → (∀ x ∈ l, x.length = 32) → (zH k l).length = 32 := by
 induction k with
 | zero =>
  intro l h1 h2
  match l, h1 with
  | [a], _ => exact h2 a List.mem_cons_self
 | succ k ih =>
  intro l h1 _
  rw [Nat.pow_succ, Nat.mul_comm] at h1
  rw [zH]
  exact ih (by rw [WC, h1]; omega) (ju l)
def lg (m : Nat) : Nat := if m ≤ 1 then 0 else Nat.log2 (m - 1) + 1
theorem Jia (m : Nat) : m ≤ 2 ^ lg m := by
 unfold lg
 split
 ·simpa using ‹m ≤ 1›
 ·have := @Nat.lt_log2_self (m - 1)
  omega
theorem Jvj (h : j < lg m) : 2 ^ j < m := by
 unfold lg at h
 split at h
 ·cases h
 ·have h1 : 2 ^ j ≤ 2 ^ Nat.log2 (m - 1) := Nat.pow_le_pow_right m7 m0
  have h2 := Nat.log2_self_le (n := m - 1) m0
  omega
theorem Jyq {d : Nat} (h : m ≤ 2 ^ d) : lg m ≤ d := by
 rcases Nat.lt_or_ge d (lg m) with h1 | h1
 ·have := Jvj h1; omega
 ·exact h1
def Jst (n : Nat) (l : List (List UInt8)) : List (List UInt8) := l ++ List.replicate (n - l.length) z32
def Vm (l : List (List UInt8)) (m : Nat) : List UInt8 := zH (lg m) (Jst (2 ^ lg m) l)
theorem YR {l : List (List UInt8)} (h : l.length ≤ m) : Wb (lg m) l z32 = Vm l m := Jh9 _ _ (Nat.le_trans h (Jia m))
theorem Jnr {n : Nat} {l : List (List UInt8)} (h : l.length ≤ n) : (Jst n l).length = n := by
 unfold Jst; rw [List.length_append, List.length_replicate]; omega
theorem Jns {n : Nat} {l : List (List UInt8)} (h : ∀ x ∈ l, x.length = 32) : ∀ x ∈ Jst n l, x.length = 32 := by
 intro x hx
 rcases List.mem_append.1 hx with hx | hx
 ·exact h x hx
 ·rw [(List.mem_replicate.1 hx).2]; rfl
theorem Wk {l : List (List UInt8)} (h : l.length ≤ m) (h2 : ∀ x ∈ l, x.length = 32) : (Vm l m).length = 32 := Jkl _ (Jnr (Nat.le_trans h (Jia m))) (Jns h2)
section
variable {c : Cx} {l : Ko} {L : Jj} {X : XP} {Q : Exit → Act → World → Prop} {d : List Deferred}
theorem Jsu (hL : L'.Sublist L) (h : HC c d l L' X code Q) : HC c d l L X code Q := fun a w hf hs => h a w hf (hs.weakL hL)
theorem ZU (hL : L'.Sublist L) (h : HQ c d l L' X K) : HQ c d l L X K := fun a w hf hs => h a w hf (hs.weakL hL)
def Jnt {σ : Type} (c : Cx) (DD : σ → List Deferred) (I : σ → Prop) (lI : σ → Ko) (LI : σ → Jj) (XI : σ → XP) (μ : σ → Nat) (s : σ) : Act → World → Prop := fun a w =>
 ∃ s', I s' ∧ μ s' < μ s ∧ Fr c.n (DD s') (lI s') a ∧ St c (LI s') (XI s') w
theorem Jnu (DD : σ → List Deferred) (I : σ → Prop) (lI : σ → Ko) (LI : σ → Jj) (XI : σ → XP) (μ : σ → Nat) (s0 : σ) (hd : DD s0 = d) (h0 : I s0) (hl : LookAll l (lI s0)) (hL : (LI s0).Sublist L) (hX : ∀ xs w, X xs w → XI s0 xs w)
  (hr : ∀ s, I s → HC c (DD s) (lI s) (LI s) (XI s) body (Exit.then (Jnt c DD I lI LI XI μ s) Q)) : HC c d l L X (.loop body) Q := fun a w hf hs => by
 have least : ∀ p : Nat → Prop, (∃ m, p m) → ∃ m, p m ∧ ∀ k, p k → m ≤ k := by
  intro p ⟨m, hm⟩
  induction m using Nat.strongRecOn with
  | _ m ih =>
   by_cases hx : ∃ k, k < m ∧ p k
   obtain ⟨k, hk, hp⟩ := hx; exact ih k hk hp
   exact Dh
 let p : Act → World → Nat → Prop := fun a w m => ∃ s, I s ∧ Fr c.n (DD s) (lI s) a ∧ St c (LI s) (XI s) w ∧ μ s = m
 have meas : ∃ f : Act → World → Nat, ∀ a w, (∃ m, p a w m) → p a w (f a w) ∧ ∀ k, p a w k → f a w ≤ k := by
  have h1 : ∀ a w, ∃ m, (∃ m, p a w m) → p a w m ∧ ∀ k, p a w k → m ≤ k := fun a w => by
   by_cases hx : ∃ m, p a w m
   obtain ⟨m, hm⟩ := least _ hx; exact ⟨m, fun _ => hm⟩
   exact ⟨0, fun hy => absurd hy hx⟩
  exact HV
 obtain ⟨f, hfm⟩ := meas
 refine wpIn_loop (fun a w => ∃ m, p a w m) f ⟨μ s0, s0, h0, hd ▸ hf.weak hl.get, (hs.weakL hL).weakX hX, rfl⟩ ?_
 intro a w hp
 obtain ⟨⟨s, h1, h2, h3, h4⟩, _⟩ := hfm a w hp
 refine wpIn_mono (hr s h1 a w h2 h3) ?_
 intro e a' w' hq
 cases e with
 | normal =>
  exact gX
 | _ => exact hq
theorem zI {DD : σ → List Deferred} {s : σ} (s' : σ) (hd : DD s' = d) (h1 : I s') (h2 : μ s' < μ s) (h3 : LookAll l (lI s')) (h4 : (LI s').Sublist L) (h5 : ∀ xs w, X xs w → XI s' xs w) :
  HQ c d l L X (Jnt c DD I lI LI XI μ s) := fun _ _ hf hs => ⟨s', h1, h2, hd ▸ hf.weak h3.get, (hs.weakL h4).weakX h5⟩
def Xg (Ds : List Nat) : Jj := Ds.map fun D => (D, .deferred (some []))
theorem wX {fn : Func} {R : Ending → World → Prop} {P : Program} : ∀ (Ds : List Nat) (h : HQ c d l L X (bodyPostM (FW none) 0 P fn R .ret)), HQ c (Ds.map Vf ++ d) l (Xg Ds ++ L) X (bodyPostM (FW none) 0 P fn R .ret)
 | [], h => h
 | D :: Ds, h => QQ (k := 0) rfl rfl (ZU (List.sublist_cons_self _ _) (wX Ds h))
end
section
variable {c : Cx} {l : Ko} {L : Jj} {X : XP} {Q : Exit → Act → World → Prop} {d : List Deferred}
variable {ops : Array Oper} {rest : List Oper} {i : Nat} {v : Value} {t u : TypeId} {ps : String} {af : Array Edge} {gd : Option (Nat × Bool)} {ty : TypeId}
theorem Jyr (s : List UInt8) : (bs s).size = s.length := by simp [bs, ByteArray.size]
theorem vh (s : List UInt8) : Lib.strCells (bs s) = s.map bV := rfl
theorem Jf6  {s2 : List UInt8}
  (hp : L.Perm (JL e (s.map bV) row ++ L0)) (hg : Kp l ops ⟨some i, .call ⟨.builtin .append, #[x, y], #[t, u]⟩, ty, ps, af, gd⟩ = some true) (hi : Nat.ble (i + 1) c.n = true)
  (hx : Kh l x = some (J3 s.length row)) (hy : Kh l y = some (.string (bs s2))) (ht : Ks c.P t = some e) (hu : wt c.P u = true) (hz : QL c.P e = some (.int .u8 0)) (hs : KQ c.P e = some 1) (hb : Jb6 c.P e = some 1)
  (ho : rowOk 1 s.length (s.map bV) row) (ho2 : s = [] → row = none) (hlen : s.length + s2.length ≤ 140737488355328)
  (h : ∀ row', rowOk 1 (s ++ s2).length ((s ++ s2).map bV) row' → (s ++ s2 = [] → row' = none) → HL c d ((i, J3 (s ++ s2).length row') :: l) (JL e ((s ++ s2).map bV) row' ++ L0) X ops rest Q) :
  HL c d l L X ops (⟨some i, .call ⟨.builtin .append, #[x, y], #[t, u]⟩, ty, ps, af, gd⟩ :: rest) Q := by
 obtain ⟨inf, hinf, hz', hs', hb'⟩ := vH hz hs hb
 refine JY hp ?_
 refine Wo (α := { r' : Vg // rowOk 1 (s ++ s2).length ((s ++ s2).map bV) r' ∧ (s ++ s2 = [] → r' = none) }) (V := fun p => J3 (s ++ s2).length p.1) (L' := fun p => JL e ((s ++ s2).map bV) p.1 ++ L0) (X' := fun _ => X) hg rfl rfl hi (fun a w hf hst => ?_) (fun p => h p.1 p.2.1 p.2.2)
 have exec : ∀ r w', (Builtin.append_ #[t, u] ty #[J3 s.length row, .string (bs s2)]).run c.P w = .ok r w' →
   (execOp a.eval ⟨some i, .call ⟨.builtin .append, #[x, y], #[t, u]⟩, ty, ps, af, gd⟩).run c.P w = .ok (.value r) w' := fun r w' hr => by
  have ex := hf.eval hx
  have ey := hf.eval hy
  simp [execOp, resolve, Sem.run_bind, ex, ey, Result.andThen, invoke, builtin, hr]
 have hsz := Jyr s2
 have hsl : (s ++ s2).length = s.length + s2.length := List.length_append
 have hml : ((s ++ s2).map bV).length = s.length + s2.length := by rw [List.length_map, hsl]
 have hz1 : (Value.int IntKind.u8 0).cells.size = 1 := rfl
 have zlen : ∀ n, (Builtin.zeroCells (Value.int IntKind.u8 0).cells n).toList.length = n := fun n => by rw [Array.length_toList, size_zeroCells, hz1, Nat.mul_one]
 cases row with
 | none =>
  obtain ⟨h1, h2⟩ := ho
  have hs0 : s = [] := List.eq_nil_of_length_eq_zero h1
  subst hs0
  cases s2 with
  | nil =>
   refine ⟨⟨none, ⟨rfl, rfl⟩, fun _ => rfl⟩, w, exec _ _ ?_, hst⟩
   have hf2 := Lib.run_firstCells_string (P := c.P) w 1 (bs [])
   have h0 : (bs []).size = 0 := rfl
   rw [h0] at hf2
   simp [Builtin.append_, J3, run_underlying (Ki ht), run_underlying (Vq hu), sizeOf, typeInfo, hinf, hs', Builtin.lenOf, h0, hf2]
  | cons b s2 =>
   have hr := run_append_nil_string (P := c.P) w t u ty e inf (.int .u8 0) (Ki ht) (Vq hu) hinf hz' (bs (b :: s2)) (by rw [hsz]; simp) (by rw [hsz]; simp at hlen ⊢; omega) (by rw [hsz, hb']; simp at hlen ⊢; omega)
   rw [hsz] at hr
   have hge := grownCap_ge w (b :: s2).length 0 e
   refine ⟨⟨some (w.heap.size, grownCap w (b :: s2).length 0 e, (Builtin.zeroCells (Value.int IntKind.u8 0).cells (grownCap w (b :: s2).length 0 e - (b :: s2).length)).toList), ⟨?_, ?_⟩, fun h0 => by simp at h0⟩, _, exec _ _ hr, ?_⟩
   ·simp
   ·rw [zlen]; simp only [List.nil_append]; omega
   ·have e1 : ((bs (b :: s2)).data.map (fun b => Value.int .u8 b.toNat) ++ Builtin.zeroCells (Value.int IntKind.u8 0).cells (grownCap w (b :: s2).length 0 e - (b :: s2).length)) = ((([] ++ (b :: s2)).map bV) ++ (Builtin.zeroCells (Value.int IntKind.u8 0).cells (grownCap w (b :: s2).length 0 e - (b :: s2).length)).toList).toArray := by
     apply Array.toList_inj.1; simp [bs, bV]
    rw [e1]
    exact hst.drew.alloc _
 | some q =>
  obtain ⟨r, cap, sp⟩ := q
  obtain ⟨h1, h2⟩ := ho
  have hget : w.heap[r]? = some (.cells (s.map bV ++ sp).toArray e (0, 0)) := hst.get (k := 0) rfl
  have hne : s ++ s2 ≠ [] := fun h0 => by have := ho2 (List.append_eq_nil_iff.1 h0).1; cases this
  by_cases hroom : s.length + s2.length ≤ cap
  ·have hr := Lib.run_append_room_string (P := c.P) w t u ty e inf (Ki ht) (Vq hu) hinf hs' r s.length cap _ hget (bs s2) (by rw [hsz]; exact hroom) (by rw [hsz]; simp only [List.size_toArray, List.length_append, List.length_map]; omega)
   rw [hsz, vh] at hr
   have e1 : ((s.map bV ++ sp).toArray.toList.take s.length ++ s2.map bV ++ (s.map bV ++ sp).toArray.toList.drop (s.length + s2.length)) = (s ++ s2).map bV ++ sp.drop s2.length := by
    simp only [List.toList_toArray]
    rw [List.take_left' mf, List.map_append, ← List.drop_drop, List.drop_left' mf]
   rw [e1] at hr
   have hV : J3 (s ++ s2).length (some (r, cap, sp.drop s2.length)) = .slice (some ⟨r, 0, none⟩) (s.length + s2.length) cap := by rw [J3, hsl]
   refine ⟨⟨some (r, cap, sp.drop s2.length), ⟨?_, ?_⟩, fun h0 => absurd h0 hne⟩, _, exec _ _ (hr.trans (congrArg (fun v => Result.ok v _) hV.symm)), ?_⟩
   ·rw [hml, hsl]; omega
   ·rw [List.length_drop, hsl]; omega
   ·exact hst.set (k := 0) rfl (Keep.setRow r _) (setRow_heap _ _ _ _ _ _ hget)
  ·have holds : ∀ (j : Nat) (x : Value), (s.map bV)[j]? = some x → w.cell? ((⟨r, 0, none⟩ : Addr).add j) = some x := X0 hget (n := s.length) mf
   have hr := Lib.run_append_grow_string (P := c.P) w t u ty e inf (.int .u8 0) (Ki ht) (Vq hu) hinf hz' ⟨r, 0, none⟩ s.length cap (s.map bV) (by rw [hs']; simp) holds (bs s2) (by rw [hsz]; omega) (by rw [hsz]; omega) (by rw [hsz, hb']; exact growslice_fits m0 m0)
   rw [hsz, vh] at hr
   have hge := grownCap_ge w (s.length + s2.length) cap e
   refine ⟨⟨some (w.heap.size, grownCap w (s.length + s2.length) cap e, (Builtin.zeroCells (Value.int IntKind.u8 0).cells (grownCap w (s.length + s2.length) cap e - (s.length + s2.length))).toList), ⟨?_, ?_⟩, fun h0 => absurd h0 hne⟩, _, exec _ _ (hr.trans (congrArg (fun v => Result.ok v _) (show _ = J3 (s ++ s2).length (some (w.heap.size, grownCap w (s.length + s2.length) cap e, (Builtin.zeroCells (Value.int IntKind.u8 0).cells (grownCap w (s.length + s2.length) cap e - (s.length + s2.length))).toList)) from by rw [J3, hsl]))), ?_⟩
   ·rw [hml, hsl]; omega
   ·rw [zlen, hsl]; omega
   ·have e1 : ((s.map bV).toArray ++ (s2.map bV).toArray ++ Builtin.zeroCells (Value.int IntKind.u8 0).cells (grownCap w (s.length + s2.length) cap e - (s.length + s2.length))) = ((s ++ s2).map bV ++ (Builtin.zeroCells (Value.int IntKind.u8 0).cells (grownCap w (s.length + s2.length) cap e - (s.length + s2.length))).toList).toArray := by
     apply Array.toList_inj.1; simp
    rw [e1]
    exact (hst.drew.weakL (List.sublist_cons_self _ _)).alloc _
theorem Keep.freeze (r n : Nat) : Keep [r] w (w.freeze ⟨r, 0, none⟩ n) := by
 unfold World.freeze
 split
 ·exact Keep.refl _ _
 ·exact ⟨rfl, rfl, rfl, by simp, fun k _ hn => by
   simp only [Array.getElem?_modify]
   rw [if_neg (by intro e; exact hn (by simp [e]))]⟩
theorem Jda {w : World} {r n : Nat} {cs : Array Value} {e : TypeId} {fr : Nat × Nat} (h : w.heap[r]? = some (.cells cs e fr)) : ∃ fr', (w.freeze ⟨r, 0, none⟩ n).heap[r]? = some (.cells cs e fr') := by
 unfold World.freeze
 split
 ·exact ⟨fr, h⟩
 ·obtain ⟨lo, hi⟩ := fr
  obtain ⟨hlt, he⟩ := Array.getElem?_eq_some_iff.1 h
  refine ⟨if lo == hi then (0, 0 + n) else (min lo 0, max hi (0 + n)), ?_⟩
  show (w.heap.modify r _)[r]? = _
  rw [Array.getElem?_eq_getElem (by rw [Array.size_modify]; exact hlt), Array.getElem_modify_self, he]
def Jdb : Vg → Value
 | none => .pointer none
 | some (r, _, _) => .pointer (some ⟨r, 0, none⟩)
theorem Jan {n : Nat} (hx : Kh l x = some (J3 n row)) (hc : ∀ r cap sp, row = some (r, cap, sp) → cap ≠ 0) :
  J9 c d l L X ⟨some i, .call ⟨.builtin .unsafeSliceData, #[x], #[t]⟩, ty, ps, af, gd⟩ (Jdb row) := fun a w hf _ => by
 have ex := hf.eval hx
 cases row with
 | none =>
  have hr := Lib.run_unsafeSliceData_nil (P := c.P) w #[t] ty 0 0
  simp only [J3] at ex
  simp [execOp, resolve, Sem.run_bind, ex, Result.andThen, invoke, builtin, hr, Jdb]
 | some q =>
  obtain ⟨r, cap, sp⟩ := q
  have hr := Lib.run_unsafeSliceData_row (P := c.P) w #[t] ty ⟨r, 0, none⟩ n cap (hc r cap sp rfl)
  simp only [J3] at ex
  simp [execOp, resolve, Sem.run_bind, ex, Result.andThen, invoke, builtin, hr, Jdb]
def vi (P : Program) (t : TypeId) : Option TypeId := match P.underlying t with | some (.pointer e) => some e | _ => none
theorem ZV (h : vi P t = some e) : P.underlying t = some (.pointer e) := by
 unfold vi at h; split at h <;> simp_all
theorem vz  {pt it : TypeId}
  (hp : L.Perm (JL e (s.map bV) row ++ L0)) (hg : Kp l ops ⟨some i, .call ⟨.builtin .unsafeString, #[x, y], #[pt, it]⟩, ty, ps, af, gd⟩ = some true) (hi : Nat.ble (i + 1) c.n = true)
  (hx : Kh l x = some (Jdb row)) (hy : Kh l y = some (.int .i64 (s.length : Int))) (ht : vi c.P pt = some e) (hc : c.P.cellsOf e = 1)
  (ho : rowOk 1 s.length (s.map bV) row) (ho2 : s = [] → row = none) (hlen : s.length ≤ 9223372036854775807)
  (h : HL c d ((i, .string (bs s)) :: l) L0 X ops rest Q) : HL c d l L X ops (⟨some i, .call ⟨.builtin .unsafeString, #[x, y], #[pt, it]⟩, ty, ps, af, gd⟩ :: rest) Q := by
 refine JY hp ?_
 refine Wo (α := Unit) (V := fun _ => .string (bs s)) (L' := fun _ => L0) (X' := fun _ => X) hg rfl rfl hi (fun a w hf hst => ?_) (fun _ => h)
 have exec : ∀ r w', (Builtin.unsafeString_ #[pt, it] ty #[Jdb row, .int .i64 s.length]).run c.P w = .ok r w' →
   (execOp a.eval ⟨some i, .call ⟨.builtin .unsafeString, #[x, y], #[pt, it]⟩, ty, ps, af, gd⟩).run c.P w = .ok (.value r) w' := fun r w' hr => by
  have ex := hf.eval hx
  have ey := hf.eval hy
  simp [execOp, resolve, Sem.run_bind, ex, ey, Result.andThen, invoke, builtin, hr]
 cases row with
 | none =>
  obtain ⟨h1, _⟩ := ho
  have hs0 : s = [] := List.eq_nil_of_length_eq_zero h1
  subst hs0
  exact ⟨(), w, exec _ _ (Lib.run_unsafeString_none (P := c.P) w pt it ty none), hst⟩
 | some q =>
  obtain ⟨r, cap, sp⟩ := q
  obtain ⟨h1, h2⟩ := ho
  have hget : w.heap[r]? = some (.cells (s.map bV ++ sp).toArray e (0, 0)) := hst.get (k := 0) rfl
  have hne : s ≠ [] := fun h0 => by have := ho2 h0; cases this
  have hcell : ∀ (j : Nat) (x : UInt8), s[j]? = some x → w.cell? ((⟨r, 0, none⟩ : Addr).add j) = some (.int .u8 x.toNat) := fun j x hx => by
   rw [jJ, Wn hget]
   rw [Nat.zero_add, ← Array.getElem?_toList]
   simp only [List.toList_toArray]
   rw [List.getElem?_append_left (by rw [List.length_map]; exact (List.getElem?_eq_some_iff.1 hx).1), List.getElem?_map, hx]; rfl
  have hr := Lib.run_unsafeString_row (P := c.P) w pt it ty e (ZV ht) hc r (s.map bV ++ sp).length (by simp [World.shape?, hget]) s hne mf hlen hcell
  obtain ⟨fr', hfr⟩ := Jda (n := s.length) hget
  exact ⟨(), _, exec _ _ hr, (hst.set (k := 0) rfl (Keep.freeze r s.length) hfr).weakL (List.sublist_cons_self _ _)⟩
end
section
variable {c : Cx} {l : Ko} {L : Jj} {X : XP} {d : List Deferred}
variable {i : Nat} {v : Value} {t u : TypeId} {ps : String} {af : Array Edge} {gd : Option (Nat × Bool)} {ty t2 : TypeId}
def Jsv (P : Program) (t : TypeId) : Bool := match P.underlying t with | some .unsafePointer => true | _ => false
theorem Jib (h : Jsv P t = true) : P.underlying t = some .unsafePointer := by
 unfold Jsv at h; split at h <;> simp_all
theorem jZ (h : KQ P t = some sz) : ∃ inf, P.info? t = some inf ∧ inf.size = sz := by
 unfold KQ at h
 cases hq : P.info? t with
 | none => simp [hq] at h
 | some inf => simp only [hq, Option.some.injEq] at h; exact ⟨inf, rfl, h⟩
theorem Jf7  {e : Nat} {dst : TypeId} (hx : Kh l x = some (.pointer (some ⟨r, 0, none⟩))) (hk : known c L r (.cells cs e fr)) (hs : vi c.P src = some tt) (hd : Jsv c.P dst = true) (ht : KQ c.P tt = some sz) (h0 : 0 < sz) (hc : 0 < cs.size) :
  J9 c d l L X ⟨some i, .convert src dst x, ty, ps, af, gd⟩ (.pointer (some ⟨r, 0, none⟩)) := fun a w hf hst => by
 obtain ⟨inf, hinf, hsz⟩ := jZ ht
 have h := hst.known hk
 simp only [execOp]
 rw [hf.eval hx]
 have := Lib.run_to_unsafe (P := c.P) w (e := e) (cells := cs.size) ⟨r, 0, none⟩ (ZV hs) (Jib hd) hinf m0 (by simp [World.shape?, h]) hc
 simp only [Sem.run_bind, this]; rfl
theorem Jao  {e : Nat} {dst : TypeId} (hx : Kh l x = some (.pointer (some ⟨r, 0, none⟩))) (hk : known c L r (.cells cs e fr)) (hs : Jsv c.P src = true) (hd : vi c.P dst = some tt) (ht : KQ c.P tt = some sz) (hl : liesAt c.P c.P.depth e (cs.size / c.P.cellsOf e) 0 tt 1 = true) :
  J9 c d l L X ⟨some i, .convert src dst x, ty, ps, af, gd⟩ (.pointer (some ⟨r, 0, none⟩)) := fun a w hf hst => by
 obtain ⟨inf, hinf, hsz⟩ := jZ ht
 have h := hst.known hk
 simp only [execOp]
 rw [hf.eval hx]
 have := Lib.run_from_unsafe (P := c.P) w (e := e) (cells := cs.size) ⟨r, 0, none⟩ (Jib hs) (ZV hd) hinf (by simp [World.shape?, h]) hl
 simp only [Sem.run_bind, this]; rfl
theorem Jf8 (hf : Kh l f = some (.func (.func g) #[] #[])) (hx : Kh l x = some v)
  (hF : c.P.funcs[g]? = some fn) (hn1 : (fn.name == "runtime.NumGoroutine") = false) (hb : fn.body.isNone = true) (hn2 : Extern.findNext fn = none) (he : Extern.find fn = some Extern.AbiNoEscape.same) :
  J9 c d l L X ⟨some i, .call ⟨.value f, #[x], at_⟩, ty, ps, af, gd⟩ v := fun a w hfr hst => by
 have ef := hfr.eval hf
 have ex := hfr.eval hx
 have hcf : (callFunc g #[v]).run c.P w = .ok (.value v) w := by
  rw [run_callFunc_extern hF hn1 hb hn2 he, Lib.run_noEscape]; rfl
 simp [execOp, resolve, Sem.run_bind, ef, ex, Deferred.ofValue, Result.andThen, invoke, hcf]
theorem Jnv {q : Addr} (hx : Kh l x = some (.pointer (some q))) (hy : Kh l y = some (.pointer (some q))) (ht : vi c.P t = some tt) (hs : KQ c.P tt = some sz) :
  J9 c d l L X ⟨some i, .binOp .neq t x y t2, ty, ps, af, gd⟩ (.bool false) := fun a w hf _ => by
 obtain ⟨inf, hinf, hsz⟩ := jZ hs
 simp only [execOp]
 rw [hf.eval hx, hf.eval hy]
 have := Lib.run_neq_ptr_same (P := c.P) w q (ZV ht) hinf
 simp [eqGuard, Sem.run_bind, this, Result.andThen]
theorem Jnw (hx : Kh l x = some (.pointer none)) (hy : Kh l y = some (.pointer none)) (ht : vi c.P t = some tt) (hs : KQ c.P tt = some sz) :
  J9 c d l L X ⟨some i, .binOp .eql t x y t2, ty, ps, af, gd⟩ (.bool true) := fun a w hf _ => by
 obtain ⟨inf, hinf, hsz⟩ := jZ hs
 have h : ∀ d : Nat, (Op.equalIn (d + 1) t (.pointer none) (.pointer none)).run c.P w = .ok true w := fun d => by
  simp [Op.equalIn, run_underlying (ZV ht), sizeOf, typeInfo, hinf]
 simp only [execOp]
 rw [hf.eval hx, hf.eval hy]
 simp only [binOp]
 simp [eqGuard, Op.equal, Op.maxDepth, h 9999, Sem.run_bind, Result.andThen]
theorem Jnx {q : Addr} (hx : Kh l x = some (.pointer (some q))) (hy : Kh l y = some (.pointer none)) (ht : vi c.P t = some tt) (hs : KQ c.P tt = some sz) :
  J9 c d l L X ⟨some i, .binOp .eql t x y t2, ty, ps, af, gd⟩ (.bool false) := fun a w hf _ => by
 obtain ⟨inf, hinf, hsz⟩ := jZ hs
 have h : ∀ d : Nat, (Op.equalIn (d + 1) t (.pointer (some q)) (.pointer none)).run c.P w = .ok false w := fun d => by
  simp [Op.equalIn, run_underlying (ZV ht), sizeOf, typeInfo, hinf]
 simp only [execOp]
 rw [hf.eval hx, hf.eval hy]
 simp only [binOp]
 simp [eqGuard, Op.equal, Op.maxDepth, h 9999, Sem.run_bind, Result.andThen]
end
def wY (v : Value) : List PanicEntry := [{ v, recovered := false }]
structure PureX {α : Type} (P : Program) (f : FuncId) (args : Array Value) (ok : Prop) (bad : Value → Prop) (V : α → Value) (LL : α → Jj) (Rl : Jj) : Prop where
  run : ∀ w, vI Rl w → Calls P f args w fun e w' => (ok ∧ ∃ x, e = .returned (V x) ∧ Keep [] w w' ∧ (∀ p ∈ LL x, w.heap.size ≤ p.1 ∧ w'.heap[p.1]? = some p.2) ∧ (LL x).Pairwise fun p q => p.1 ≠ q.1) ∨ (∃ v, bad v ∧ e = .panicked (wY v) ∧ Keep [] w w')
def cxX (P : Program) (w : World) (Rl : Jj) (n : Nat) : Cx := ⟨P, none, w, [], [], Rl, n⟩
theorem St.startX {n : Nat} (hR : vI Rl w) : St (cxX P w Rl n) [] (fun _ _ => True) w :=
 ⟨Keep.refl _ _, by simp, by simp, fun p hp => ⟨by simp [cxX], by simp [cxX], hR p hp⟩, by simp [cxX], ⟨[], by simp, fun _ _ => trivial⟩⟩
def Jny {α : Type} (c : Cx) (ok : Prop) (bad : Value → Prop) (V : α → Value) (LL : α → Jj) : Ending → World → Prop := fun e w' =>
 (ok ∧ ∃ x, e = .returned (V x) ∧ St c (LL x) (fun _ _ => True) w') ∨ (∃ v, bad v ∧ e = .panicked (wY v) ∧ Keep [] c.w1 w')
theorem XY {f : FuncId} {ok : Prop} {bad : Value → Prop} (hf : P.funcs[f]? = some fn) (hb : fn.body = some code) (hlen : Nat.ble vs.length fn.ntmps = true)
  (h : ∀ w, HC (cxX P w Rl fn.ntmps) [] (Vo 0 vs) [] (fun _ _ => True) code (bodyPostM (FW none) 0 P fn (Jny (cxX P w Rl fn.ntmps) ok bad V LL))) : PureX P f vs.toArray ok bad V LL Rl := ⟨fun w hR =>
 (QI (cxX P w Rl fn.ntmps) hf hb rfl rfl rfl hlen (St.startX hR) (h w)).mono fun _ _ h => h.imp
  (fun ⟨ho, x, he, hs⟩ => ⟨ho, x, he, by have := hs.keep; simpa [cxX] using this, fun p hp => by have := (hs.own p hp); simp only [cxX, List.not_mem_nil, false_or] at this; exact ⟨this.1, this.2.2⟩, hs.distinct⟩)
  (fun ⟨v, hv, he, hk⟩ => ⟨v, hv, he, hk⟩)⟩
theorem PureX.mono {f : FuncId} {args : Array Value} {ok ok' : Prop} {bad bad' : Value → Prop} (h : PureX P f args ok bad V LL Rl) (h1 : ok → ok') (h2 : ∀ v, bad v → bad' v) : PureX P f args ok' bad' V LL Rl :=
 ⟨fun w hR => (h.run w hR).mono fun _ _ h => h.imp (fun ⟨a, b⟩ => ⟨h1 a, b⟩) (fun ⟨v, a, b⟩ => ⟨v, h2 v a, b⟩)⟩
theorem PureX.map {β : Type} {f : FuncId} {args : Array Value} {ok : Prop} {bad : Value → Prop} {V' : β → Value} {LL' : β → Jj} (h : PureX P f args ok bad V LL Rl) (g : α → β) (hv : ∀ x, V x = V' (g x)) (hl : ∀ x, (LL' (g x)).Sublist (LL x)) : PureX P f args ok bad V' LL' Rl :=
 ⟨fun w hR => (h.run w hR).mono fun _ _ h => h.imp (fun ⟨a, x, he, hk, h1, h2⟩ => ⟨a, g x, he.trans (by rw [hv]), hk, fun p hp => h1 p ((hl x).subset hp), h2.sublist (hl x)⟩) id⟩
theorem PureX.toT {f : FuncId} {args : Array Value} {ok : Prop} {bad : Value → Prop} (h : PureX P f args ok bad V LL Rl) (hb : ∀ v, ¬ bad v) : PureT P f args V [] LL Rl :=
 ⟨fun w _ hR _ _ => (h.run w hR).mono fun _ _ h => h.elim (fun ⟨_, x, he, hk, h1, h2⟩ => ⟨x, he, hk, fun p hp => ⟨.inr (h1 p hp).1, (h1 p hp).2⟩, h2⟩) (fun ⟨v, hv, _⟩ => absurd hv (hb v))⟩
section
variable {c : Cx} {l : Ko} {L : Jj} {X : XP} {Q : Exit → Act → World → Prop} {K : Act → World → Prop} {d : List Deferred}
variable {ops : Array Oper} {rest : List Oper} {i : Nat} {v : Value} {t : TypeId} {ps : String} {af : Array Edge} {gd : Option (Nat × Bool)} {ty : TypeId}
theorem KZ {ok : Prop} {bad : Value → Prop}
  (hg : Kp l ops ⟨some i, .call ⟨.value f, args, at_⟩, ty, ps, af, gd⟩ = some true) (hi : Nat.ble (i + 1) c.n = true) (hca : KD l f args = some (g, vs)) (eg : Enters c.P g)
  (hpt : PureX c.P g vs.toArray ok bad V LL Rl) (hR : ∀ p ∈ Rl, known c L p.1 p.2) (h : ok → ∀ x, HL c d ((i, V x) :: l) (LL x ++ L) X ops rest Q) (hp : ∀ v, bad v → HQ c d l L X (Q (.panic (wY v)))) :
  HL c d l L X ops (⟨some i, .call ⟨.value f, args, at_⟩, ty, ps, af, gd⟩ :: rest) Q := fun a w hf hs => by
 refine QT (JD hf hg) rfl ?_
 rw [VJ hf hca c.P w _ rfl eg, Oper.uponIn_enter]
 refine ⟨fun hdep => nH, ?_⟩
 have hc := callsIn_wide (n := 0) |>.2 (hpt.run w fun p hp => hs.known (hR p hp))
 refine CallsIn.mono mM ?_
 rintro e w' (⟨ho, x, rfl, hk, h1, h2⟩ | ⟨v, hv, rfl, hk⟩)
 ·exact h ho x _ w' (hf.put (Nat.le_of_ble_eq_true hi)) (hs.freshs hk h1 h2)
 ·exact hp v hv a w' hf (hs.more hk)
theorem Jnz (hg : Kp l ops ⟨dst, .panic x, ty, ps, af, gd⟩ = some true) (hx : Kh l x = some (.iface tt v)) (h : HQ c d l L X (Q (.panic (wY (.iface tt v))))) : HL c d l L X ops (⟨dst, .panic x, ty, ps, af, gd⟩ :: rest) Q := fun a w hf hs => by
 refine QT (JD hf hg) rfl ?_
 have hrun : (execOp a.eval ⟨dst, .panic x, ty, ps, af, gd⟩).run c.P w = .halt (.panic (.iface tt v)) w := by
  have e : (Instr.panic (.iface tt v)).run c.P w = .halt (.panic (.iface tt v)) w := rfl
  simp only [execOp, hf.eval hx]
  simp [Sem.run_bind, e, Result.andThen]
 rw [hrun, Oper.uponIn_panic]
 exact h a w hf hs
theorem Jn0 (h : HQ c d l L X (Q (.panic ch))) : HQ c d l L X (Exit.then K Q (.panic ch)) := h
theorem Jkm (h : HQ c d l L X (Q (.panic ch))) : HQ c d l L X (Exit.inBlock id Q (.panic ch)) := h
theorem Jid (h : ∀ w, St c L X w → R (.panicked ch) w) : HQ c [] l L X (bodyPostM (FW none) 0 P fn R (.panic ch)) := fun a w hf hs => by
 show LeavesInM _ _ _ _ _ _ _ _ _
 rw [hf.defers]
 exact h w hs
theorem Qs {ok : Prop} {bad : Value → Prop} (hc1 : c.ids = []) (hc2 : c.xids = []) (h : bad v) : HQ c [] l L X (bodyPostM (FW none) 0 P fn (Jny c ok bad V LL) (.panic (wY v))) :=
 Jid fun w hs => .inr ⟨v, h, rfl, by have := hs.keep; rw [hc1, hc2] at this; exact this⟩
theorem Jdc {D k : Nat} (hk : L[k]? = some (D, .deferred (some []))) (hL : L.set k (D, .deferred none) = L')
  (h : HQ c d l L' X (bodyPostM (FW none) 0 P fn R (.panic ch))) : HQ c (Vf D :: d) l L X (bodyPostM (FW none) 0 P fn R (.panic ch)) := fun a w hf hs => by
 subst hL
 have hget := hs.get hk
 have hs' := hs.set hk (Keep.putObj D (.deferred none)) (World.putObj_heap_same (Jx hget))
 have h1 := h { tmps := a.tmps, defers := d } _ ⟨hf.size, rfl, hf.slots⟩ hs'
 show LeavesInM _ _ _ _ _ _ _ _ _
 rw [hf.defers]
 exact ⟨by simp, .inl ⟨D, _, rfl, run_takeDeferred hget, h1⟩⟩
end
def jv (P : Program) (l : Nat) (R : Ending → World → Prop) : Exit → Act → World → Prop
 | .panic ch, a, w => a.defers = [] ∧ R (.panicked ch) w
 | e, a, w => roundPost P l R e a w
theorem qG {n : Nat} {l : Nat} {f : FuncId} {tmps : Array Value} (hF : F.fn f) (hfn : P.funcs[f]? = some fn)
  (h : assign.wpIn (F.inRound l) n P (Exit.then (fun a₁ w₁ => ∃ w₂, (Instr.beginRound l).run P w₁ = .ok () w₂ ∧ body.wpIn (F.inRound l) n P (jv P l R) a₁ w₂) (fun _ _ _ => False))
   { tmps := tmps, defers := [] } w) :
  RoundIn F n P l f tmps assign body w R := by
 refine ⟨hF, fun c cs hr => ?_⟩
 let b : Frame := { (default : Frame) with fn := f, kind := .normal, roundOf := some l }
 have hb0 : Frame.round l f tmps assign body .normal = b.atR { tmps := tmps, defers := [] } [.code assign, .beginRound, .code body] := by
  simp [Frame.round, Frame.atR, b]
 have hr' : (F.inRound l).room ((c :: cs).length + 1 + n) := hr
 have hF' : (F.inRound l).fn b.fn := hF
 obtain ⟨e, a₁, w₁, hq, harr⟩ := h b [.beginRound, .code body] (c :: cs) rfl hF' hr'
 rw [← hb0] at harr
 cases e with
 | normal =>
  obtain ⟨w₂, hbr, hbody⟩ := hq
  have s1 : StepsIn (Machine.fenced P (F.inRound l)) P (lone (b.atR a₁ [.beginRound, .code body]) (c :: cs) w₁) (lone (b.atR a₁ [.code body]) (c :: cs) w₂) :=
   .one (fenced_calm (fr := b.atR a₁ [.beginRound, .code body]) hF' hr' rfl) (stepR_beginRound rfl hbr)
  obtain ⟨e₂, a₂, w₃, hq₂, harr₂⟩ := hbody b [] (c :: cs) rfl hF' hr'
  cases e₂ with
  | normal =>
   obtain ⟨v, w₄, hend, hR⟩ := hq₂
   exact ⟨.returned v, w₄, hR, (StepsIn.trans harr s1).trans (StepsIn.trans harr₂ (.one (fenced_calm (fr := b.atR a₂ []) hF' hr' rfl) (stepR_round_end rfl rfl hend)))⟩
  | ret =>
   obtain ⟨v, w₄, hend, hR⟩ := hq₂
   obtain ⟨k₁, hs⟩ := harr₂.2 rfl
   exact ⟨.returned v, w₄, hR, (StepsIn.trans harr s1).trans (StepsIn.trans hs (.one (fenced_calm (fr := b.atR a₂ (.code .ret :: k₁)) hF' hr' rfl) (stepR_round_ret rfl rfl hend)))⟩
  | exit id =>
   obtain ⟨v, w₄, hend, hR⟩ := hq₂
   obtain ⟨k₁, hk, hs⟩ := harr₂.2 rfl rfl
   exact ⟨.returned v, w₄, hR, (StepsIn.trans harr s1).trans (StepsIn.trans hs (.one (fenced_calm (fr := b.atR a₂ (.code (.exit id) :: k₁)) hF' hr' rfl) (stepR_round_exit rfl rfl hk hend)))⟩
  | goto t =>
   obtain ⟨v, w₄, hend, hR⟩ := hq₂
   obtain ⟨k₁, hk, hs⟩ := harr₂.2 rfl rfl
   exact ⟨.returned v, w₄, hR, (StepsIn.trans harr s1).trans (StepsIn.trans hs (.one (fenced_calm (fr := b.atR a₂ (.code (.goto t) :: k₁)) hF' hr' rfl) (stepR_round_goto rfl rfl hk hend)))⟩
  | panic chain =>
   obtain ⟨hd, hR⟩ := hq₂
   obtain ⟨todo, hs⟩ := harr₂
   have hl : ({ b.atR a₂ todo with mode := .panicking chain } : Frame).leaving P w₃ (.panicked chain) := ⟨rfl, hd, fn, hfn⟩
   have hfe : (lone ({ b.atR a₂ todo with mode := .panicking chain } : Frame) (c :: cs) w₃).fenced P (F.inRound l) := fenced_leaving (F := F.inRound l) hF' hr' hl
   exact ⟨.panicked chain, w₃, hR, (StepsIn.trans harr s1).trans (StepsIn.trans hs (.one hfe (step_leave_panicked hl)))⟩
  | outgrown => exact hq₂.elim
 | exit id => exact hq.elim
 | goto t => exact hq.elim
 | ret => exact hq.elim
 | panic chain => exact hq.elim
 | outgrown => exact hq.elim
def YSX (P : Program) (q : Nat) (vals : Array Value) (xs : List Nat) (w : World) (XT XF : XP) (pc : List PanicEntry → Prop) : Prop :=
 YieldAt (FW none) 0 P q vals w fun e w' => (∃ b xs', e = .returned (.bool b) ∧ (∀ k ∈ xs', k < w'.heap.size ∧ (k ∈ xs ∨ w.heap.size ≤ k)) ∧ Keep xs w w' ∧ Zf xs' (if b = true then XT else XF) w') ∨ (∃ ch, e = .panicked ch ∧ pc ch ∧ Keep xs w w')
def Jn1 {ι : Type} (P : Program) (gf : FuncId) (caps : List Value) (Rl : Jj) (p0 : ι) (nx : ι → List Value → ι → Prop) (fin : ι → Prop) : Prop :=
 ∀ (q : Nat) (xids : List Nat) (w2 : World) (XI : ι → XP) (XF : XP) (pc : List PanicEntry → Prop),
  (∀ p ∈ Rl, p.1 ∉ xids ∧ w2.heap[p.1]? = some p.2) → (∀ k ∈ xids, k < w2.heap.size) → Zf xids (XI p0) w2 →
  (∀ i v i', nx i v i' → ∀ xs w, (∀ k ∈ xs, k < w.heap.size ∧ (k ∈ xids ∨ w2.heap.size ≤ k)) → Keep xids w2 w → Zf xs (XI i) w → YSX P q v.toArray xs w (XI i') XF pc) →
  Calls P gf (.func (.yield q) #[] #[] :: caps).toArray w2 fun e w' => ((∃ v, e = .returned v) ∧ Keep xids w2 w' ∧ ((∃ i xs, fin i ∧ XI i xs w') ∨ ∃ xs, XF xs w')) ∨ (∃ ch, e = .panicked ch ∧ pc ch ∧ Keep xids w2 w')
theorem Jdd {f : FuncId} (hf : P.funcs[f]? = some fn) (hb : fn.body = some code) (hlen : Nat.ble (caps.length + 1) fn.ntmps = true)
  (h : ∀ (q : Nat) (xids : List Nat) (w2 : World) (XI : ι → XP) (XF : XP) (pc : List PanicEntry → Prop),
   (∀ i v i', nx i v i' → ∀ xs w, (∀ k ∈ xs, k < w.heap.size ∧ (k ∈ xids ∨ w2.heap.size ≤ k)) → Keep ([] ++ xids) w2 w → Zf xs (XI i) w → YSX P q v.toArray xs w (XI i') XF pc) →
   HC ⟨P, none, w2, [], xids, Rl, fn.ntmps⟩ [] (Vo 0 (.func (.yield q) #[] #[] :: caps)) [] (XI p0) code
    (bodyPostM (FW none) 0 P fn (fun e w' => ((∃ v, e = .returned v) ∧ Keep ([] ++ xids) w2 w' ∧ ((∃ i xs, fin i ∧ XI i xs w') ∨ ∃ xs, XF xs w')) ∨ (∃ ch, e = .panicked ch ∧ pc ch ∧ Keep ([] ++ xids) w2 w')))) : Jn1 P f caps Rl p0 nx fin :=
 fun q xids w2 XI XF pc hR hlt h0 hY =>
  QI ⟨P, none, w2, [], xids, Rl, fn.ntmps⟩ hf hb rfl rfl rfl hlen
   ⟨Keep.refl _ _, by simp, by simp, fun p hp => ⟨by simp, (hR p hp).1, (hR p hp).2⟩, hlt, xids, fun k hk => ⟨.inl hk, hlt k hk, by simp⟩, h0⟩ (h q xids w2 XI XF pc hY)
section
variable {c : Cx} {l : Ko} {L : Jj} {X : XP} {Q : Exit → Act → World → Prop} {d : List Deferred}
variable {ops : Array Oper} {rest : List Oper} {i : Nat} {v : Value} {t : TypeId} {ps : String} {af : Array Edge} {gd : Option (Nat × Bool)} {ty : TypeId}
theorem Jkn  {XT : XP}
  (hg : Kp l ops ⟨some i, .call ⟨.value f, args, at_⟩, ty, ps, af, gd⟩ = some true) (hi : Nat.ble (i + 1) c.n = true)
  (hf : Kh l f = some (.func (.yield q) #[] #[])) (ha : evs l args.toList = some vs)
  (hY : ∀ xs w, (∀ k ∈ xs, k < w.heap.size ∧ (k ∈ c.xids ∨ c.w1.heap.size ≤ k)) → Keep (c.ids ++ c.xids) c.w1 w → Zf xs X w → YSX c.P q vs.toArray xs w XT XF pc)
  (h1 : HL c d ((i, .bool true) :: l) L XT ops rest Q) (h0 : HL c d ((i, .bool false) :: l) L XF ops rest Q) (hp : ∀ ch, pc ch → HQ c d l L (fun _ _ => True) (Q (.panic ch))) : HL c d l L X ops (⟨some i, .call ⟨.value f, args, at_⟩, ty, ps, af, gd⟩ :: rest) Q := fun a w hfr hs => by
 refine QT (JD hfr hg) rfl ?_
 obtain ⟨xs, hx1, hx2⟩ := hs.x
 obtain ⟨fn, tmps, assign, body, hy, hR⟩ := hY xs w (fun k hk => ⟨(hx1 k hk).2.1, (hx1 k hk).1⟩) hs.keep hx2
 have h2 := hfr.evals ha
 have h3 : args.map a.eval = vs.toArray := by apply Array.toList_inj.1; rw [Array.toList_map]; simpa using h2
 have h4 : a.eval f = .func (.yield q) #[] #[] := hfr.eval hf
 have hrun : (execOp a.eval ⟨some i, .call ⟨.value f, args, at_⟩, ty, ps, af, gd⟩).run c.P w = .ok (.round q fn tmps assign body) w := by
  refine Gl ?_
  simp [resolve, h3, h4, Deferred.ofValue, Result.andThen, invoke, hy]
 rw [hrun, Oper.uponIn_round]
 refine ⟨fun hdep => nH, ?_⟩
 refine RoundIn.mono M6 ?_
 have base : ∀ xs' w' X', Keep xs w w' → (∀ k ∈ xs', k < w'.heap.size ∧ (k ∈ xs ∨ w.heap.size ≤ k)) → Zf xs' X' w' → St c L X' w' := fun xs' w' X' hk hxs hx => by
  refine ⟨hs.keep.glue hk fun k hm => ?_, fun p hp => ?_, hs.distinct, hs.ext, hs.xlt, xs', fun k hm => ?_, hx⟩
  ·rcases (hx1 k hm).1 with g | g
   ·exact .inl (List.mem_append_right _ g)
   ·exact .inr g
  ·exact GO
  ·obtain ⟨g1, g2⟩ := hxs k hm
   refine ⟨g2.elim (fun g => (hx1 k g).1) fun g => .inr (Nat.le_trans hs.keep.size g), g1, fun p hp => ?_⟩
   rcases g2 with g | g
   ·exact (hx1 k g).2.2 p hp
   ·have := Jx (hs.own p hp).2.2; omega
 rintro e w' (⟨b, xs', rfl, hxs, hk, hb⟩ | ⟨ch, rfl, hpc, hk⟩)
 ·cases b with
  | true => exact h1 _ w' (hfr.put (Nat.le_of_ble_eq_true hi)) (base xs' w' XT hk hxs Mi)
  | false => exact h0 _ w' (hfr.put (Nat.le_of_ble_eq_true hi)) (base xs' w' XF hk hxs Mi)
 ·exact hp ch hpc a w' hfr (base [] w' _ hk mf fun _ _ => trivial)
end
def wpE (F : Fence) (n : Nat) (P : Program) (c : Code) (Q : Exit → Act → World → Prop) (a : Act) (w : World) : Prop :=
 ∀ (b : Frame) (k : List Item) (cs : List Frame), b.roundOf = F.round → F.fn b.fn → (∃ fn, P.funcs[b.fn]? = some fn) → F.room (cs.length + 1 + n) →
  ∃ e a' w', Q e a' w' ∧ ArrivesIn (Machine.fenced P F) P (lone (b.atR a (.code c :: k)) cs w) b k cs e a' w'
theorem Jwq {n : Nat} {c : Code} (h : c.wpIn F n P Q a w) : wpE F n P c Q a w := fun b k cs h1 h2 _ h4 => h b k cs h1 h2 h4
theorem Jsw {n : Nat} {x y : Code} (h : wpE F n P x (Exit.then (wpE F n P y Q) Q) a w) : wpE F n P (.seq x y) Q a w := by
 intro b k cs hro hb hfn hr
 have h0 : (lone (b.atR a (.code (.seq x y) :: k)) cs w).fenced P F := fenced_calm hb hr rfl
 obtain ⟨e, a₁, w₁, hq, harr⟩ := h b (.code y :: k) cs hro hb hfn hr
 cases e with
 | normal =>
  obtain ⟨e₂, a₂, w₂, hq₂, harr₂⟩ := hq b k cs hro hb hfn hr
  exact ⟨e₂, a₂, w₂, hq₂, .of_steps (.head h0 stepR_seq harr) harr₂⟩
 | exit id => exact ⟨_, a₁, w₁, hq, .of_steps (.one h0 stepR_seq) (.pass (x := .code y) rfl (fun _ _ => .inl mf) harr)⟩
 | goto l => exact ⟨_, a₁, w₁, hq, .of_steps (.one h0 stepR_seq) (.pass (x := .code y) rfl (fun _ _ => .inl mf) harr)⟩
 | ret => exact ⟨_, a₁, w₁, hq, .of_steps (.one h0 stepR_seq) (.pass (x := .code y) rfl (fun _ _ => .inl mf) harr)⟩
 | panic ch => exact ⟨_, a₁, w₁, hq, .of_steps (.one h0 stepR_seq) (.pass (x := .code y) rfl (fun _ _ => .inl mf) harr)⟩
 | outgrown => exact ⟨_, a₁, w₁, hq, .of_steps (.one h0 stepR_seq) (.pass (x := .code y) rfl (fun _ _ => .inl mf) harr)⟩
theorem Jko {n : Nat} {c : Code} (h : wpE F n P c (Exit.inBlock id Q) a w) : wpE F n P (.block id c) Q a w := by
 intro b k cs hro hb hfn hr
 have h0 : (lone (b.atR a (.code (.block id c) :: k)) cs w).fenced P F := fenced_calm hb hr rfl
 obtain ⟨e, a₁, w₁, hq, harr⟩ := h b (.inBlock id :: k) cs hro hb hfn hr
 cases e with
 | normal => exact ⟨.normal, a₁, w₁, hq, .head h0 stepR_block (StepsIn.trans harr (.one (fenced_calm hb hr rfl) stepR_inBlock))⟩
 | exit id' =>
  by_cases hid : id' = id
  ·simp only [Exit.inBlock, hid, if_true] at hq
   exact ⟨.normal, a₁, w₁, hq, .head h0 stepR_block (harr.1 k (by simp [exitTo, hid]))⟩
  ·simp only [Exit.inBlock, hid, if_false] at hq
   have this : (id == id') = false := by simp; exact fun h => hid h.symm
   have hx : exitTo id' (.inBlock id :: k) = exitTo id' k := by simp [exitTo, this]
   exact ⟨.exit id', a₁, w₁, hq, fun k' hk => .head h0 stepR_block (harr.1 k' MN),
    fun hr' hk => let ⟨k₁, h1, h2⟩ := harr.2 hr' MN; ⟨k₁, h1, .head h0 stepR_block h2⟩⟩
 | goto l =>
  have hx : gotoIn l (.inBlock id :: k) = gotoIn l k := by simp [gotoIn]
  exact ⟨_, a₁, w₁, hq, fun k' hk => .head h0 stepR_block (harr.1 k' MN),
   fun hr' hk => let ⟨k₁, h1, h2⟩ := harr.2 hr' MN; ⟨k₁, h1, .head h0 stepR_block h2⟩⟩
 | ret => exact ⟨_, a₁, w₁, hq, .of_steps (.one h0 stepR_block) harr⟩
 | panic ch => exact ⟨_, a₁, w₁, hq, .of_steps (.one h0 stepR_block) harr⟩
 | outgrown => exact ⟨_, a₁, w₁, hq, .of_steps (.one h0 stepR_block) harr⟩
theorem Jwr {n : Nat} {f : FuncId} {c : Code} {args : Array Value}
  (hf : P.funcs[f]? = some fn) (hb : fn.body = some c) (hF : F.fn f)
  (h : wpE F n P c (bodyPostM F n P fn R) { tmps := args ++ Array.replicate (fn.ntmps - args.size) undef, defers := [] } w) (hro : F.round = none := by rfl) : CallsIn F n P f args w R := by
 refine ⟨hF, fun cs hr => ?_⟩
 let b : Frame := { (default : Frame) with fn := f, kind := .normal, roundOf := none }
 have henter : Frame.enter P f args .normal =
   b.atR { tmps := args ++ Array.replicate (fn.ntmps - args.size) undef, defers := [] } [.code c] := by
  simp [Frame.enter, Frame.atR, hf, hb, b]
 obtain ⟨e, a', w', hq, harr⟩ := h b [] cs hro.symm hF ⟨fn, hf⟩ hr
 rw [← henter] at harr
 cases e with
 | normal =>
  obtain ⟨e', w'', fr', hR, hs, hfn, hl⟩ := leaves_stepsInM a'.defers .returning w' { b.atR a' [] with mode := .returning } cs rfl rfl rfl hf rfl hF hr hq
  exact ⟨e', w'', fr', hR, ComesIn.of_steps (StepsIn.trans harr (.one (fenced_calm (fr := b.atR a' []) hF hr rfl) (stepR_end rfl))) hs, hfn, hl⟩
 | ret =>
  obtain ⟨todo, hs₀⟩ := harr.1 rfl
  obtain ⟨e', w'', fr', hR, hs, hfn, hl⟩ := leaves_stepsInM a'.defers .returning w' { b.atR a' todo with mode := .returning } cs rfl rfl rfl hf rfl hF hr hq
  exact ⟨e', w'', fr', hR, ComesIn.of_steps hs₀ hs, hfn, hl⟩
 | panic chain =>
  obtain ⟨todo, hs₀⟩ := harr
  obtain ⟨e', w'', fr', hR, hs, hfn, hl⟩ := leaves_stepsInM a'.defers (.panicking chain) w' { b.atR a' todo with mode := .panicking chain } cs rfl rfl rfl hf rfl hF hr hq
  exact ⟨e', w'', fr', hR, ComesIn.of_steps hs₀ hs, hfn, hl⟩
 | exit id => exact hq.elim
 | goto l => exact hq.elim
 | outgrown => exact ⟨.outgrown, w', b, hq, harr.resolve_left (by simp [b]), rfl, trivial⟩
theorem zg {n : Nat} {g : Operand} {ps : Array Tmp}
  (h : ∀ fn, F.fn fn → (∃ fd, P.funcs[fn]? = some fd) → ∃ (l : Nat) (mark : List Deferred) (w₁ : World) (d : Deferred) (w₁' : World) (f : FuncId) (args : Array Value) (w₂ : World),
   (Instr.enterLoop fn a.tmps ps assign body F.round).run P w = .ok (l, mark) w₁ ∧
   (resolve a.eval (rangeCall g l) 0).run P w₁ = .ok d w₁' ∧
   (∀ f', Target.leads P w₁' d.target d.args = some f' → F.fn f') ∧
   (invoke d.target d.args).run P w₁' = .ok (.enter f args) w₂ ∧
   (F.depth.isSome = true → 1 ≤ n) ∧
   CallsIn F (n - 1) P f args w₂ (rangePost F n P l Q { a with defers := mark ++ a.defers })) :
  wpE F n P (.rangeFunc g ps assign body) Q a w := by
 intro b k cs hro hb hfn hr
 have h2 := h b.fn hb hfn
 have h3 : (Code.rangeFunc g ps assign body).wpIn { F with fn := fun f => F.fn f } n P Q a w → True := fun _ => trivial
 obtain ⟨l, mark, w₁, d, w₁', f, args, w₂, he, hres, hlead, hinv, hn, hF, hcall⟩ := h2
 rw [← hro] at he
 have h0 : (lone (b.atR a (.code (.rangeFunc g ps assign body) :: k)) cs w).fenced P F := by
  refine fenced_lone (.inl hb) (fun f' hf' => hlead f' ?_) (Fence.room_le hr m0)
  have hev := Frame.eval_atR b a (.code (.rangeFunc g ps assign body) :: k)
  simp only [Frame.atR] at hev
  simp only [Frame.about, Frame.atR, he, hev, hres] at hf'
  exact hf'
 have henter := stepR_rangeFunc (P := P) (b := b) (a := a) (k := k) (cs := cs) (w := w) he hres hinv
 have hroom : F.room ((b.atR { a with defers := mark ++ a.defers } (.inRangeFunc l :: k) :: cs).length + 1 + (n - 1)) := Fence.room_enter hr hn
 obtain ⟨e, w₃, fr, hR, hsteps, hfn', hleave⟩ := hcall (b.atR { a with defers := mark ++ a.defers } (.inRangeFunc l :: k) :: cs) hroom
 cases e with
 | outgrown =>
  obtain ⟨a₀, w₀, hq⟩ := hR
  exact ⟨.outgrown, a₀, w₀, hq, .inr (Outgrown.of_steps (.one henter) hsteps)⟩
 | returned v =>
  have hl : (lone fr (b.atR { a with defers := mark ++ a.defers } (.inRangeFunc l :: k) :: cs) w₃).fenced P F := fenced_leaving (hfn' ▸ hF) hroom hleave
  obtain ⟨jump, w₄, hend, hj⟩ := hR
  have sback : StepsIn (Machine.fenced P F) P (lone (b.atR a (.code (.rangeFunc g ps assign body) :: k)) cs w) (lone (b.atR { a with defers := mark ++ a.defers } ((jump.map Item.code).toList ++ k)) cs w₄) := by
   refine .head h0 henter (StepsIn.trans hsteps (.head hl ?_ (.one (fenced_calm (fr := b.atR { a with defers := mark ++ a.defers } (.endRangeFunc l :: k)) hb hr rfl) (stepR_endRangeFunc hend))))
   rw [← finish_atR_inRangeFunc l v]; exact step_leave_returned hleave
  cases jump with
  | none => exact ⟨.normal, _, w₄, hj, sback⟩
  | some c =>
   obtain ⟨e', a'', w₅, hq, harr⟩ := hj b k cs hro hb hr
   exact ⟨e', a'', w₅, hq, .of_steps sback harr⟩
 | panicked chain =>
  have hl : (lone fr (b.atR { a with defers := mark ++ a.defers } (.inRangeFunc l :: k) :: cs) w₃).fenced P F := fenced_leaving (hfn' ▸ hF) hroom hleave
  refine ⟨.panic chain, _, w₃, hR, .inRangeFunc l :: k, .head h0 henter (StepsIn.trans hsteps (.one hl ?_))⟩
  rw [← Frame.raise_atR]; exact step_leave_panicked hleave
def vV {σ τ : Type} (c3 : Cx) (Xb : XP) (I : σ → Prop) (LI : σ → Jj) (E : Code → τ → Prop) (LE : τ → Jj) (pc : List PanicEntry → Prop) : Exit → Act → World → Prop
 | .normal, _, w => ∃ s, I s ∧ St c3 (LI s) Xb w
 | .ret, _, w => ∃ s, E .ret s ∧ St c3 (LE s) Xb w
 | .exit id, _, w => ∃ s, E (.exit id) s ∧ St c3 (LE s) Xb w
 | .panic ch, a, w => a.defers = [] ∧ pc ch ∧ ∃ LL, St c3 LL Xb w
 | _, _, _ => False
theorem Jap {r : Loop} {LE : τ → Jj}
  (h1 : ∀ s w, I s → St c3 (LI s) (Xa q { r with state := .busy }) w → R (.returned (.bool true)) (w.putObj q (.loop { r with state := .ready, pending := none })))
  (h2 : ∀ j s w, E j s → St c3 (LE s) (Xa q { r with state := .busy }) w → R (.returned (.bool false)) (w.putObj q (.loop { r with state := .done, pending := some j })))
  (h3 : ∀ ch LL w, pc ch → St c3 LL (Xa q { r with state := .busy }) w → R (.panicked ch) w)
  (e : Exit) (a : Act) (w : World) (h : vV c3 (Xa q { r with state := .busy }) I LI E LE pc e a w) : jv c3.P q R e a w := by
 have hend : ∀ (w : World) (jump : Option Code), w.heap[q]? = some (.loop { r with state := .busy }) → (Instr.endRound q jump).run c3.P w = .ok (.bool jump.isNone) (w.putObj q (.loop { r with state := if jump.isNone then .ready else .done, pending := jump })) := fun w jump hw => run_endRound (r := { r with state := .busy }) jump hw
 cases e with
 | normal => obtain ⟨s, hs, hst⟩ := h; exact ⟨_, _, hend w none hst.recd, h1 s w hs hst⟩
 | ret => obtain ⟨s, hs, hst⟩ := h; exact ⟨_, _, hend w (some .ret) hst.recd, h2 _ s w hs hst⟩
 | exit id => obtain ⟨s, hs, hst⟩ := h; exact ⟨_, _, hend w (some (.exit id)) hst.recd, h2 _ s w hs hst⟩
 | goto t => exact h.elim
 | panic ch => obtain ⟨hd, hpc, LL, hst⟩ := h; exact ⟨hd, h3 ch LL w hpc hst⟩
 | outgrown => exact h.elim
theorem Jkp {l : Ko} {LE : τ → Jj} (h : pc ch) : HQ c3 [] l L Xb (vV c3 Xb I LI E LE pc (.panic ch)) := fun a w hf hs => ⟨hf.defers, h, L, hs⟩
def HCE (c : Cx) (d : List Deferred) (l : Ko) (L : Jj) (X : XP) (code : Code) (Q : Exit → Act → World → Prop) : Prop :=
 ∀ a w, Fr c.n d l a → St c L X w → wpE (FW c.ro) 0 c.P code Q a w
section
variable {c : Cx} {l : Ko} {L : Jj} {X : XP} {Q : Exit → Act → World → Prop} {d : List Deferred}
theorem Jn2 (h : HC c d l L X code Q) : HCE c d l L X code Q := fun a w hf hs => Jwq (h a w hf hs)
theorem Jie {x y : Code} (h : ∀ K, (∀ d l L X, HCE c d l L X y Q → HQ c d l L X K) → HCE c d l L X x (Exit.then K Q)) : HCE c d l L X (x.seq y) Q :=
 fun a w hf hs => Jsw (h (fun a w => wpE (FW c.ro) 0 c.P y Q a w) (fun _ _ _ _ hy a w hf hs => hy a w hf hs) a w hf hs)
theorem Jkr {b : Code} (h : HCE c d l L X b (Exit.inBlock id Q)) : HCE c d l L X (.block id b) Q := fun a w hf hs => Jko (h a w hf hs)
theorem Ww {x y : Code} (h : ∀ K, (∀ d l L X, HCE c d l L X y Q → HQ c d l L X K) → HC c d l L X x (Exit.then K Q)) : HCE c d l L X (x.seq y) Q := Jie fun K hK => Jn2 (h K hK)
theorem Jks
  (pc : List PanicEntry → Prop) (I : ι → σ → Prop) (LI : σ → Jj) (E : Code → τ → Prop) (LE : τ → Jj) (Lk : Jj) (s0 : σ)
  (hro : c.ro = none) (hf : Kh l f = some (.func (.func gf) #[] caps.toArray)) (eg : Enters c.P gf) (hit : Jn1 c.P gf caps Rl p0 nx fi) (hlen : ∀ i v i', nx i v i' → v.length = pp.length) (hpp : pp.all (Nat.blt · c.n) = true)
  (hRl : ∀ p ∈ Rl, p ∈ Lk ∨ p ∈ c.R) (hL : L = LI s0 ++ Lk) (h0 : I p0 s0)
  (hround : ∀ (q : Nat) (Xr Xb : XP) (w3 : World) (i : ι) (v : List Value) (i' : ι) (s : σ), nx i v i' → I i s → ∀ K, Jg7 (yX c q w3 (QJ (LI s)) Lk) Xr Xb body (vV (yX c q w3 (QJ (LI s)) Lk) Xb (I i') LI E LE pc) K →
   HC (yX c q w3 (QJ (LI s)) Lk) [] (ws pp v l) (LI s) Xr assign (Exit.then K fun _ _ _ => False))
  (hdone : ∀ D i s, fi i → I i s → HQ c (Vf D :: d) l ((D, .deferred (some [])) :: (LI s ++ Lk)) X (Q .normal))
  (hstop : ∀ D j s, E j s → HC c (Vf D :: d) l ((D, .deferred (some [])) :: (LE s ++ Lk)) X j Q)
  (hpan : ∀ D ch, pc ch → HQ c (Vf D :: d) l ((D, .deferred (some [])) :: Lk) X (Q (.panic ch))) :
  HCE c d l L X (.rangeFunc f pp.toArray assign body) Q := fun a w hfr hs => by
 subst hL
 refine zg ?_
 intro fn _ hfdE
 obtain ⟨fd, hfd⟩ := hfdE
 have e0 : (FW c.ro).round = none := by rw [hro]; rfl
 rw [e0]
 obtain ⟨r, hr⟩ : ∃ r : Loop, r = { state := .ready, pending := none, fn, tmps := a.tmps, params := pp.toArray, assign, body, defers := w.heap.size } := ⟨_, rfl⟩
 obtain ⟨w2, hw2⟩ : ∃ w2, (w.alloc (.deferred (some []))).alloc (.loop r) = w2 := ⟨_, rfl⟩
 have hq : (w.alloc (.deferred (some []))).heap.size = w.heap.size + 1 := World.size_alloc _ _
 have hs2 : St c ((w.heap.size + 1, .loop r) :: (w.heap.size, .deferred (some [])) :: (LI s0 ++ Lk)) X w2 := by
  have := (hs.alloc (.deferred (some []))).alloc (.loop r)
  rw [hq, hw2] at this
  exact this
 have hq2 : w2.heap[w.heap.size + 1]? = some (.loop r) := (hs2.own _ List.mem_cons_self).2.2
 have hrr : ({ r with state := .ready, pending := none } : Loop) = r := by rw [hr]
 obtain ⟨M, hM⟩ : ∃ M, QJ (LI s0) = M := ⟨_, rfl⟩
 refine ⟨w.heap.size + 1, [Vf w.heap.size], w2, { target := .fn (.func gf) caps.toArray, args := #[.func (.yield (w.heap.size + 1)) #[] #[]] }, w2, gf, (.func (.yield (w.heap.size + 1)) #[] #[] :: caps).toArray, w2, ?_, ?_, fun _ _ => trivial, ?_, fun hdep => nH, ?_⟩
 rw [← hw2, hr]; exact run_enterLoop_outer _ _ _ _ _
 have := hfr.eval hf
 simp only [resolve, this]
 simp [Deferred.ofValue]
 rfl
 have := eg (#[.func (.yield (w.heap.size + 1)) #[] #[]] ++ caps.toArray) w2
 have e1 : (#[Value.func (.yield (w.heap.size + 1)) #[] #[]] ++ caps.toArray) = (Value.func (.yield (w.heap.size + 1)) #[] #[] :: caps).toArray := by apply Array.toList_inj.1; simp
 rw [e1] at this
 simpa [invoke] using this
 ·-- the iterator's contract at our invariant
  have hown := hs2.distinct
  have hMown : ∀ k ∈ M, ∃ o, (k, o) ∈ LI s0 := fun k hk => by
   rw [← hM] at hk
   obtain ⟨p, hp, rfl⟩ := List.mem_map.1 hk
   exact ⟨p.2, hp⟩
  have hpw := List.pairwise_cons.1 hown
  have hpw2 := List.pairwise_cons.1 hpw.2
  have hpw3 := List.pairwise_append.1 hpw2.2
  have hsz2 : w2.heap.size = w.heap.size + 2 := by rw [← hw2, World.size_alloc, World.size_alloc]
  have hLk2 : ∀ p ∈ Lk, p.1 < w2.heap.size := fun p hp => Jx (hs2.own p (List.mem_cons_of_mem _ (List.mem_cons_of_mem _ (List.mem_append_right _ hp)))).2.2
  have hMk : ∀ p ∈ Lk, p.1 ∉ M ∧ p.1 ≠ w.heap.size + 1 := fun p hp => ⟨fun hm => by
   obtain ⟨o, ho⟩ := hMown _ hm
   exact hpw3.2.2 _ ho _ hp rfl, fun e => hpw.1 p (List.mem_cons_of_mem _ (List.mem_append_right _ hp)) e.symm⟩
  have hMq : w.heap.size + 1 ∉ M := fun hm => by
   obtain ⟨o, ho⟩ := hMown _ hm
   exact hpw.1 _ (List.mem_cons_of_mem _ (List.mem_append_left _ ho)) rfl
  have hMD : w.heap.size ∉ M := fun hm => by
   obtain ⟨o, ho⟩ := hMown _ hm
   exact hpw2.1 _ (List.mem_append_left _ ho) rfl
  have hMlt : ∀ k ∈ M, k < w2.heap.size := fun k hk => by
   obtain ⟨o, ho⟩ := hMown _ hk
   exact Jx (hs2.own _ (List.mem_cons_of_mem _ (List.mem_cons_of_mem _ (List.mem_append_left _ ho)))).2.2
  -- what a place of one's own is apart from
  have apart : ∀ {k : Nat}, (k ∈ M ∨ w2.heap.size ≤ k) → k ≠ w.heap.size + 1 ∧ k ≠ w.heap.size ∧ (∀ p ∈ Lk, p.1 ≠ k) := fun {k} hk => by
   rcases hk with hk | hk
   exact ⟨fun e => hMq (e ▸ hk), fun e => hMD (e ▸ hk), fun p hp e => (hMk p hp).1 (e ▸ hk)⟩
   exact ⟨by omega, by omega, fun p hp e => by have := hLk2 p hp; omega⟩
  have apartR : ∀ {k : Nat}, (k ∈ M ∨ w2.heap.size ≤ k) → ∀ p ∈ c.R, p.1 ≠ k := fun {k} hk p hp e => by
   obtain ⟨e1, _, e3⟩ := hs2.ext p hp
   have h1 := Jx e3
   have h2 := hs.keep.size
   rcases hk with hk | hk
   obtain ⟨o, ho⟩ := hMown _ hk
   rcases (hs2.own _ (List.mem_cons_of_mem _ (List.mem_cons_of_mem _ (List.mem_append_left _ ho)))).1 with g | g
   exact e1 (e ▸ g)
   simp only at g; omega
   omega
  have hcalls := hit (w.heap.size + 1) ((w.heap.size + 1) :: M) w2 (fun i => Jb8 (w.heap.size + 1) w2.heap.size M r (I i) LI)
   (fun xs w' => ∃ j, Jb8 (w.heap.size + 1) w2.heap.size M { r with state := .done, pending := some j } (E j) LE xs w') pc
   (fun p hp => by
    rcases hRl p hp with hL | hR
    refine ⟨fun hm => ?_, (hs2.own p (List.mem_cons_of_mem _ (List.mem_cons_of_mem _ (List.mem_append_right _ hL)))).2.2⟩
    obtain ⟨h1, h2⟩ := hMk p hL
    rcases List.mem_cons.1 hm with hm | hm
    exact h2 hm
    exact h1 hm
    refine ⟨fun hm => ?_, hs2.readR hR⟩
    rcases List.mem_cons.1 hm with hm | hm
    have h1 := Jx (hs2.ext p hR).2.2
    have h2 := hs.keep.size
    omega
    exact apartR (.inl hm) p hR rfl)
   (fun k hk => by
    rcases List.mem_cons.1 hk with rfl | hk
    exact Jx hq2
    exact hMlt k hk)
   (by
    have := W8 (q := w.heap.size + 1) (B := w2.heap.size) (M := M) (rec := r) (I := I p0) (LI := LI) s0 h0 hpw3.1 (fun p hp => .inl (by rw [← hM]; exact List.mem_map_of_mem (f := (·.1)) hp)) (fun p hp => (hs2.own _ (List.mem_cons_of_mem _ (List.mem_cons_of_mem _ (List.mem_append_left _ hp)))).2.2) hq2
    rw [hM] at this
    exact this)
   ?_
  ·refine CallsIn.mono nM ?_
   rintro e w' (⟨⟨v, rfl⟩, hk, hfin⟩ | ⟨ch, rfl, hpc, hk⟩)
   rotate_left
   refine hpan w.heap.size ch hpc _ w' ⟨hfr.size, by simp [hfr.defers], hfr.slots⟩ ?_
   refine hs2.jump hk (fun k hm => ?_) (List.pairwise_cons.2 ⟨fun p hp => hpw2.1 p (List.mem_append_right _ hp), hpw3.2.1⟩) (fun p hp => ?_)
   rcases List.mem_cons.1 hm with rfl | hm
   exact ⟨_, List.mem_cons_self⟩
   obtain ⟨o, ho⟩ := hMown k hm
   exact ⟨o, List.mem_cons_of_mem _ (List.mem_cons_of_mem _ (List.mem_append_left _ ho))⟩
   rcases List.mem_cons.1 hp with rfl | hp
   refine ⟨.inl ⟨_, List.mem_cons_of_mem _ List.mem_cons_self⟩, ?_⟩
   refine (hk.block w.heap.size (Jx (hs2.own _ (List.mem_cons_of_mem _ List.mem_cons_self)).2.2) ?_).trans (hs2.own _ (List.mem_cons_of_mem _ List.mem_cons_self)).2.2
   simp only [List.mem_cons, not_or]; exact ⟨by omega, hMD⟩
   have hmem := List.mem_cons_of_mem (w.heap.size + 1, Obj.loop r) (List.mem_cons_of_mem (w.heap.size, Obj.deferred (some [])) (List.mem_append_right (LI s0) hp))
   refine ⟨.inl ⟨p.2, hmem⟩, ?_⟩
   obtain ⟨g1, g2⟩ := hMk p hp
   refine (hk.block p.1 (Jx (hs2.own _ hmem).2.2) ?_).trans (hs2.own _ hmem).2.2
   simp only [List.mem_cons, not_or]; exact ⟨g2, g1⟩
   have fin : ∀ (st : LoopState) (pe : Option Code) (LL : Jj), st ≠ .busy → LL.Pairwise (fun p q => p.1 ≠ q.1) → (∀ p ∈ LL, p.1 ∈ M ∨ w2.heap.size ≤ p.1) → vI LL w' → w'.heap[w.heap.size + 1]? = some (.loop { r with state := st, pending := pe }) →
     (Instr.endLoop (w.heap.size + 1)).run c.P w' = .ok pe (w'.putObj (w.heap.size + 1) (.loop { r with state := .exhausted, pending := pe })) ∧
     St c ((w.heap.size, .deferred (some [])) :: (LL ++ Lk)) X (w'.putObj (w.heap.size + 1) (.loop { r with state := .exhausted, pending := pe })) := by
    intro st pe LL hst hpwL hLM hLL hl
    refine ⟨run_endLoop hl hst, ?_⟩
    have hk2 : Keep ((w.heap.size + 1) :: M) w2 (w'.putObj (w.heap.size + 1) (.loop { r with state := .exhausted, pending := pe })) :=
     hk.trans ((Keep.putObj _ _).weak fun k hm => by simp at hm; subst hm; exact List.mem_cons_self)
    have hput : ∀ k, k ≠ w.heap.size + 1 → (w'.putObj (w.heap.size + 1) (.loop { r with state := .exhausted, pending := pe })).heap[k]? = w'.heap[k]? := fun k hne => World.putObj_heap_other hne
    refine hs2.jump hk2 (fun k hm => ?_) ?_ (fun p hp => ?_)
    rcases List.mem_cons.1 hm with rfl | hm
    exact ⟨_, List.mem_cons_self⟩
    obtain ⟨o, ho⟩ := hMown k hm
    exact ⟨o, List.mem_cons_of_mem _ (List.mem_cons_of_mem _ (List.mem_append_left _ ho))⟩
    refine List.pairwise_cons.2 ⟨fun p hp => ?_, List.pairwise_append.2 ⟨hpwL, hpw3.2.1, fun p hp p' hp' => ?_⟩⟩
    rcases List.mem_append.1 hp with hp | hp
    exact fun e => (apart (hLM p hp)).2.1 e.symm
    exact hpw2.1 p (List.mem_append_right _ hp)
    exact fun e => (apart (hLM p hp)).2.2 p' hp' e.symm
    rcases List.mem_cons.1 hp with rfl | hp
    refine ⟨.inl ⟨_, List.mem_cons_of_mem _ List.mem_cons_self⟩, ?_⟩
    rw [hput _ mf]
    refine (hk.block w.heap.size (Jx (hs2.own _ (List.mem_cons_of_mem _ List.mem_cons_self)).2.2) ?_).trans (hs2.own _ (List.mem_cons_of_mem _ List.mem_cons_self)).2.2
    simp only [List.mem_cons, not_or]; exact ⟨by omega, hMD⟩
    rcases List.mem_append.1 hp with hp | hp
    refine ⟨?_, ?_⟩
    rcases hLM p hp with g | g
    obtain ⟨o, ho⟩ := hMown _ g
    exact .inl ⟨o, List.mem_cons_of_mem _ (List.mem_cons_of_mem _ (List.mem_append_left _ ho))⟩
    exact .inr g
    rw [hput _ (apart (hLM p hp)).1]
    exact hLL p hp
    have hmem := List.mem_cons_of_mem (w.heap.size + 1, Obj.loop r) (List.mem_cons_of_mem (w.heap.size, Obj.deferred (some [])) (List.mem_append_right (LI s0) hp))
    refine ⟨.inl ⟨p.2, hmem⟩, ?_⟩
    obtain ⟨g1, g2⟩ := hMk p hp
    rw [hput _ g2]
    refine (hk.block p.1 (Jx (hs2.own _ hmem).2.2) ?_).trans (hs2.own _ hmem).2.2
    simp only [List.mem_cons, not_or]; exact ⟨g2, g1⟩
   have hfr2 : Fr c.n (Vf w.heap.size :: d) l { tmps := a.tmps, defers := [Vf w.heap.size] ++ a.defers } := ⟨hfr.size, by simp [hfr.defers], hfr.slots⟩
   rcases hfin with ⟨i, xs, hi, ⟨s, h1, h2, h3, h4, _⟩, h5⟩ | ⟨xs, j, ⟨s, h1, h2, h3, h4, _⟩, h5⟩
   obtain ⟨g1, g2⟩ := fin .ready none (LI s) mf h2 h3 h4 (by rw [hrr]; exact h5)
   exact ⟨none, _, g1, hdone _ i s hi h1 _ _ hfr2 g2⟩
   ·obtain ⟨g1, g2⟩ := fin .done (some j) (LE s) mf h2 h3 h4 h5
    exact ⟨some j, _, g1, hstop _ j s h1 _ _ hfr2 g2⟩
  ·-- a round
   rintro i v i' hi xs w3 hxs hk3 hfoot
   obtain ⟨⟨s, h1, hpwS, hMS, h2, rfl⟩, h3⟩ := hfoot w3 fun _ _ => rfl
   have hargs : v.toArray.size = r.params.size := by rw [hr]; simpa using hlen i v i' hi
   have hy := run_yield (P := c.P) (args := v.toArray) h3 hargs
   refine ⟨_, _, _, _, hy, ?_⟩
   obtain ⟨c3, hc3⟩ : ∃ c3, yX c (w.heap.size + 1) w3 (QJ (LI s)) Lk = c3 := ⟨_, rfl⟩
   have hc3x : c3.xids = [w.heap.size + 1] := by rw [← hc3]; rfl
   have hc3i : c3.ids = QJ (LI s) := by rw [← hc3]; rfl
   have hc3w : c3.w1 = w3 := by rw [← hc3]; rfl
   have hmemS : ∀ p ∈ LI s, p.1 ∈ QJ (LI s) := fun p hp => List.mem_map_of_mem (f := (·.1)) hp
   have hidS : ∀ {k : Nat}, k ∈ QJ (LI s) → k ∈ M ∨ w2.heap.size ≤ k := fun {k} hk => by
    obtain ⟨p, hp, rfl⟩ := List.mem_map.1 hk
    exact hMS p hp
   have hst3 : St c3 (LI s) (Xa (w.heap.size + 1) r) w3 := by
    subst hc3
    refine ⟨Keep.refl _ _, fun p hp => ⟨.inl (hmemS p hp), ?_, h2 p hp⟩, hpwS, ?_, ?_, [w.heap.size + 1], fun k hk => ?_, fun w' hw' => (hw' _ mf).trans h3⟩
    simp only [yX, List.mem_singleton]; exact (apart (hMS p hp)).1
    intro p hp
    simp only [yX] at hp ⊢
    rcases List.mem_append.1 hp with hp | hp
    obtain ⟨g1, g2⟩ := hMk p hp
    refine ⟨fun hm => (apart (hidS hm)).2.2 p hp rfl, by simpa using g2, ?_⟩
    have hmem := List.mem_cons_of_mem (w.heap.size + 1, Obj.loop r) (List.mem_cons_of_mem (w.heap.size, Obj.deferred (some [])) (List.mem_append_right (LI s0) hp))
    exact (hk3.block p.1 (Jx (hs2.own _ hmem).2.2) Ms).trans (hs2.own _ hmem).2.2
    have e3 := hs2.readR hp
    have hlt := Jx (hs2.ext p hp).2.2
    have hsz := hs.keep.size
    have hnq : p.1 ≠ w.heap.size + 1 := fun e => by omega
    refine ⟨fun hm => apartR (hidS hm) p hp rfl, by simpa using hnq, ?_⟩
    exact (hk3.block p.1 (Jx e3) nG).trans e3
    intro k hk; simp only [yX, List.mem_singleton] at hk; subst hk; exact Jx h3
    simp only [List.mem_singleton] at hk
    subst hk
    exact ⟨.inl (by simp [yX]), Jx h3, fun p hp => (apart (hMS p hp)).1⟩
   have hbusy : ∀ {LL : Jj} {w' : World}, St c3 LL (Xa (w.heap.size + 1) r) w' →
     St c3 LL (Xa (w.heap.size + 1) { r with state := .busy, pending := none }) (w'.putObj (w.heap.size + 1) (.loop { r with state := .busy, pending := none })) := by
    intro LL w' hst
    have hlt : w.heap.size + 1 < w'.heap.size := Jx hst.recd
    refine ⟨hst.keep.trans ((Keep.putObj _ _).weak fun k hm => by simp at hm; subst hm; rw [hc3x]; simp), fun p hp => ?_, hst.distinct, hst.ext, hst.xlt, [w.heap.size + 1], fun k hk => ?_, fun w'' hw'' => (hw'' _ mf).trans (World.putObj_heap_same hlt)⟩
    obtain ⟨g1, g2, g3⟩ := hst.own p hp
    refine ⟨g1, g2, (World.putObj_heap_other ?_).trans g3⟩
    intro e; exact g2 (by rw [e, hc3x]; simp)
    simp only [List.mem_singleton] at hk
    subst hk
    exact ⟨.inl (by rw [hc3x]; simp), Nat.lt_of_lt_of_le hlt (Keep.putObj _ _).size, fun p hp e => (hst.own p hp).2.1 (by rw [hc3x, e]; simp)⟩
   have hfr3 : Fr c3.n [] (ws pp v l) { tmps := (r.params.zip v.toArray).foldl (fun (t : Array Value) (pv : Nat × Value) => t.setIfInBounds pv.1 pv.2) r.tmps, defers := [] } := by
    have h5 := Jfj (n := c.n) pp v l a.tmps (fun p hp => by have := List.all_eq_true.1 hpp p hp; simpa using this) ⟨hfr.size, rfl, hfr.slots⟩
    rw [hr, ← hc3]
    simp only [List.zip_toArray, List.foldl_toArray']
    exact h5
   have key : ∀ RR : Ending → World → Prop,
     (∀ s' w', I i' s' → St c3 (LI s') (Xa (w.heap.size + 1) { r with state := .busy, pending := none }) w' → RR (.returned (.bool true)) (w'.putObj (w.heap.size + 1) (.loop { r with state := .ready, pending := none }))) →
     (∀ j s' w', E j s' → St c3 (LE s') (Xa (w.heap.size + 1) { r with state := .busy, pending := none }) w' → RR (.returned (.bool false)) (w'.putObj (w.heap.size + 1) (.loop { r with state := .done, pending := some j }))) →
     (∀ ch LL w', pc ch → St c3 LL (Xa (w.heap.size + 1) { r with state := .busy, pending := none }) w' → RR (.panicked ch) w') →
     RoundIn (FW none) 0 c.P (w.heap.size + 1) r.fn ((r.params.zip v.toArray).foldl (fun (t : Array Value) (pv : Nat × Value) => t.setIfInBounds pv.1 pv.2) r.tmps) r.assign r.body w3 RR := by
    intro RR g1 g2 g3
    refine qG (F := FW none) (fn := fd) trivial (by rw [hr]; exact hfd) ?_
    have hround' := hround (w.heap.size + 1) (Xa (w.heap.size + 1) r) (Xa (w.heap.size + 1) { r with state := .busy, pending := none }) w3 i v i' s hi h1
     (fun a₁ w₁ => ∃ w₂, (Instr.beginRound (w.heap.size + 1)).run c.P w₁ = .ok () w₂ ∧ body.wpIn ((FW none).inRound (w.heap.size + 1)) 0 c.P (jv c.P (w.heap.size + 1) RR) a₁ w₂)
    rw [hc3] at hround'
    have hround'' := hround' (fun l' L' hb a₁ w₁ hf₁ hs₁ => ?_) _ w3 hfr3 hst3
    have e1 : r.assign = assign := by rw [hr]
    have e2 : r.body = body := by rw [hr]
    have e3 : c3.P = c.P := by rw [← hc3]; rfl
    have e4 : c3.ro = some (w.heap.size + 1) := by rw [← hc3]; rfl
    rw [e3, e4] at hround''
    rw [e1, e2]
    exact hround''
    have hx1 : w₁.heap[w.heap.size + 1]? = some (.loop r) := hs₁.recd
    refine ⟨_, run_beginRound hx1 (by rw [hr]), ?_⟩
    have hb2 := hb a₁ _ hf₁ (hbusy hs₁)
    have hb3 : ({ r with state := .busy } : Loop) = { r with state := .busy, pending := none } := by rw [hr]
    rw [hb3]
    have e3 : c3.P = c.P := by rw [← hc3]; rfl
    have e4 : c3.ro = some (w.heap.size + 1) := by rw [← hc3]; rfl
    rw [e3, e4] at hb2
    refine wpIn_mono nW ?_
    have := Jap (c3 := c3) (q := w.heap.size + 1) (r := { r with pending := none }) (R := RR) g1 g2 g3
    rw [e3] at this
    exact this
   have turn : ∀ (st : LoopState) (pe : Option Code) (LL : Jj) (w' : World), St c3 LL (Xa (w.heap.size + 1) { r with state := .busy, pending := none }) w' →
     (∀ k ∈ (w.heap.size + 1) :: QJ LL, k < (w'.putObj (w.heap.size + 1) (.loop { r with state := st, pending := pe })).heap.size ∧ (k ∈ (w.heap.size + 1) :: QJ (LI s) ∨ w3.heap.size ≤ k)) ∧
     Keep ((w.heap.size + 1) :: QJ (LI s)) w3 (w'.putObj (w.heap.size + 1) (.loop { r with state := st, pending := pe })) ∧ (∀ p ∈ LL, p.1 ∈ M ∨ w2.heap.size ≤ p.1) ∧ vI LL (w'.putObj (w.heap.size + 1) (.loop { r with state := st, pending := pe })) ∧
     (w'.putObj (w.heap.size + 1) (.loop { r with state := st, pending := pe })).heap[w.heap.size + 1]? = some (.loop { r with state := st, pending := pe }) := by
    intro st pe LL w' hst'
    have hlt : w.heap.size + 1 < w'.heap.size := Jx hst'.recd
    have hk' := hst'.keep
    rw [hc3x, hc3i, hc3w] at hk'
    have hown' : ∀ p ∈ LL, (p.1 ∈ QJ (LI s) ∨ w3.heap.size ≤ p.1) ∧ p.1 ≠ w.heap.size + 1 ∧ w'.heap[p.1]? = some p.2 := fun p hp => by
     have := hst'.own p hp
     rw [hc3x, hc3i, hc3w] at this
     simpa using this
    refine ⟨fun k hk => ?_, ?_, fun p hp => ?_, fun p hp => (World.putObj_heap_other (hown' p hp).2.1).trans (hown' p hp).2.2, World.putObj_heap_same hlt⟩
    rcases List.mem_cons.1 hk with rfl | hk
    exact ⟨Nat.lt_of_lt_of_le hlt (Keep.putObj _ _).size, .inl List.mem_cons_self⟩
    obtain ⟨p, hp, rfl⟩ := List.mem_map.1 hk
    obtain ⟨e1, e2, e3⟩ := hown' p hp
    exact ⟨Nat.lt_of_lt_of_le (Jx e3) (Keep.putObj _ _).size, e1.imp (List.mem_cons_of_mem _) id⟩
    refine (hk'.weak fun k hm => ?_).trans ((Keep.putObj _ _).weak fun k hm => by simp at hm; subst hm; exact List.mem_cons_self)
    rcases List.mem_append.1 hm with hm | hm
    exact List.mem_cons_of_mem _ hm
    simp only [List.mem_singleton] at hm; subst hm; exact List.mem_cons_self
    rcases (hown' p hp).1 with g | g
    exact hidS g
    exact .inr (Nat.le_trans hk3.size g)
   refine key _ ?_ ?_ ?_
   intro s' w' hI' hst'
   obtain ⟨t1, t2, t3, t4, t5⟩ := turn .ready none (LI s') w' hst'
   refine .inl ⟨true, _, rfl, t1, t2, ?_⟩
   rw [if_pos rfl]
   exact W8 s' hI' hst'.distinct t3 t4 (by rw [hrr] at t5 ⊢; exact t5)
   ·intro j s' w' hE' hst'
    obtain ⟨t1, t2, t3, t4, t5⟩ := turn .done (some j) (LE s') w' hst'
    refine .inl ⟨false, _, rfl, t1, t2, ?_⟩
    rw [if_neg mf]
    exact fun w'' hw'' => ⟨j, W8 s' hE' hst'.distinct t3 t4 t5 w'' hw''⟩
   ·intro ch LL w' hpc hst'
    have hk' := hst'.keep
    rw [hc3x, hc3i, hc3w] at hk'
    refine .inr ⟨ch, rfl, hpc, hk'.weak fun k hm => ?_⟩
    rcases List.mem_append.1 hm with hm | hm
    exact List.mem_cons_of_mem _ hm
    ·simp only [List.mem_singleton] at hm; subst hm; exact List.mem_cons_self
end
theorem Jaq {f : FuncId} (c : Cx) (hf : P.funcs[f]? = some fn) (hb : fn.body = some code) (hc : c.P = P) (hro : c.ro = none) (hn : c.n = fn.ntmps)
  (hlen : Nat.ble vs.length fn.ntmps = true) (hs : St c L X w) (h : HCE c [] (Vo 0 vs) L X code (bodyPostM (FW none) 0 P fn R)) : Calls P f vs.toArray w R := by
 refine callsIn_wide (n := 0) |>.1 (Jwr hf hb trivial ?_)
 exact Dv
theorem Jar {f : FuncId} {ok : Prop} {bad : Value → Prop} (hf : P.funcs[f]? = some fn) (hb : fn.body = some code) (hlen : Nat.ble vs.length fn.ntmps = true)
  (h : ∀ w, HCE (cxX P w Rl fn.ntmps) [] (Vo 0 vs) [] (fun _ _ => True) code (bodyPostM (FW none) 0 P fn (Jny (cxX P w Rl fn.ntmps) ok bad V LL))) : PureX P f vs.toArray ok bad V LL Rl := ⟨fun w hR =>
 (Jaq (cxX P w Rl fn.ntmps) hf hb rfl rfl rfl hlen (St.startX hR) (h w)).mono fun _ _ h => h.imp
  (fun ⟨ho, x, he, hs⟩ => ⟨ho, x, he, by have := hs.keep; simpa [cxX] using this, fun p hp => by have := (hs.own p hp); simp only [cxX, List.not_mem_nil, false_or] at this; exact ⟨this.1, this.2.2⟩, hs.distinct⟩)
  (fun ⟨v, hv, he, hk⟩ => ⟨v, hv, he, hk⟩)⟩
def dF (g : FuncId) (caps : List Value) : Deferred := { target := .fn (.func g) caps.toArray, args := #[] }
def Jvk (c : Cx) (L' : Jj) (X : XP) : Ending → FrameMode → World → Prop := fun e u' w' => (∃ x, e = .returned x) ∧ settle u' = .returning ∧ St c L' X w'
section
variable {c : Cx} {l : Ko} {L : Jj} {X : XP} {Q : Exit → Act → World → Prop} {K : Act → World → Prop} {d : List Deferred}
variable {ops : Array Oper} {rest : List Oper} {i : Nat} {v : Value} {t : TypeId} {ps : String} {af : Array Edge} {gd : Option (Nat × Bool)} {ty : TypeId}
theorem Jn3 (hro : c.ro = none) (hg : Kp l ops ⟨dst, .defer ⟨.value f, #[], at_⟩, ty, ps, af, gd⟩ = some true) (hf : Kh l f = some (.func (.func g) #[] caps.toArray))
  (h : HL c (dF g caps :: d) l L X ops rest Q) (hdst : dst = none) : HL c d l L X ops (⟨dst, .defer ⟨.value f, #[], at_⟩, ty, ps, af, gd⟩ :: rest) Q := fun a w hfr hs => by
 subst hdst
 unfold wpListIn
 rw [if_pos (JD hfr hg)]
 refine ⟨Qa, ?_⟩
 have e0 : (FW c.ro).round = none := by rw [hro]; rfl
 rw [e0, Oper.semAt_none]
 have h4 := hfr.eval hf
 have hrun : (execOp a.eval ⟨none, .defer ⟨.value f, #[], at_⟩, ty, ps, af, gd⟩).run c.P w = .ok (.defer (dF g caps)) w := by
  refine Gl ?_
  simp [resolve, h4, Deferred.ofValue, Result.andThen, dF]
 rw [hrun, Oper.uponIn_defer]
 exact h _ w ⟨hfr.size, by simp [Act.put, hfr.defers], hfr.slots⟩ hs
theorem Jn4 (eg : Enters P g) (caps : List Value) (w : World) : (invoke (dF g caps).target (dF g caps).args).run P w = .ok (.enter g caps.toArray) w := by
 have := eg (#[] ++ caps.toArray) w
 have e1 : (#[] ++ caps.toArray : Array Value) = caps.toArray := by simp
 rw [e1] at this
 simpa [invoke, dF] using this
theorem Jws (eg : Enters P g)
  (hD : ∀ w, St c L X w → CallsDIn (FW none) 0 P g caps.toArray .returning w (Jvk c L' X)) (h : HQ c d l L' X (bodyPostM (FW none) 0 P fn R .ret)) : HQ c (dF g caps :: d) l L X (bodyPostM (FW none) 0 P fn R .ret) := fun a w hf hs => by
 show LeavesInM _ _ _ _ _ _ _ _ _
 rw [hf.defers]
 refine ⟨by simp, .inr ⟨fun hdep => nH, _, _, g, caps.toArray, rfl, Jn4 eg caps w, fun _ _ => trivial, ?_⟩⟩
 refine CallsDIn.mono (hD w hs) ?_
 rintro e u' w' ⟨⟨x, rfl⟩, hu, hs'⟩
 have h1 := h { tmps := a.tmps, defers := d } w' ⟨hf.size, rfl, hf.slots⟩ hs'
 simp only [hu]
 exact h1
theorem Jsx (eg : Enters P g)
  (hD : ∀ w, St c L X w → CallsDIn (FW none) 0 P g caps.toArray (.panicking ch) w (Jvk c L' X)) (h : HQ c d l L' X (bodyPostM (FW none) 0 P fn R .ret)) : HQ c (dF g caps :: d) l L X (bodyPostM (FW none) 0 P fn R (.panic ch)) := fun a w hf hs => by
 show LeavesInM _ _ _ _ _ _ _ _ _
 rw [hf.defers]
 refine ⟨by simp, .inr ⟨fun hdep => nH, _, _, g, caps.toArray, rfl, Jn4 eg caps w, fun _ _ => trivial, ?_⟩⟩
 refine CallsDIn.mono (hD w hs) ?_
 rintro e u' w' ⟨⟨x, rfl⟩, hu, hs'⟩
 have h1 := h { tmps := a.tmps, defers := d } w' ⟨hf.size, rfl, hf.slots⟩ hs'
 simp only [hu]
 exact h1
end
def HCS (c : Cx) (d : List Deferred) (l : Ko) (L : Jj) (X : XP) (code : Code) (cs : List Frame) (Q : Exit → Act → List Frame → World → Prop) : Prop :=
 ∀ a w, Fr c.n d l a → St c L X w → code.wpSIn (FW none) 0 c.P Q a cs w
def HS (c : Cx) (d : List Deferred) (l : Ko) (L : Jj) (X : XP) (ops : Array Oper) (rest : List Nat) (cs : List Frame) (Q : Exit → Act → List Frame → World → Prop) : Prop :=
 ∀ a w, Fr c.n d l a → St c L X w → wpOpsSIn (FW none) 0 c.P ops Q rest a cs w
section
variable {c : Cx} {l : Ko} {L : Jj} {X : XP} {Q : Exit → Act → List Frame → World → Prop} {d : List Deferred} {cs : List Frame}
variable {ops : Array Oper} {rest : List Nat} {i k : Nat} {v : Value} {o : Oper}
theorem Jn5 (hro : c.ro = none) (h : HC c d l L X code (fun e a w => Q e a cs w)) : HCS c d l L X code cs Q := fun a w hf hs => by
 have h1 := h a w hf hs
 rw [hro] at h1
 exact wpSIn_of_wpIn rfl h1
theorem Jif {x y : Code} (h : ∀ K, (∀ d l L X cs, HCS c d l L X y cs Q → HQ c d l L X (fun a w => K a cs w)) → HCS c d l L X x cs (Exit.thenS K Q)) : HCS c d l L X (x.seq y) cs Q :=
 fun a w hf hs => wpSIn_seq (h (fun a cs w => y.wpSIn (FW none) 0 c.P Q a cs w) (fun _ _ _ _ _ hy a w hf hs => hy a w hf hs) a w hf hs)
theorem wZ (h : HS c d l L X ops (List.range ops.size) cs Q) : HCS c d l L X (.region id ops false) cs Q := fun a w hf hs => wpSIn_region (h a w hf hs)
theorem Jn6 (h : HQ c d l L X (fun a w => Q .normal a cs w)) : HS c d l L X ops [] cs Q := h
theorem zh (ho : W1 ops.toList k = some o) (hg : Kp l ops o = some true) (hd : o.dst = some i) (hi : Nat.ble (i + 1) c.n = true) (hr : J9 c d l L X o v) (h : HS c d ((i, v) :: l) L X ops rest cs Q) : HS c d l L X ops (k :: rest) cs Q := fun a w hf hs => by
 have hk : ops[k]? = some o := by rw [← QO ho]
 simp only [wpOpsSIn, hk]
 refine ⟨Qa, ?_⟩
 rw [if_pos (JD hf hg), hr a w hf hs]
 rw [hd]
 exact h _ w (hf.put (Nat.le_of_ble_eq_true hi)) hs
def Jkt (cs : List Frame) : Value := match recoverD cs with | some (v, _) => v | none => .nilIface
def Jku (cs : List Frame) : List Frame := match recoverD cs with | some (_, cs') => cs' | none => cs
theorem yf (ho : W1 ops.toList k = some o) (hg : Kp l ops o = some true) (hd : o.dst = some i) (hi : Nat.ble (i + 1) c.n = true) (hr : ∀ a w, Fr c.n d l a → (execOp a.eval o).run c.P w = .ok .recover w) (hv : Jkt cs = v) (hc : Jku cs = cs') (h : HS c d ((i, v) :: l) L X ops rest cs' Q) : HS c d l L X ops (k :: rest) cs Q := fun a w hf hs => by
 have hk : ops[k]? = some o := by rw [← QO ho]
 simp only [wpOpsSIn, hk]
 refine ⟨Qa, ?_⟩
 rw [if_pos (JD hf hg), hr a w hf, hd]
 have h1 := h _ w (hf.put (Nat.le_of_ble_eq_true hi)) hs
 subst hv hc
 unfold Jkt Jku at h1
 cases e : recoverD cs with
 | none => rw [e] at h1; exact h1
 | some q => obtain ⟨u, cs2⟩ := q; rw [e] at h1; exact h1
theorem Jn7 {R : Ending → FrameMode → World → Prop} {cs : List Frame} (hP : c.P = P) (hcs : cs' = { c₀ with mode := u' } :: cs) (hr : fn.results = rs.toArray) (h : ResAll c l L rs vs) (hR : ∀ w, St c L X w → R (.returned (JC vs)) u' w) :
  HQ c [] l L X (fun a w => bodyPostS P fn c₀ cs R .ret a cs' w) := fun a w hf hs => ⟨hf.defers, u', hcs, _, hP ▸ qW hf hs h hr, hR w hs⟩
theorem zJ {R : Ending → FrameMode → World → Prop} {cs : List Frame} (hP : c.P = P) (hcs : cs' = { c₀ with mode := u' } :: cs) (hr : fn.results = rs.toArray) (h : ResAll c l L rs vs) (hR : ∀ w, St c L X w → R (.returned (JC vs)) u' w) :
  HQ c [] l L X (fun a w => bodyPostS P fn c₀ cs R .normal a cs' w) := Jn7 (R := R) (fn := fn) hP hcs hr h hR
end
theorem qa {f : FuncId} {u : FrameMode} {R : Ending → FrameMode → World → Prop} (c : Cx) (hf : P.funcs[f]? = some fn) (hb : fn.body = some code) (hc : c.P = P) (hn : c.n = fn.ntmps)
  (hlen : Nat.ble vs.length fn.ntmps = true) (hs : St c L X w) (h : ∀ c₀ cs, c₀.mode = u → HCS c [] (Vo 0 vs) L X code (c₀ :: cs) (bodyPostS P fn c₀ cs R)) : CallsDIn (FW none) 0 P f vs.toArray u w R := by
 refine callsDIn_of_wpSIn hf hb trivial fun c₀ cs hu => ?_
 have h1 := h c₀ cs hu _ w (qz (n := c.n) Mb) hs
 rw [hc, hn] at h1
 exact h1
theorem Jn8 {cs : List Frame} (h : c₀.mode = .panicking (wY v)) : Jkt (c₀ :: cs) = v ∧ Jku (c₀ :: cs) = { c₀ with mode := .panicking [{ v, recovered := true }] } :: cs := by
 have e : recoverD (c₀ :: cs) = some (v, { c₀ with mode := .panicking [{ v, recovered := true }] } :: cs) := by simp only [recoverD, h, wY]
 unfold Jkt Jku
 rw [e]
 exact ⟨rfl, rfl⟩
theorem Jn9 {cs : List Frame} (h : c₀.mode = .returning) : Jkt (c₀ :: cs) = .nilIface ∧ Jku (c₀ :: cs) = { c₀ with mode := .returning } :: cs := by
 have e : recoverD (c₀ :: cs) = none := by simp only [recoverD, h]
 unfold Jkt Jku
 rw [e]
 refine ⟨rfl, ?_⟩
 cases c₀
 simp only at h
 rw [h]
end Go.SL
