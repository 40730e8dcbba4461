import Derived.Test.YtdadaddakcidjaaDoorSld
import Derived.Laws.IdiomStrings
/-! ### Methods that turn a block; strings as bytes; parts of slices -/
namespace Go.SL
set_option linter.all false
open Go.RowKit Go.Shelf
open Go.Proofs (Enters enters_of)
/-- A call that turns the block r and lays new blocks alone. -/
structure PureM (P : Program) (f : FuncId) (args : Array Value) (v : Value) (r : Nat) (o o' : Obj) : Prop where
  run : ∀ w, w.heap[r]? = some o → Calls P f args w fun e w' => e = .returned v ∧ Keep [r] w w' ∧ w'.heap[r]? = some o'
def cxM (P : Program) (w : World) (r n : Nat) : Cx := ⟨P, none, w, [r], [], [], n⟩
theorem St.startM {P : Program} {w : World} {r n : Nat} {o : Obj} (h : w.heap[r]? = some o) : St (cxM P w r n) [(r, o)] (fun _ _ => True) w :=
  ⟨Keep.refl _ _, fun p hp => by rw [List.mem_singleton.1 hp]; exact ⟨.inl List.mem_cons_self, by simp [cxM], h⟩, List.pairwise_singleton _ _, by simp [cxM], by simp [cxM], ⟨[], by simp, fun _ _ => trivial⟩⟩
theorem pureM_of_HC {P : Program} {f : FuncId} {fn : Func} {code : Code} {vs : List Value} {v : Value} {r : Nat} {o o' : Obj} (hf : P.funcs[f]? = some fn) (hb : fn.body = some code) (hlen : Nat.ble vs.length fn.ntmps = true)
    (h : ∀ w, HC (cxM P w r fn.ntmps) [] (frame0 0 vs) [(r, o)] (fun _ _ => True) code (bodyPostM (FW none) 0 P fn (fun e w' => e = .returned v ∧ ∃ L, (r, o') ∈ L ∧ St (cxM P w r fn.ntmps) L (fun _ _ => True) w'))) : PureM P f vs.toArray v r o o' := ⟨fun w hr =>
  (calls_of_HC (cxM P w r fn.ntmps) hf hb rfl rfl rfl hlen (St.startM hr) (h w)).mono fun _ _ ⟨he, L, hm, hs⟩ => ⟨he, by have := hs.keep; simpa [cxM] using this, (hs.own _ hm).2.2⟩⟩
section
variable {c : Cx} {l : List (Nat × Value)} {L : List (Nat × Obj)} {X : XP} {Q : Exit → Act → World → Prop} {d : List Deferred}
variable {ops : Array Oper} {rest : List Oper} {i : Nat} {v : Value} {t : TypeId} {ps : String} {af : Array Edge} {gd : Option (Nat × Bool)} {ty t2 : TypeId}
theorem HL_callM {k r : Nat} {o o' : Obj} {L' : List (Nat × Obj)} {f : Operand} {args : Array Operand} {at_ : Array TypeId} {g : FuncId} {vs : List Value}
    (hg : goes l ops ⟨some i, .call ⟨.value f, args, at_⟩, ty, ps, af, gd⟩ = some true) (hi : Nat.ble (i + 1) c.n = true) (hca : callArgs l f args = some (g, vs)) (eg : Enters c.P g) (hk : L[k]? = some (r, o))
    (hp : PureM c.P g vs.toArray v r o o') (hL : L.set k (r, o') = L') (h : HL c d ((i, v) :: l) L' X ops rest Q) : HL c d l L X ops (⟨some i, .call ⟨.value f, args, at_⟩, ty, ps, af, gd⟩ :: rest) Q :=
  HL_callE (α := Unit) (V := fun _ => v) (L' := fun _ => L') (X' := fun _ => X) hg hi hca eg (fun w hs => (hp.run w (hs.get hk)).mono fun _ _ ⟨he, hkp, ho⟩ => ⟨(), he, hL ▸ hs.set hk hkp ho⟩) (fun _ => h)
theorem R_compl {x : Operand} {m : Nat} (hx : evl l x = some (.int .u64 (m : Int))) (hm : m < 18446744073709551616) :
    RunsTo c d l L X ⟨some i, .unOp .xor t x, ty, ps, af, gd⟩ (.int .u64 ((18446744073709551615 ^^^ m : Nat) : Int)) := fun a' w hfr _ => by
  have e1 : (BitVec.ofInt 64 (m : Int)).toNat = m := by simp [BitVec.toNat_ofInt]; omega
  have e2 : (BitVec.ofInt 64 (IntKind.u64.max)).toNat = 18446744073709551615 := by decide
  have hx' : 18446744073709551615 ^^^ m < 2 ^ 64 := Nat.xor_lt_two_pow (by decide) hm
  have e3 : (BitVec.ofInt 64 (IntKind.u64.max) ^^^ BitVec.ofInt 64 (m : Int)).toNat = 18446744073709551615 ^^^ m := by rw [BitVec.toNat_xor, e1, e2]
  have e4 : IntKind.u64.wrap ((18446744073709551615 ^^^ m : Nat) : Int) = ((18446744073709551615 ^^^ m : Nat) : Int) := wrap_u64 (by omega) (by omega)
  simp only [execOp]
  rw [hfr.eval hx]
  show Sem.run c.P (pure (Next.value (Value.int .u64 (IntKind.u64.wrap (((BitVec.ofInt 64 (IntKind.u64.max) ^^^ BitVec.ofInt 64 (m : Int)).toNat : Nat) : Int))))) w = _
  rw [e3, e4]; rfl
theorem bytesRow_bs (a : List UInt8) (cap : Nat) : bytesRow (bs a) cap = (a.map bV ++ List.replicate (cap - a.length) (Value.int .u8 0)).toArray := by
  simp only [bytesRow, bs_size]
  apply Array.toList_inj.1
  simp [bs, bV]
/-- '[]byte(s)'. -/
theorem HL_strBytes {x : Operand} {a : List UInt8} {e src dst : TypeId} (hg : goes l ops ⟨some i, .convert src dst x, ty, ps, af, gd⟩ = some true) (hi : Nat.ble (i + 1) c.n = true) (hx : evl l x = some (.string (bs a)))
    (hs : strB c.P src = true) (hd : sliceOf c.P dst = some e) (he : c.P.underlying e = some (.int .u8))
    (h : ∀ r k, HL c d ((i, .slice (some ⟨r, 0, none⟩) a.length (a.length + k)) :: l) ((r, .cells (a.map bV ++ List.replicate k (Value.int .u8 0)).toArray e (a.length + k, a.length + k + 1)) :: L) X ops rest Q) : HL c d l L X ops (⟨some i, .convert src dst x, ty, ps, af, gd⟩ :: rest) Q :=
  HL_runE (α := Nat × Nat) (V := fun p => .slice (some ⟨p.1, 0, none⟩) a.length (a.length + p.2)) (L' := fun p => (p.1, .cells (a.map bV ++ List.replicate p.2 (Value.int .u8 0)).toArray e (a.length + p.2, a.length + p.2 + 1)) :: L) (X' := fun _ => X) hg rfl rfl hi (fun aa w hf hst => by
    have hr := Go.run_bytes_of_string (P := c.P) w src dst e (bs a) (und_str hs) (und_slice hd) he
    have hge := grownCap_ge w (bs a).size 0 e
    rw [bytesRow_bs] at hr
    rw [bs_size] at hr hge
    obtain ⟨k, hk⟩ : ∃ k, grownCap w a.length 0 e = a.length + k := ⟨grownCap w a.length 0 e - a.length, by omega⟩
    rw [hk, show a.length + k - a.length = k from by omega] at hr
    have hsz : (a.map bV ++ List.replicate k (Value.int .u8 0)).toArray.size = a.length + k := by simp
    rw [hsz] at hr
    refine ⟨(w.heap.size, k), _, ?_, hst.drew.alloc _⟩
    simp only [execOp]
    rw [hf.eval hx]
    simp [Sem.run_bind, hr, Result.andThen]) (fun p => h p.1 p.2)
def bndOf (l : List (Nat × Value)) : Option Operand → Option Nat → Prop
  | none, none => True
  | some x, some n => ∃ k, evl l x = some (.int k (n : Int))
  | _, _ => False
/-- A part of a slice: its bounds. -/
theorem R_sliceSl {x : Operand} {lo hi mx : Option Operand} {kl kh km : Option Nat} {r off n cap e sz m q z off' : Nat} (hx : evl l x = some (.slice (some ⟨r, off, none⟩) n cap)) (ht : sliceOf c.P t = some e) (hsz : szOf c.P e = some sz)
    (hl : bndOf l lo kl) (hh : bndOf l hi kh) (hm : bndOf l mx km) (e1 : kl.getD 0 = m) (e2 : kh.getD n = q) (e3 : km.getD cap = z) (h1 : m ≤ q) (h2 : q ≤ z) (h3 : z ≤ cap) (h4 : kh = none → km = none) (ho : (if z = m then off else off + m * sz) = off') :
    RunsTo c d l L X ⟨some i, .slice t x lo hi mx, ty, ps, af, gd⟩ (.slice (some ⟨r, off', none⟩) (q - m) (z - m)) := fun a' w hf _ => by
  have ex := hf.eval hx
  subst e1 e2 e3 ho
  have low : ∀ {o : Option Operand} {k : Option Nat}, bndOf l o k → (o.map a'.eval = none ∧ k = none) ∨ (∃ y n, o.map a'.eval = some (.int y ((n : Nat) : Int)) ∧ k = some n) := by
    intro o k h
    cases o with
    | none => cases k with
      | none => exact .inl ⟨rfl, rfl⟩
      | some k => exact h.elim
    | some o => cases k with
      | none => exact h.elim
      | some k => obtain ⟨y, hy⟩ := h; exact .inr ⟨y, k, by simp [hf.eval hy], rfl⟩
  simp only [execOp, ex]
  have hadd : ∀ k : Nat, Addr.add ⟨r, off, none⟩ k = ⟨r, off + k, none⟩ := fun k => add_none r off k
  rcases low hl with ⟨f1, rfl⟩ | ⟨y1, n1, f1, rfl⟩ <;> rcases low hh with ⟨f2, rfl⟩ | ⟨y2, n2, f2, rfl⟩ <;> rcases low hm with ⟨f3, rfl⟩ | ⟨y3, n3, f3, rfl⟩ <;> simp only [Option.getD_none, Option.getD_some] at h1 h2 h3 ⊢ <;>
    (try (have := h4 rfl; cases this)) <;> rw [f1, f2, f3] <;>
    simp [Instr.sliceAt, Instr.slice, Sem.run_bind, run_und (und_slice ht), run_sz hsz, Result.andThen, Instr.sliceBounds, Instr.sliceBound, asIntOf, h1, h2, h3, hadd]
  all_goals split <;> simp_all
end
end Go.SL
