import Derived.Test.YteceenlfegnigaaGreatDoorZtBytesb
import Derived.RecoverIn
import Derived.Test.YteceenlfegnigaaGreatDoorProg
import Derived.Laws.Externs
import Derived.Shelf.Spec.BitsCarry
import Derived.Shelf.Strings.Builder1
import Derived.Shelf.Strings.Builder2
import Derived.Shelf.Strings.Trim
import Derived.Shelf.Small.Utf8
import Derived.Shelf.Small.Strs
import Derived.Shelf.Strings.BuilderF
import Derived.Shelf.Strings.BuilderK
import Derived.Shelf.Strings.Builder2Cap
import Derived.Shelf.Strings.Search1
import Derived.Shelf.Strings.Prefix
import Derived.Shelf.Unicode.Decode
import Derived.Shelf.Strings.Runes
import Derived.Shelf.Strings.AsciiSet
import Derived.Shelf.Bits.Mul64
import Derived.Shelf.Strings.Repeat
import Derived.Shelf.Unicode.DecodeSlow
import Derived.Shelf.Unicode.DecodeAny
import Derived.Shelf.Strings.BuilderCap
import Derived.Shelf.Slices.Turned
import Derived.Ground.Names2Prog
import Derived.Shelf.Slices.Clone
set_option maxRecDepth 100000
namespace Go.SL
set_option linter.all false
open Go Go.RowKit Go.Shelf
open Go.Proofs (Enters enters_of)
variable {a a' : Act} {K : Act → World → Prop} {af : Array Edge} {es : Array MapEntry} {ops : Array Oper} {args : Array Operand} {at_ : Array TypeId} {cs cs2 : Array Value} {b : Bool} {assign body code : Code} {τ : Type} {E : Code → τ → Prop} {c c3 : Cx} {R : Ending → World → Prop} {Q : Exit → Act → World → Prop} {F : Fence} {c₀ : Frame} {u' : FrameMode} {fn : Func} {g gf : FuncId} {B L L' Rl : Jp} {l' tv : Kx} {d : List Deferred} {cs' : List Frame} {pp : List Nat} {rest : List Oper} {ch : List PanicEntry} {pc : List PanicEntry → Prop} {rs : List ResultVar} {s : List UInt8} {caps vs : List Value} {α : Type} {xs : List α} {h i id j q r : Nat} {fr : Nat × Nat} {o : Oper} {f x y : Operand} {gd : Option (Nat × Bool)} {dst : Option Nat} {P : Program} {ps : String} {ι σ : Type} {e e1 e2 t tt ty : TypeId} {v v' : Value} {w w' : World} {X XF Xb : XP} {LL : α → Jp} {V : α → Value} {X' : α → XP} {p0 : ι} {nx : ι → List Value → ι → Prop} {fi fin : ι → Prop} {LI : σ → Jp} {I : σ → Prop} {XI : σ → XP}
def zi (v : Value) : List PanicEntry := [{ v, recovered := false }]
structure PureX {α : Type} (P : Program) (f : FuncId) (args : Array Value) (ok : Prop) (bad : Value → Prop) (V : α → Value) (LL : α → Jp) (Rl : Jp) : Prop where
  run : ∀ w, wm Rl w → Calls P f args w fun e w' => (ok ∧ ∃ x, e = .returned (V x) ∧ Keep [] w w' ∧ (∀ p ∈ LL x, w.heap.size ≤ p.1 ∧ w'.heap[p.1]? = some p.2) ∧ (LL x).Pairwise fun p q => p.1 ≠ q.1) ∨ (∃ v, bad v ∧ e = .panicked (zi v) ∧ Keep [] w w')
def cxX (P : Program) (w : World) (Rl : Jp) (n : Nat) : Cx := ⟨P, none, w, [], [], Rl, n⟩
theorem St.startX {n : Nat} (hR : wm Rl w) : St (cxX P w Rl n) [] (fun _ _ => True) w :=
 ⟨Keep.refl _ _, by simp, by simp, fun p hp => ⟨by simp [cxX], by simp [cxX], hR p hp⟩, by simp [cxX], ⟨[], by simp, fun _ _ => trivial⟩⟩
def Jpv {α : Type} (c : Cx) (ok : Prop) (bad : Value → Prop) (V : α → Value) (LL : α → Jp) : Ending → World → Prop := fun e w' =>
 (ok ∧ ∃ x, e = .returned (V x) ∧ St c (LL x) (fun _ _ => True) w') ∨ (∃ v, bad v ∧ e = .panicked (zi v) ∧ Keep [] c.w1 w')
theorem Ys {f : FuncId} {ok : Prop} {bad : Value → Prop} (hf : P.funcs[f]? = some fn) (hb : fn.body = some code) (hlen : Nat.ble vs.length fn.ntmps = true)
  (h : ∀ w, HC (cxX P w Rl fn.ntmps) [] (V2 0 vs) [] (fun _ _ => True) code (bodyPostM (FW none) 0 P fn (Jpv (cxX P w Rl fn.ntmps) ok bad V LL))) : PureX P f vs.toArray ok bad V LL Rl := ⟨fun w hR =>
 (QP (cxX P w Rl fn.ntmps) hf hb rfl rfl rfl hlen (St.startX hR) (h w)).mono fun _ _ h => h.imp
  (fun ⟨ho, x, he, hs⟩ => ⟨ho, x, he, by have := hs.keep; simpa [cxX] using this, fun p hp => by have := (hs.own p hp); simp only [cxX, List.not_mem_nil, false_or] at this; exact ⟨this.1, this.2.2⟩, hs.distinct⟩)
  (fun ⟨v, hv, he, hk⟩ => ⟨v, hv, he, hk⟩)⟩
theorem PureX.mono {f : FuncId} {args : Array Value} {ok ok' : Prop} {bad bad' : Value → Prop} (h : PureX P f args ok bad V LL Rl) (h1 : ok → ok') (h2 : ∀ v, bad v → bad' v) : PureX P f args ok' bad' V LL Rl :=
 ⟨fun w hR => (h.run w hR).mono fun _ _ h => h.imp (fun ⟨a, b⟩ => ⟨h1 a, b⟩) (fun ⟨v, a, b⟩ => ⟨v, h2 v a, b⟩)⟩
theorem PureX.map {β : Type} {f : FuncId} {args : Array Value} {ok : Prop} {bad : Value → Prop} {V' : β → Value} {LL' : β → Jp} (h : PureX P f args ok bad V LL Rl) (g : α → β) (hv : ∀ x, V x = V' (g x)) (hl : ∀ x, (LL' (g x)).Sublist (LL x)) : PureX P f args ok bad V' LL' Rl :=
 ⟨fun w hR => (h.run w hR).mono fun _ _ h => h.imp (fun ⟨a, x, he, hk, h1, h2⟩ => ⟨a, g x, he.trans (by rw [hv]), hk, fun p hp => h1 p ((hl x).subset hp), h2.sublist (hl x)⟩) id⟩
theorem PureX.toT {f : FuncId} {args : Array Value} {ok : Prop} {bad : Value → Prop} (h : PureX P f args ok bad V LL Rl) (hb : ∀ v, ¬ bad v) : PureT P f args V [] LL Rl :=
 ⟨fun w _ hR _ _ => (h.run w hR).mono fun _ _ h => h.elim (fun ⟨_, x, he, hk, h1, h2⟩ => ⟨x, he, hk, fun p hp => ⟨.inr (h1 p hp).1, (h1 p hp).2⟩, h2⟩) (fun ⟨v, hv, _⟩ => absurd hv (hb v))⟩
section
variable {c : Cx} {l : Kx} {L : Jp} {X : XP} {Q : Exit → Act → World → Prop} {K : Act → World → Prop} {d : List Deferred}
variable {ops : Array Oper} {rest : List Oper} {i : Nat} {v : Value} {t : TypeId} {ps : String} {af : Array Edge} {gd : Option (Nat × Bool)} {ty : TypeId}
theorem Ql {ok : Prop} {bad : Value → Prop}
  (hg : Kv l ops ⟨some i, .call ⟨.value f, args, at_⟩, ty, ps, af, gd⟩ = some true) (hi : Nat.ble (i + 1) c.n = true) (hca : KT l f args = some (g, vs)) (eg : Enters c.P g)
  (hpt : PureX c.P g vs.toArray ok bad V LL Rl) (hR : ∀ p ∈ Rl, known c L p.1 p.2) (h : ok → ∀ x, HL c d ((i, V x) :: l) (LL x ++ L) X ops rest Q) (hp : ∀ v, bad v → HQ c d l L X (Q (.panic (zi v)))) :
  HL c d l L X ops (⟨some i, .call ⟨.value f, args, at_⟩, ty, ps, af, gd⟩ :: rest) Q := fun a w hf hs => by
 refine Ve (JH hf hg) rfl ?_
 rw [VW hf hca c.P w _ rfl eg, Oper.uponIn_enter]
 refine ⟨fun hdep => M1, ?_⟩
 have hc := callsIn_wide (n := 0) |>.2 (hpt.run w fun p hp => hs.known (hR p hp))
 refine CallsIn.mono nd ?_
 rintro e w' (⟨ho, x, rfl, hk, h1, h2⟩ | ⟨v, hv, rfl, hk⟩)
 ·exact h ho x _ w' (hf.put (Nat.le_of_ble_eq_true hi)) (hs.freshs hk h1 h2)
 ·exact hp v hv a w' hf (hs.more hk)
theorem Jpw (hg : Kv l ops ⟨dst, .panic x, ty, ps, af, gd⟩ = some true) (hx : Kq l x = some (.iface tt v)) (h : HQ c d l L X (Q (.panic (zi (.iface tt v))))) : HL c d l L X ops (⟨dst, .panic x, ty, ps, af, gd⟩ :: rest) Q := fun a w hf hs => by
 refine Ve (JH hf hg) rfl ?_
 have hrun : (execOp a.eval ⟨dst, .panic x, ty, ps, af, gd⟩).run c.P w = .halt (.panic (.iface tt v)) w := by
  have e : (Instr.panic (.iface tt v)).run c.P w = .halt (.panic (.iface tt v)) w := rfl
  simp only [execOp, hf.eval hx]
  simp [Sem.run_bind, e, Result.andThen]
 rw [hrun, Oper.uponIn_panic]
 exact h a w hf hs
theorem Jpx (h : HQ c d l L X (Q (.panic ch))) : HQ c d l L X (Exit.then K Q (.panic ch)) := h
theorem Jmc (h : HQ c d l L X (Q (.panic ch))) : HQ c d l L X (Exit.inBlock id Q (.panic ch)) := h
theorem Jjs (h : ∀ w, St c L X w → R (.panicked ch) w) : HQ c [] l L X (bodyPostM (FW none) 0 P fn R (.panic ch)) := fun a w hf hs => by
 show LeavesInM _ _ _ _ _ _ _ _ _
 rw [hf.defers]
 exact h w hs
theorem QD {ok : Prop} {bad : Value → Prop} (hc1 : c.ids = []) (hc2 : c.xids = []) (h : bad v) : HQ c [] l L X (bodyPostM (FW none) 0 P fn (Jpv c ok bad V LL) (.panic (zi v))) :=
 Jjs fun w hs => .inr ⟨v, h, rfl, by have := hs.keep; rw [hc1, hc2] at this; exact this⟩
theorem Jen {D k : Nat} (hk : L[k]? = some (D, .deferred (some []))) (hL : L.set k (D, .deferred none) = L')
  (h : HQ c d l L' X (bodyPostM (FW none) 0 P fn R (.panic ch))) : HQ c (Vs D :: d) l L X (bodyPostM (FW none) 0 P fn R (.panic ch)) := fun a w hf hs => by
 subst hL
 have hget := hs.get hk
 have hs' := hs.set hk (Keep.putObj D (.deferred none)) (World.putObj_heap_same (J1 hget))
 have h1 := h { tmps := a.tmps, defers := d } _ ⟨hf.size, rfl, hf.slots⟩ hs'
 show LeavesInM _ _ _ _ _ _ _ _ _
 rw [hf.defers]
 exact ⟨by simp, .inl ⟨D, _, rfl, run_takeDeferred hget, h1⟩⟩
end
def jM (P : Program) (l : Nat) (R : Ending → World → Prop) : Exit → Act → World → Prop
 | .panic ch, a, w => a.defers = [] ∧ R (.panicked ch) w
 | e, a, w => roundPost P l R e a w
theorem vn {n : Nat} {l : Nat} {f : FuncId} {tmps : Array Value} (hF : F.fn f) (hfn : P.funcs[f]? = some fn)
  (h : assign.wpIn (F.inRound l) n P (Exit.then (fun a₁ w₁ => ∃ w₂, (Instr.beginRound l).run P w₁ = .ok () w₂ ∧ body.wpIn (F.inRound l) n P (jM P l R) a₁ w₂) (fun _ _ _ => False))
   { tmps := tmps, defers := [] } w) :
  RoundIn F n P l f tmps assign body w R := by
 refine ⟨hF, fun c cs hr => ?_⟩
 let b : Frame := { (default : Frame) with fn := f, kind := .normal, roundOf := some l }
 have hb0 : Frame.round l f tmps assign body .normal = b.atR { tmps := tmps, defers := [] } [.code assign, .beginRound, .code body] := by
  simp [Frame.round, Frame.atR, b]
 have hr' : (F.inRound l).room ((c :: cs).length + 1 + n) := hr
 have hF' : (F.inRound l).fn b.fn := hF
 obtain ⟨e, a₁, w₁, hq, harr⟩ := h b [.beginRound, .code body] (c :: cs) rfl hF' hr'
 rw [← hb0] at harr
 cases e with
 | normal =>
  obtain ⟨w₂, hbr, hbody⟩ := hq
  have s1 : StepsIn (Machine.fenced P (F.inRound l)) P (lone (b.atR a₁ [.beginRound, .code body]) (c :: cs) w₁) (lone (b.atR a₁ [.code body]) (c :: cs) w₂) :=
   .one (fenced_calm (fr := b.atR a₁ [.beginRound, .code body]) hF' hr' rfl) (stepR_beginRound rfl hbr)
  obtain ⟨e₂, a₂, w₃, hq₂, harr₂⟩ := hbody b [] (c :: cs) rfl hF' hr'
  cases e₂ with
  | normal =>
   obtain ⟨v, w₄, hend, hR⟩ := hq₂
   exact ⟨.returned v, w₄, hR, (StepsIn.trans harr s1).trans (StepsIn.trans harr₂ (.one (fenced_calm (fr := b.atR a₂ []) hF' hr' rfl) (stepR_round_end rfl rfl hend)))⟩
  | ret =>
   obtain ⟨v, w₄, hend, hR⟩ := hq₂
   obtain ⟨k₁, hs⟩ := harr₂.2 rfl
   exact ⟨.returned v, w₄, hR, (StepsIn.trans harr s1).trans (StepsIn.trans hs (.one (fenced_calm (fr := b.atR a₂ (.code .ret :: k₁)) hF' hr' rfl) (stepR_round_ret rfl rfl hend)))⟩
  | exit id =>
   obtain ⟨v, w₄, hend, hR⟩ := hq₂
   obtain ⟨k₁, hk, hs⟩ := harr₂.2 rfl rfl
   exact ⟨.returned v, w₄, hR, (StepsIn.trans harr s1).trans (StepsIn.trans hs (.one (fenced_calm (fr := b.atR a₂ (.code (.exit id) :: k₁)) hF' hr' rfl) (stepR_round_exit rfl rfl hk hend)))⟩
  | goto t =>
   obtain ⟨v, w₄, hend, hR⟩ := hq₂
   obtain ⟨k₁, hk, hs⟩ := harr₂.2 rfl rfl
   exact ⟨.returned v, w₄, hR, (StepsIn.trans harr s1).trans (StepsIn.trans hs (.one (fenced_calm (fr := b.atR a₂ (.code (.goto t) :: k₁)) hF' hr' rfl) (stepR_round_goto rfl rfl hk hend)))⟩
  | panic chain =>
   obtain ⟨hd, hR⟩ := hq₂
   obtain ⟨todo, hs⟩ := harr₂
   have hl : ({ b.atR a₂ todo with mode := .panicking chain } : Frame).leaving P w₃ (.panicked chain) := ⟨rfl, hd, fn, hfn⟩
   have hfe : (lone ({ b.atR a₂ todo with mode := .panicking chain } : Frame) (c :: cs) w₃).fenced P (F.inRound l) := fenced_leaving (F := F.inRound l) hF' hr' hl
   exact ⟨.panicked chain, w₃, hR, (StepsIn.trans harr s1).trans (StepsIn.trans hs (.one hfe (step_leave_panicked hl)))⟩
  | outgrown => exact hq₂.elim
 | exit id => exact hq.elim
 | goto t => exact hq.elim
 | ret => exact hq.elim
 | panic chain => exact hq.elim
 | outgrown => exact hq.elim
def YSX (P : Program) (q : Nat) (vals : Array Value) (xs : List Nat) (w : World) (XT XF : XP) (pc : List PanicEntry → Prop) : Prop :=
 YieldAt (FW none) 0 P q vals w fun e w' => (∃ b xs', e = .returned (.bool b) ∧ (∀ k ∈ xs', k < w'.heap.size ∧ (k ∈ xs ∨ w.heap.size ≤ k)) ∧ Keep xs w w' ∧ ZA xs' (if b = true then XT else XF) w') ∨ (∃ ch, e = .panicked ch ∧ pc ch ∧ Keep xs w w')
def Jpy {ι : Type} (P : Program) (gf : FuncId) (caps : List Value) (Rl : Jp) (p0 : ι) (nx : ι → List Value → ι → Prop) (fin : ι → Prop) : Prop :=
 ∀ (q : Nat) (xids : List Nat) (w2 : World) (XI : ι → XP) (XF : XP) (pc : List PanicEntry → Prop),
  (∀ p ∈ Rl, p.1 ∉ xids ∧ w2.heap[p.1]? = some p.2) → (∀ k ∈ xids, k < w2.heap.size) → ZA xids (XI p0) w2 →
  (∀ i v i', nx i v i' → ∀ xs w, (∀ k ∈ xs, k < w.heap.size ∧ (k ∈ xids ∨ w2.heap.size ≤ k)) → Keep xids w2 w → ZA xs (XI i) w → YSX P q v.toArray xs w (XI i') XF pc) →
  Calls P gf (.func (.yield q) #[] #[] :: caps).toArray w2 fun e w' => ((∃ v, e = .returned v) ∧ Keep xids w2 w' ∧ ((∃ i xs, fin i ∧ XI i xs w') ∨ ∃ xs, XF xs w')) ∨ (∃ ch, e = .panicked ch ∧ pc ch ∧ Keep xids w2 w')
theorem Jeo {f : FuncId} (hf : P.funcs[f]? = some fn) (hb : fn.body = some code) (hlen : Nat.ble (caps.length + 1) fn.ntmps = true)
  (h : ∀ (q : Nat) (xids : List Nat) (w2 : World) (XI : ι → XP) (XF : XP) (pc : List PanicEntry → Prop),
   (∀ i v i', nx i v i' → ∀ xs w, (∀ k ∈ xs, k < w.heap.size ∧ (k ∈ xids ∨ w2.heap.size ≤ k)) → Keep ([] ++ xids) w2 w → ZA xs (XI i) w → YSX P q v.toArray xs w (XI i') XF pc) →
   HC ⟨P, none, w2, [], xids, Rl, fn.ntmps⟩ [] (V2 0 (.func (.yield q) #[] #[] :: caps)) [] (XI p0) code
    (bodyPostM (FW none) 0 P fn (fun e w' => ((∃ v, e = .returned v) ∧ Keep ([] ++ xids) w2 w' ∧ ((∃ i xs, fin i ∧ XI i xs w') ∨ ∃ xs, XF xs w')) ∨ (∃ ch, e = .panicked ch ∧ pc ch ∧ Keep ([] ++ xids) w2 w')))) : Jpy P f caps Rl p0 nx fin :=
 fun q xids w2 XI XF pc hR hlt h0 hY =>
  QP ⟨P, none, w2, [], xids, Rl, fn.ntmps⟩ hf hb rfl rfl rfl hlen
   ⟨Keep.refl _ _, by simp, by simp, fun p hp => ⟨by simp, (hR p hp).1, (hR p hp).2⟩, hlt, xids, fun k hk => ⟨.inl hk, hlt k hk, by simp⟩, h0⟩ (h q xids w2 XI XF pc hY)
section
variable {c : Cx} {l : Kx} {L : Jp} {X : XP} {Q : Exit → Act → World → Prop} {d : List Deferred}
variable {ops : Array Oper} {rest : List Oper} {i : Nat} {v : Value} {t : TypeId} {ps : String} {af : Array Edge} {gd : Option (Nat × Bool)} {ty : TypeId}
theorem Jmd  {XT : XP}
  (hg : Kv l ops ⟨some i, .call ⟨.value f, args, at_⟩, ty, ps, af, gd⟩ = some true) (hi : Nat.ble (i + 1) c.n = true)
  (hf : Kq l f = some (.func (.yield q) #[] #[])) (ha : evs l args.toList = some vs)
  (hY : ∀ xs w, (∀ k ∈ xs, k < w.heap.size ∧ (k ∈ c.xids ∨ c.w1.heap.size ≤ k)) → Keep (c.ids ++ c.xids) c.w1 w → ZA xs X w → YSX c.P q vs.toArray xs w XT XF pc)
  (h1 : HL c d ((i, .bool true) :: l) L XT ops rest Q) (h0 : HL c d ((i, .bool false) :: l) L XF ops rest Q) (hp : ∀ ch, pc ch → HQ c d l L (fun _ _ => True) (Q (.panic ch))) : HL c d l L X ops (⟨some i, .call ⟨.value f, args, at_⟩, ty, ps, af, gd⟩ :: rest) Q := fun a w hfr hs => by
 refine Ve (JH hfr hg) rfl ?_
 obtain ⟨xs, hx1, hx2⟩ := hs.x
 obtain ⟨fn, tmps, assign, body, hy, hR⟩ := hY xs w (fun k hk => ⟨(hx1 k hk).2.1, (hx1 k hk).1⟩) hs.keep hx2
 have h2 := hfr.evals ha
 have h3 : args.map a.eval = vs.toArray := by apply Array.toList_inj.1; rw [Array.toList_map]; simpa using h2
 have h4 : a.eval f = .func (.yield q) #[] #[] := hfr.eval hf
 have hrun : (execOp a.eval ⟨some i, .call ⟨.value f, args, at_⟩, ty, ps, af, gd⟩).run c.P w = .ok (.round q fn tmps assign body) w := by
  refine Hd ?_
  simp [resolve, h3, h4, Deferred.ofValue, Result.andThen, invoke, hy]
 rw [hrun, Oper.uponIn_round]
 refine ⟨fun hdep => M1, ?_⟩
 refine RoundIn.mono Mv ?_
 have base : ∀ xs' w' X', Keep xs w w' → (∀ k ∈ xs', k < w'.heap.size ∧ (k ∈ xs ∨ w.heap.size ≤ k)) → ZA xs' X' w' → St c L X' w' := fun xs' w' X' hk hxs hx => by
  refine ⟨hs.keep.glue hk fun k hm => ?_, fun p hp => ?_, hs.distinct, hs.ext, hs.xlt, xs', fun k hm => ?_, hx⟩
  ·rcases (hx1 k hm).1 with g | g
   ·exact .inl (List.mem_append_right _ g)
   ·exact .inr g
  ·exact HT
  ·obtain ⟨g1, g2⟩ := hxs k hm
   refine ⟨g2.elim (fun g => (hx1 k g).1) fun g => .inr (Nat.le_trans hs.keep.size g), g1, fun p hp => ?_⟩
   rcases g2 with g | g
   ·exact (hx1 k g).2.2 p hp
   ·have := J1 (hs.own p hp).2.2; omega
 rintro e w' (⟨b, xs', rfl, hxs, hk, hb⟩ | ⟨ch, rfl, hpc, hk⟩)
 ·cases b with
  | true => exact h1 _ w' (hfr.put (Nat.le_of_ble_eq_true hi)) (base xs' w' XT hk hxs ME)
  | false => exact h0 _ w' (hfr.put (Nat.le_of_ble_eq_true hi)) (base xs' w' XF hk hxs ME)
 ·exact hp ch hpc a w' hfr (base [] w' _ hk mh fun _ _ => trivial)
end
def wpE (F : Fence) (n : Nat) (P : Program) (c : Code) (Q : Exit → Act → World → Prop) (a : Act) (w : World) : Prop :=
 ∀ (b : Frame) (k : List Item) (cs : List Frame), b.roundOf = F.round → F.fn b.fn → (∃ fn, P.funcs[b.fn]? = some fn) → F.room (cs.length + 1 + n) →
  ∃ e a' w', Q e a' w' ∧ ArrivesIn (Machine.fenced P F) P (lone (b.atR a (.code c :: k)) cs w) b k cs e a' w'
theorem Jy3 {n : Nat} {c : Code} (h : c.wpIn F n P Q a w) : wpE F n P c Q a w := fun b k cs h1 h2 _ h4 => h b k cs h1 h2 h4
theorem Jva {n : Nat} {x y : Code} (h : wpE F n P x (Exit.then (wpE F n P y Q) Q) a w) : wpE F n P (.seq x y) Q a w := by
 intro b k cs hro hb hfn hr
 have h0 : (lone (b.atR a (.code (.seq x y) :: k)) cs w).fenced P F := fenced_calm hb hr rfl
 obtain ⟨e, a₁, w₁, hq, harr⟩ := h b (.code y :: k) cs hro hb hfn hr
 cases e with
 | normal =>
  obtain ⟨e₂, a₂, w₂, hq₂, harr₂⟩ := hq b k cs hro hb hfn hr
  exact ⟨e₂, a₂, w₂, hq₂, .of_steps (.head h0 stepR_seq harr) harr₂⟩
 | exit id => exact ⟨_, a₁, w₁, hq, .of_steps (.one h0 stepR_seq) (.pass (x := .code y) rfl (fun _ _ => .inl mh) harr)⟩
 | goto l => exact ⟨_, a₁, w₁, hq, .of_steps (.one h0 stepR_seq) (.pass (x := .code y) rfl (fun _ _ => .inl mh) harr)⟩
 | ret => exact ⟨_, a₁, w₁, hq, .of_steps (.one h0 stepR_seq) (.pass (x := .code y) rfl (fun _ _ => .inl mh) harr)⟩
 | panic ch => exact ⟨_, a₁, w₁, hq, .of_steps (.one h0 stepR_seq) (.pass (x := .code y) rfl (fun _ _ => .inl mh) harr)⟩
 | outgrown => exact ⟨_, a₁, w₁, hq, .of_steps (.one h0 stepR_seq) (.pass (x := .code y) rfl (fun _ _ => .inl mh) harr)⟩
theorem Jme {n : Nat} {c : Code} (h : wpE F n P c (Exit.inBlock id Q) a w) : wpE F n P (.block id c) Q a w := by
 intro b k cs hro hb hfn hr
 have h0 : (lone (b.atR a (.code (.block id c) :: k)) cs w).fenced P F := fenced_calm hb hr rfl
 obtain ⟨e, a₁, w₁, hq, harr⟩ := h b (.inBlock id :: k) cs hro hb hfn hr
 cases e with
 | normal => exact ⟨.normal, a₁, w₁, hq, .head h0 stepR_block (StepsIn.trans harr (.one (fenced_calm hb hr rfl) stepR_inBlock))⟩
 | exit id' =>
  by_cases hid : id' = id
  ·simp only [Exit.inBlock, hid, if_true] at hq
   exact ⟨.normal, a₁, w₁, hq, .head h0 stepR_block (harr.1 k (by simp [exitTo, hid]))⟩
  ·simp only [Exit.inBlock, hid, if_false] at hq
   have this : (id == id') = false := by simp; exact fun h => hid h.symm
   have hx : exitTo id' (.inBlock id :: k) = exitTo id' k := by simp [exitTo, this]
   exact ⟨.exit id', a₁, w₁, hq, fun k' hk => .head h0 stepR_block (harr.1 k' N9),
    fun hr' hk => let ⟨k₁, h1, h2⟩ := harr.2 hr' N9; ⟨k₁, h1, .head h0 stepR_block h2⟩⟩
 | goto l =>
  have hx : gotoIn l (.inBlock id :: k) = gotoIn l k := by simp [gotoIn]
  exact ⟨_, a₁, w₁, hq, fun k' hk => .head h0 stepR_block (harr.1 k' N9),
   fun hr' hk => let ⟨k₁, h1, h2⟩ := harr.2 hr' N9; ⟨k₁, h1, .head h0 stepR_block h2⟩⟩
 | ret => exact ⟨_, a₁, w₁, hq, .of_steps (.one h0 stepR_block) harr⟩
 | panic ch => exact ⟨_, a₁, w₁, hq, .of_steps (.one h0 stepR_block) harr⟩
 | outgrown => exact ⟨_, a₁, w₁, hq, .of_steps (.one h0 stepR_block) harr⟩
theorem Jy4 {n : Nat} {f : FuncId} {c : Code} {args : Array Value}
  (hf : P.funcs[f]? = some fn) (hb : fn.body = some c) (hF : F.fn f)
  (h : wpE F n P c (bodyPostM F n P fn R) { tmps := args ++ Array.replicate (fn.ntmps - args.size) undef, defers := [] } w) (hro : F.round = none := by rfl) : CallsIn F n P f args w R := by
 refine ⟨hF, fun cs hr => ?_⟩
 let b : Frame := { (default : Frame) with fn := f, kind := .normal, roundOf := none }
 have henter : Frame.enter P f args .normal =
   b.atR { tmps := args ++ Array.replicate (fn.ntmps - args.size) undef, defers := [] } [.code c] := by
  simp [Frame.enter, Frame.atR, hf, hb, b]
 obtain ⟨e, a', w', hq, harr⟩ := h b [] cs hro.symm hF ⟨fn, hf⟩ hr
 rw [← henter] at harr
 cases e with
 | normal =>
  obtain ⟨e', w'', fr', hR, hs, hfn, hl⟩ := leaves_stepsInM a'.defers .returning w' { b.atR a' [] with mode := .returning } cs rfl rfl rfl hf rfl hF hr hq
  exact ⟨e', w'', fr', hR, ComesIn.of_steps (StepsIn.trans harr (.one (fenced_calm (fr := b.atR a' []) hF hr rfl) (stepR_end rfl))) hs, hfn, hl⟩
 | ret =>
  obtain ⟨todo, hs₀⟩ := harr.1 rfl
  obtain ⟨e', w'', fr', hR, hs, hfn, hl⟩ := leaves_stepsInM a'.defers .returning w' { b.atR a' todo with mode := .returning } cs rfl rfl rfl hf rfl hF hr hq
  exact ⟨e', w'', fr', hR, ComesIn.of_steps hs₀ hs, hfn, hl⟩
 | panic chain =>
  obtain ⟨todo, hs₀⟩ := harr
  obtain ⟨e', w'', fr', hR, hs, hfn, hl⟩ := leaves_stepsInM a'.defers (.panicking chain) w' { b.atR a' todo with mode := .panicking chain } cs rfl rfl rfl hf rfl hF hr hq
  exact ⟨e', w'', fr', hR, ComesIn.of_steps hs₀ hs, hfn, hl⟩
 | exit id => exact hq.elim
 | goto l => exact hq.elim
 | outgrown => exact ⟨.outgrown, w', b, hq, harr.resolve_left (by simp [b]), rfl, trivial⟩
theorem xv {n : Nat} {g : Operand} {ps : Array Tmp}
  (h : ∀ fn, F.fn fn → (∃ fd, P.funcs[fn]? = some fd) → ∃ (l : Nat) (mark : List Deferred) (w₁ : World) (d : Deferred) (w₁' : World) (f : FuncId) (args : Array Value) (w₂ : World),
   (Instr.enterLoop fn a.tmps ps assign body F.round).run P w = .ok (l, mark) w₁ ∧
   (resolve a.eval (rangeCall g l) 0).run P w₁ = .ok d w₁' ∧
   (∀ f', Target.leads P w₁' d.target d.args = some f' → F.fn f') ∧
   (invoke d.target d.args).run P w₁' = .ok (.enter f args) w₂ ∧
   (F.depth.isSome = true → 1 ≤ n) ∧
   CallsIn F (n - 1) P f args w₂ (rangePost F n P l Q { a with defers := mark ++ a.defers })) :
  wpE F n P (.rangeFunc g ps assign body) Q a w := by
 intro b k cs hro hb hfn hr
 have h2 := h b.fn hb hfn
 have h3 : (Code.rangeFunc g ps assign body).wpIn { F with fn := fun f => F.fn f } n P Q a w → True := fun _ => trivial
 obtain ⟨l, mark, w₁, d, w₁', f, args, w₂, he, hres, hlead, hinv, hn, hF, hcall⟩ := h2
 rw [← hro] at he
 have h0 : (lone (b.atR a (.code (.rangeFunc g ps assign body) :: k)) cs w).fenced P F := by
  refine fenced_lone (.inl hb) (fun f' hf' => hlead f' ?_) (Fence.room_le hr m0)
  have hev := Frame.eval_atR b a (.code (.rangeFunc g ps assign body) :: k)
  simp only [Frame.atR] at hev
  simp only [Frame.about, Frame.atR, he, hev, hres] at hf'
  exact hf'
 have henter := stepR_rangeFunc (P := P) (b := b) (a := a) (k := k) (cs := cs) (w := w) he hres hinv
 have hroom : F.room ((b.atR { a with defers := mark ++ a.defers } (.inRangeFunc l :: k) :: cs).length + 1 + (n - 1)) := Fence.room_enter hr hn
 obtain ⟨e, w₃, fr, hR, hsteps, hfn', hleave⟩ := hcall (b.atR { a with defers := mark ++ a.defers } (.inRangeFunc l :: k) :: cs) hroom
 cases e with
 | outgrown =>
  obtain ⟨a₀, w₀, hq⟩ := hR
  exact ⟨.outgrown, a₀, w₀, hq, .inr (Outgrown.of_steps (.one henter) hsteps)⟩
 | returned v =>
  have hl : (lone fr (b.atR { a with defers := mark ++ a.defers } (.inRangeFunc l :: k) :: cs) w₃).fenced P F := fenced_leaving (hfn' ▸ hF) hroom hleave
  obtain ⟨jump, w₄, hend, hj⟩ := hR
  have sback : StepsIn (Machine.fenced P F) P (lone (b.atR a (.code (.rangeFunc g ps assign body) :: k)) cs w) (lone (b.atR { a with defers := mark ++ a.defers } ((jump.map Item.code).toList ++ k)) cs w₄) := by
   refine .head h0 henter (StepsIn.trans hsteps (.head hl ?_ (.one (fenced_calm (fr := b.atR { a with defers := mark ++ a.defers } (.endRangeFunc l :: k)) hb hr rfl) (stepR_endRangeFunc hend))))
   rw [← finish_atR_inRangeFunc l v]; exact step_leave_returned hleave
  cases jump with
  | none => exact ⟨.normal, _, w₄, hj, sback⟩
  | some c =>
   obtain ⟨e', a'', w₅, hq, harr⟩ := hj b k cs hro hb hr
   exact ⟨e', a'', w₅, hq, .of_steps sback harr⟩
 | panicked chain =>
  have hl : (lone fr (b.atR { a with defers := mark ++ a.defers } (.inRangeFunc l :: k) :: cs) w₃).fenced P F := fenced_leaving (hfn' ▸ hF) hroom hleave
  refine ⟨.panic chain, _, w₃, hR, .inRangeFunc l :: k, .head h0 henter (StepsIn.trans hsteps (.one hl ?_))⟩
  rw [← Frame.raise_atR]; exact step_leave_panicked hleave
def wK {σ τ : Type} (c3 : Cx) (Xb : XP) (I : σ → Prop) (LI : σ → Jp) (E : Code → τ → Prop) (LE : τ → Jp) (pc : List PanicEntry → Prop) : Exit → Act → World → Prop
 | .normal, _, w => ∃ s, I s ∧ St c3 (LI s) Xb w
 | .ret, _, w => ∃ s, E .ret s ∧ St c3 (LE s) Xb w
 | .exit id, _, w => ∃ s, E (.exit id) s ∧ St c3 (LE s) Xb w
 | .panic ch, a, w => a.defers = [] ∧ pc ch ∧ ∃ LL, St c3 LL Xb w
 | _, _, _ => False
theorem Jbz {r : Loop} {LE : τ → Jp}
  (h1 : ∀ s w, I s → St c3 (LI s) (Xv q { r with state := .busy }) w → R (.returned (.bool true)) (w.putObj q (.loop { r with state := .ready, pending := none })))
  (h2 : ∀ j s w, E j s → St c3 (LE s) (Xv q { r with state := .busy }) w → R (.returned (.bool false)) (w.putObj q (.loop { r with state := .done, pending := some j })))
  (h3 : ∀ ch LL w, pc ch → St c3 LL (Xv q { r with state := .busy }) w → R (.panicked ch) w)
  (e : Exit) (a : Act) (w : World) (h : wK c3 (Xv q { r with state := .busy }) I LI E LE pc e a w) : jM c3.P q R e a w := by
 have hend : ∀ (w : World) (jump : Option Code), w.heap[q]? = some (.loop { r with state := .busy }) → (Instr.endRound q jump).run c3.P w = .ok (.bool jump.isNone) (w.putObj q (.loop { r with state := if jump.isNone then .ready else .done, pending := jump })) := fun w jump hw => run_endRound (r := { r with state := .busy }) jump hw
 cases e with
 | normal => obtain ⟨s, hs, hst⟩ := h; exact ⟨_, _, hend w none hst.recd, h1 s w hs hst⟩
 | ret => obtain ⟨s, hs, hst⟩ := h; exact ⟨_, _, hend w (some .ret) hst.recd, h2 _ s w hs hst⟩
 | exit id => obtain ⟨s, hs, hst⟩ := h; exact ⟨_, _, hend w (some (.exit id)) hst.recd, h2 _ s w hs hst⟩
 | goto t => exact h.elim
 | panic ch => obtain ⟨hd, hpc, LL, hst⟩ := h; exact ⟨hd, h3 ch LL w hpc hst⟩
 | outgrown => exact h.elim
theorem Jmf {l : Kx} {LE : τ → Jp} (h : pc ch) : HQ c3 [] l L Xb (wK c3 Xb I LI E LE pc (.panic ch)) := fun a w hf hs => ⟨hf.defers, h, L, hs⟩
def HCE (c : Cx) (d : List Deferred) (l : Kx) (L : Jp) (X : XP) (code : Code) (Q : Exit → Act → World → Prop) : Prop :=
 ∀ a w, Fr c.n d l a → St c L X w → wpE (FW c.ro) 0 c.P code Q a w
section
variable {c : Cx} {l : Kx} {L : Jp} {X : XP} {Q : Exit → Act → World → Prop} {d : List Deferred}
theorem Jpz (h : HC c d l L X code Q) : HCE c d l L X code Q := fun a w hf hs => Jy3 (h a w hf hs)
theorem Jjt {x y : Code} (h : ∀ K, (∀ d l L X, HCE c d l L X y Q → HQ c d l L X K) → HCE c d l L X x (Exit.then K Q)) : HCE c d l L X (x.seq y) Q :=
 fun a w hf hs => Jva (h (fun a w => wpE (FW c.ro) 0 c.P y Q a w) (fun _ _ _ _ hy a w hf hs => hy a w hf hs) a w hf hs)
theorem Jmh {b : Code} (h : HCE c d l L X b (Exit.inBlock id Q)) : HCE c d l L X (.block id b) Q := fun a w hf hs => Jme (h a w hf hs)
theorem WD {x y : Code} (h : ∀ K, (∀ d l L X, HCE c d l L X y Q → HQ c d l L X K) → HC c d l L X x (Exit.then K Q)) : HCE c d l L X (x.seq y) Q := Jjt fun K hK => Jpz (h K hK)
theorem Jmi
  (pc : List PanicEntry → Prop) (I : ι → σ → Prop) (LI : σ → Jp) (E : Code → τ → Prop) (LE : τ → Jp) (Lk : Jp) (s0 : σ)
  (hro : c.ro = none) (hf : Kq l f = some (.func (.func gf) #[] caps.toArray)) (eg : Enters c.P gf) (hit : Jpy c.P gf caps Rl p0 nx fi) (hlen : ∀ i v i', nx i v i' → v.length = pp.length) (hpp : pp.all (Nat.blt · c.n) = true)
  (hRl : ∀ p ∈ Rl, p ∈ Lk ∨ p ∈ c.R) (hL : L = LI s0 ++ Lk) (h0 : I p0 s0)
  (hround : ∀ (q : Nat) (Xr Xb : XP) (w3 : World) (i : ι) (v : List Value) (i' : ι) (s : σ), nx i v i' → I i s → ∀ K, Jin (xm c q w3 (QQ (LI s)) Lk) Xr Xb body (wK (xm c q w3 (QQ (LI s)) Lk) Xb (I i') LI E LE pc) K →
   HC (xm c q w3 (QQ (LI s)) Lk) [] (yq pp v l) (LI s) Xr assign (Exit.then K fun _ _ _ => False))
  (hdone : ∀ D i s, fi i → I i s → HQ c (Vs D :: d) l ((D, .deferred (some [])) :: (LI s ++ Lk)) X (Q .normal))
  (hstop : ∀ D j s, E j s → HC c (Vs D :: d) l ((D, .deferred (some [])) :: (LE s ++ Lk)) X j Q)
  (hpan : ∀ D ch, pc ch → HQ c (Vs D :: d) l ((D, .deferred (some [])) :: Lk) X (Q (.panic ch))) :
  HCE c d l L X (.rangeFunc f pp.toArray assign body) Q := fun a w hfr hs => by
 subst hL
 refine xv ?_
 intro fn _ hfdE
 obtain ⟨fd, hfd⟩ := hfdE
 have e0 : (FW c.ro).round = none := by rw [hro]; rfl
 rw [e0]
 obtain ⟨r, hr⟩ : ∃ r : Loop, r = { state := .ready, pending := none, fn, tmps := a.tmps, params := pp.toArray, assign, body, defers := w.heap.size } := ⟨_, rfl⟩
 obtain ⟨w2, hw2⟩ : ∃ w2, (w.alloc (.deferred (some []))).alloc (.loop r) = w2 := ⟨_, rfl⟩
 have hq : (w.alloc (.deferred (some []))).heap.size = w.heap.size + 1 := World.size_alloc _ _
 have hs2 : St c ((w.heap.size + 1, .loop r) :: (w.heap.size, .deferred (some [])) :: (LI s0 ++ Lk)) X w2 := by
  have := (hs.alloc (.deferred (some []))).alloc (.loop r)
  rw [hq, hw2] at this
  exact this
 have hq2 : w2.heap[w.heap.size + 1]? = some (.loop r) := (hs2.own _ List.mem_cons_self).2.2
 have hrr : ({ r with state := .ready, pending := none } : Loop) = r := by rw [hr]
 obtain ⟨M, hM⟩ : ∃ M, QQ (LI s0) = M := ⟨_, rfl⟩
 refine ⟨w.heap.size + 1, [Vs w.heap.size], w2, { target := .fn (.func gf) caps.toArray, args := #[.func (.yield (w.heap.size + 1)) #[] #[]] }, w2, gf, (.func (.yield (w.heap.size + 1)) #[] #[] :: caps).toArray, w2, ?_, ?_, fun _ _ => trivial, ?_, fun hdep => M1, ?_⟩
 rw [← hw2, hr]; exact run_enterLoop_outer _ _ _ _ _
 have := hfr.eval hf
 simp only [resolve, this]
 simp [Deferred.ofValue]
 rfl
 have := eg (#[.func (.yield (w.heap.size + 1)) #[] #[]] ++ caps.toArray) w2
 have e1 : (#[Value.func (.yield (w.heap.size + 1)) #[] #[]] ++ caps.toArray) = (Value.func (.yield (w.heap.size + 1)) #[] #[] :: caps).toArray := by apply Array.toList_inj.1; simp
 rw [e1] at this
 simpa [invoke] using this
 ·-- the iterator's contract at our invariant
  have hown := hs2.distinct
  have hMown : ∀ k ∈ M, ∃ o, (k, o) ∈ LI s0 := fun k hk => by
   rw [← hM] at hk
   obtain ⟨p, hp, rfl⟩ := List.mem_map.1 hk
   exact ⟨p.2, hp⟩
  have hpw := List.pairwise_cons.1 hown
  have hpw2 := List.pairwise_cons.1 hpw.2
  have hpw3 := List.pairwise_append.1 hpw2.2
  have hsz2 : w2.heap.size = w.heap.size + 2 := by rw [← hw2, World.size_alloc, World.size_alloc]
  have hLk2 : ∀ p ∈ Lk, p.1 < w2.heap.size := fun p hp => J1 (hs2.own p (List.mem_cons_of_mem _ (List.mem_cons_of_mem _ (List.mem_append_right _ hp)))).2.2
  have hMk : ∀ p ∈ Lk, p.1 ∉ M ∧ p.1 ≠ w.heap.size + 1 := fun p hp => ⟨fun hm => by
   obtain ⟨o, ho⟩ := hMown _ hm
   exact hpw3.2.2 _ ho _ hp rfl, fun e => hpw.1 p (List.mem_cons_of_mem _ (List.mem_append_right _ hp)) e.symm⟩
  have hMq : w.heap.size + 1 ∉ M := fun hm => by
   obtain ⟨o, ho⟩ := hMown _ hm
   exact hpw.1 _ (List.mem_cons_of_mem _ (List.mem_append_left _ ho)) rfl
  have hMD : w.heap.size ∉ M := fun hm => by
   obtain ⟨o, ho⟩ := hMown _ hm
   exact hpw2.1 _ (List.mem_append_left _ ho) rfl
  have hMlt : ∀ k ∈ M, k < w2.heap.size := fun k hk => by
   obtain ⟨o, ho⟩ := hMown _ hk
   exact J1 (hs2.own _ (List.mem_cons_of_mem _ (List.mem_cons_of_mem _ (List.mem_append_left _ ho)))).2.2
  -- what a place of one's own is apart from
  have apart : ∀ {k : Nat}, (k ∈ M ∨ w2.heap.size ≤ k) → k ≠ w.heap.size + 1 ∧ k ≠ w.heap.size ∧ (∀ p ∈ Lk, p.1 ≠ k) := fun {k} hk => by
   rcases hk with hk | hk
   exact ⟨fun e => hMq (e ▸ hk), fun e => hMD (e ▸ hk), fun p hp e => (hMk p hp).1 (e ▸ hk)⟩
   exact ⟨by omega, by omega, fun p hp e => by have := hLk2 p hp; omega⟩
  have apartR : ∀ {k : Nat}, (k ∈ M ∨ w2.heap.size ≤ k) → ∀ p ∈ c.R, p.1 ≠ k := fun {k} hk p hp e => by
   obtain ⟨e1, _, e3⟩ := hs2.ext p hp
   have h1 := J1 e3
   have h2 := hs.keep.size
   rcases hk with hk | hk
   obtain ⟨o, ho⟩ := hMown _ hk
   rcases (hs2.own _ (List.mem_cons_of_mem _ (List.mem_cons_of_mem _ (List.mem_append_left _ ho)))).1 with g | g
   exact e1 (e ▸ g)
   simp only at g; omega
   omega
  have hcalls := hit (w.heap.size + 1) ((w.heap.size + 1) :: M) w2 (fun i => Jdn (w.heap.size + 1) w2.heap.size M r (I i) LI)
   (fun xs w' => ∃ j, Jdn (w.heap.size + 1) w2.heap.size M { r with state := .done, pending := some j } (E j) LE xs w') pc
   (fun p hp => by
    rcases hRl p hp with hL | hR
    refine ⟨fun hm => ?_, (hs2.own p (List.mem_cons_of_mem _ (List.mem_cons_of_mem _ (List.mem_append_right _ hL)))).2.2⟩
    obtain ⟨h1, h2⟩ := hMk p hL
    rcases List.mem_cons.1 hm with hm | hm
    exact h2 hm
    exact h1 hm
    refine ⟨fun hm => ?_, hs2.readR hR⟩
    rcases List.mem_cons.1 hm with hm | hm
    have h1 := J1 (hs2.ext p hR).2.2
    have h2 := hs.keep.size
    omega
    exact apartR (.inl hm) p hR rfl)
   (fun k hk => by
    rcases List.mem_cons.1 hk with rfl | hk
    exact J1 hq2
    exact hMlt k hk)
   (by
    have := WV (q := w.heap.size + 1) (B := w2.heap.size) (M := M) (rec := r) (I := I p0) (LI := LI) s0 h0 hpw3.1 (fun p hp => .inl (by rw [← hM]; exact List.mem_map_of_mem (f := (·.1)) hp)) (fun p hp => (hs2.own _ (List.mem_cons_of_mem _ (List.mem_cons_of_mem _ (List.mem_append_left _ hp)))).2.2) hq2
    rw [hM] at this
    exact this)
   ?_
  ·refine CallsIn.mono M4 ?_
   rintro e w' (⟨⟨v, rfl⟩, hk, hfin⟩ | ⟨ch, rfl, hpc, hk⟩)
   rotate_left
   refine hpan w.heap.size ch hpc _ w' ⟨hfr.size, by simp [hfr.defers], hfr.slots⟩ ?_
   refine hs2.jump hk (fun k hm => ?_) (List.pairwise_cons.2 ⟨fun p hp => hpw2.1 p (List.mem_append_right _ hp), hpw3.2.1⟩) (fun p hp => ?_)
   rcases List.mem_cons.1 hm with rfl | hm
   exact ⟨_, List.mem_cons_self⟩
   obtain ⟨o, ho⟩ := hMown k hm
   exact ⟨o, List.mem_cons_of_mem _ (List.mem_cons_of_mem _ (List.mem_append_left _ ho))⟩
   rcases List.mem_cons.1 hp with rfl | hp
   refine ⟨.inl ⟨_, List.mem_cons_of_mem _ List.mem_cons_self⟩, ?_⟩
   refine (hk.block w.heap.size (J1 (hs2.own _ (List.mem_cons_of_mem _ List.mem_cons_self)).2.2) ?_).trans (hs2.own _ (List.mem_cons_of_mem _ List.mem_cons_self)).2.2
   simp only [List.mem_cons, not_or]; exact ⟨by omega, hMD⟩
   have hmem := List.mem_cons_of_mem (w.heap.size + 1, Obj.loop r) (List.mem_cons_of_mem (w.heap.size, Obj.deferred (some [])) (List.mem_append_right (LI s0) hp))
   refine ⟨.inl ⟨p.2, hmem⟩, ?_⟩
   obtain ⟨g1, g2⟩ := hMk p hp
   refine (hk.block p.1 (J1 (hs2.own _ hmem).2.2) ?_).trans (hs2.own _ hmem).2.2
   simp only [List.mem_cons, not_or]; exact ⟨g2, g1⟩
   have fin : ∀ (st : LoopState) (pe : Option Code) (LL : Jp), st ≠ .busy → LL.Pairwise (fun p q => p.1 ≠ q.1) → (∀ p ∈ LL, p.1 ∈ M ∨ w2.heap.size ≤ p.1) → wm LL w' → w'.heap[w.heap.size + 1]? = some (.loop { r with state := st, pending := pe }) →
     (Instr.endLoop (w.heap.size + 1)).run c.P w' = .ok pe (w'.putObj (w.heap.size + 1) (.loop { r with state := .exhausted, pending := pe })) ∧
     St c ((w.heap.size, .deferred (some [])) :: (LL ++ Lk)) X (w'.putObj (w.heap.size + 1) (.loop { r with state := .exhausted, pending := pe })) := by
    intro st pe LL hst hpwL hLM hLL hl
    refine ⟨run_endLoop hl hst, ?_⟩
    have hk2 : Keep ((w.heap.size + 1) :: M) w2 (w'.putObj (w.heap.size + 1) (.loop { r with state := .exhausted, pending := pe })) :=
     hk.trans ((Keep.putObj _ _).weak fun k hm => by simp at hm; subst hm; exact List.mem_cons_self)
    have hput : ∀ k, k ≠ w.heap.size + 1 → (w'.putObj (w.heap.size + 1) (.loop { r with state := .exhausted, pending := pe })).heap[k]? = w'.heap[k]? := fun k hne => World.putObj_heap_other hne
    refine hs2.jump hk2 (fun k hm => ?_) ?_ (fun p hp => ?_)
    rcases List.mem_cons.1 hm with rfl | hm
    exact ⟨_, List.mem_cons_self⟩
    obtain ⟨o, ho⟩ := hMown k hm
    exact ⟨o, List.mem_cons_of_mem _ (List.mem_cons_of_mem _ (List.mem_append_left _ ho))⟩
    refine List.pairwise_cons.2 ⟨fun p hp => ?_, List.pairwise_append.2 ⟨hpwL, hpw3.2.1, fun p hp p' hp' => ?_⟩⟩
    rcases List.mem_append.1 hp with hp | hp
    exact fun e => (apart (hLM p hp)).2.1 e.symm
    exact hpw2.1 p (List.mem_append_right _ hp)
    exact fun e => (apart (hLM p hp)).2.2 p' hp' e.symm
    rcases List.mem_cons.1 hp with rfl | hp
    refine ⟨.inl ⟨_, List.mem_cons_of_mem _ List.mem_cons_self⟩, ?_⟩
    rw [hput _ mh]
    refine (hk.block w.heap.size (J1 (hs2.own _ (List.mem_cons_of_mem _ List.mem_cons_self)).2.2) ?_).trans (hs2.own _ (List.mem_cons_of_mem _ List.mem_cons_self)).2.2
    simp only [List.mem_cons, not_or]; exact ⟨by omega, hMD⟩
    rcases List.mem_append.1 hp with hp | hp
    refine ⟨?_, ?_⟩
    rcases hLM p hp with g | g
    obtain ⟨o, ho⟩ := hMown _ g
    exact .inl ⟨o, List.mem_cons_of_mem _ (List.mem_cons_of_mem _ (List.mem_append_left _ ho))⟩
    exact .inr g
    rw [hput _ (apart (hLM p hp)).1]
    exact hLL p hp
    have hmem := List.mem_cons_of_mem (w.heap.size + 1, Obj.loop r) (List.mem_cons_of_mem (w.heap.size, Obj.deferred (some [])) (List.mem_append_right (LI s0) hp))
    refine ⟨.inl ⟨p.2, hmem⟩, ?_⟩
    obtain ⟨g1, g2⟩ := hMk p hp
    rw [hput _ g2]
    refine (hk.block p.1 (J1 (hs2.own _ hmem).2.2) ?_).trans (hs2.own _ hmem).2.2
    simp only [List.mem_cons, not_or]; exact ⟨g2, g1⟩
   have hfr2 : Fr c.n (Vs w.heap.size :: d) l { tmps := a.tmps, defers := [Vs w.heap.size] ++ a.defers } := ⟨hfr.size, by simp [hfr.defers], hfr.slots⟩
   rcases hfin with ⟨i, xs, hi, ⟨s, h1, h2, h3, h4, _⟩, h5⟩ | ⟨xs, j, ⟨s, h1, h2, h3, h4, _⟩, h5⟩
   obtain ⟨g1, g2⟩ := fin .ready none (LI s) mh h2 h3 h4 (by rw [hrr]; exact h5)
   exact ⟨none, _, g1, hdone _ i s hi h1 _ _ hfr2 g2⟩
   ·obtain ⟨g1, g2⟩ := fin .done (some j) (LE s) mh h2 h3 h4 h5
    exact ⟨some j, _, g1, hstop _ j s h1 _ _ hfr2 g2⟩
  ·-- a round
   rintro i v i' hi xs w3 hxs hk3 hfoot
   obtain ⟨⟨s, h1, hpwS, hMS, h2, rfl⟩, h3⟩ := hfoot w3 fun _ _ => rfl
   have hargs : v.toArray.size = r.params.size := by rw [hr]; simpa using hlen i v i' hi
   have hy := run_yield (P := c.P) (args := v.toArray) h3 hargs
   refine ⟨_, _, _, _, hy, ?_⟩
   obtain ⟨c3, hc3⟩ : ∃ c3, xm c (w.heap.size + 1) w3 (QQ (LI s)) Lk = c3 := ⟨_, rfl⟩
   have hc3x : c3.xids = [w.heap.size + 1] := by rw [← hc3]; rfl
   have hc3i : c3.ids = QQ (LI s) := by rw [← hc3]; rfl
   have hc3w : c3.w1 = w3 := by rw [← hc3]; rfl
   have hmemS : ∀ p ∈ LI s, p.1 ∈ QQ (LI s) := fun p hp => List.mem_map_of_mem (f := (·.1)) hp
   have hidS : ∀ {k : Nat}, k ∈ QQ (LI s) → k ∈ M ∨ w2.heap.size ≤ k := fun {k} hk => by
    obtain ⟨p, hp, rfl⟩ := List.mem_map.1 hk
    exact hMS p hp
   have hst3 : St c3 (LI s) (Xv (w.heap.size + 1) r) w3 := by
    subst hc3
    refine ⟨Keep.refl _ _, fun p hp => ⟨.inl (hmemS p hp), ?_, h2 p hp⟩, hpwS, ?_, ?_, [w.heap.size + 1], fun k hk => ?_, fun w' hw' => (hw' _ mh).trans h3⟩
    simp only [xm, List.mem_singleton]; exact (apart (hMS p hp)).1
    intro p hp
    simp only [xm] at hp ⊢
    rcases List.mem_append.1 hp with hp | hp
    obtain ⟨g1, g2⟩ := hMk p hp
    refine ⟨fun hm => (apart (hidS hm)).2.2 p hp rfl, by simpa using g2, ?_⟩
    have hmem := List.mem_cons_of_mem (w.heap.size + 1, Obj.loop r) (List.mem_cons_of_mem (w.heap.size, Obj.deferred (some [])) (List.mem_append_right (LI s0) hp))
    exact (hk3.block p.1 (J1 (hs2.own _ hmem).2.2) MO).trans (hs2.own _ hmem).2.2
    have e3 := hs2.readR hp
    have hlt := J1 (hs2.ext p hp).2.2
    have hsz := hs.keep.size
    have hnq : p.1 ≠ w.heap.size + 1 := fun e => by omega
    refine ⟨fun hm => apartR (hidS hm) p hp rfl, by simpa using hnq, ?_⟩
    exact (hk3.block p.1 (J1 e3) nX).trans e3
    intro k hk; simp only [xm, List.mem_singleton] at hk; subst hk; exact J1 h3
    simp only [List.mem_singleton] at hk
    subst hk
    exact ⟨.inl (by simp [xm]), J1 h3, fun p hp => (apart (hMS p hp)).1⟩
   have hbusy : ∀ {LL : Jp} {w' : World}, St c3 LL (Xv (w.heap.size + 1) r) w' →
     St c3 LL (Xv (w.heap.size + 1) { r with state := .busy, pending := none }) (w'.putObj (w.heap.size + 1) (.loop { r with state := .busy, pending := none })) := by
    intro LL w' hst
    have hlt : w.heap.size + 1 < w'.heap.size := J1 hst.recd
    refine ⟨hst.keep.trans ((Keep.putObj _ _).weak fun k hm => by simp at hm; subst hm; rw [hc3x]; simp), fun p hp => ?_, hst.distinct, hst.ext, hst.xlt, [w.heap.size + 1], fun k hk => ?_, fun w'' hw'' => (hw'' _ mh).trans (World.putObj_heap_same hlt)⟩
    obtain ⟨g1, g2, g3⟩ := hst.own p hp
    refine ⟨g1, g2, (World.putObj_heap_other ?_).trans g3⟩
    intro e; exact g2 (by rw [e, hc3x]; simp)
    simp only [List.mem_singleton] at hk
    subst hk
    exact ⟨.inl (by rw [hc3x]; simp), Nat.lt_of_lt_of_le hlt (Keep.putObj _ _).size, fun p hp e => (hst.own p hp).2.1 (by rw [hc3x, e]; simp)⟩
   have hfr3 : Fr c3.n [] (yq pp v l) { tmps := (r.params.zip v.toArray).foldl (fun (t : Array Value) (pv : Nat × Value) => t.setIfInBounds pv.1 pv.2) r.tmps, defers := [] } := by
    have h5 := Jgr (n := c.n) pp v l a.tmps (fun p hp => by have := List.all_eq_true.1 hpp p hp; simpa using this) ⟨hfr.size, rfl, hfr.slots⟩
    rw [hr, ← hc3]
    simp only [List.zip_toArray, List.foldl_toArray']
    exact h5
   have key : ∀ RR : Ending → World → Prop,
     (∀ s' w', I i' s' → St c3 (LI s') (Xv (w.heap.size + 1) { r with state := .busy, pending := none }) w' → RR (.returned (.bool true)) (w'.putObj (w.heap.size + 1) (.loop { r with state := .ready, pending := none }))) →
     (∀ j s' w', E j s' → St c3 (LE s') (Xv (w.heap.size + 1) { r with state := .busy, pending := none }) w' → RR (.returned (.bool false)) (w'.putObj (w.heap.size + 1) (.loop { r with state := .done, pending := some j }))) →
     (∀ ch LL w', pc ch → St c3 LL (Xv (w.heap.size + 1) { r with state := .busy, pending := none }) w' → RR (.panicked ch) w') →
     RoundIn (FW none) 0 c.P (w.heap.size + 1) r.fn ((r.params.zip v.toArray).foldl (fun (t : Array Value) (pv : Nat × Value) => t.setIfInBounds pv.1 pv.2) r.tmps) r.assign r.body w3 RR := by
    intro RR g1 g2 g3
    refine vn (F := FW none) (fn := fd) trivial (by rw [hr]; exact hfd) ?_
    have hround' := hround (w.heap.size + 1) (Xv (w.heap.size + 1) r) (Xv (w.heap.size + 1) { r with state := .busy, pending := none }) w3 i v i' s hi h1
     (fun a₁ w₁ => ∃ w₂, (Instr.beginRound (w.heap.size + 1)).run c.P w₁ = .ok () w₂ ∧ body.wpIn ((FW none).inRound (w.heap.size + 1)) 0 c.P (jM c.P (w.heap.size + 1) RR) a₁ w₂)
    rw [hc3] at hround'
    have hround'' := hround' (fun l' L' hb a₁ w₁ hf₁ hs₁ => ?_) _ w3 hfr3 hst3
    have e1 : r.assign = assign := by rw [hr]
    have e2 : r.body = body := by rw [hr]
    have e3 : c3.P = c.P := by rw [← hc3]; rfl
    have e4 : c3.ro = some (w.heap.size + 1) := by rw [← hc3]; rfl
    rw [e3, e4] at hround''
    rw [e1, e2]
    exact hround''
    have hx1 : w₁.heap[w.heap.size + 1]? = some (.loop r) := hs₁.recd
    refine ⟨_, run_beginRound hx1 (by rw [hr]), ?_⟩
    have hb2 := hb a₁ _ hf₁ (hbusy hs₁)
    have hb3 : ({ r with state := .busy } : Loop) = { r with state := .busy, pending := none } := by rw [hr]
    rw [hb3]
    have e3 : c3.P = c.P := by rw [← hc3]; rfl
    have e4 : c3.ro = some (w.heap.size + 1) := by rw [← hc3]; rfl
    rw [e3, e4] at hb2
    refine wpIn_mono Mi ?_
    have := Jbz (c3 := c3) (q := w.heap.size + 1) (r := { r with pending := none }) (R := RR) g1 g2 g3
    rw [e3] at this
    exact this
   have turn : ∀ (st : LoopState) (pe : Option Code) (LL : Jp) (w' : World), St c3 LL (Xv (w.heap.size + 1) { r with state := .busy, pending := none }) w' →
     (∀ k ∈ (w.heap.size + 1) :: QQ LL, k < (w'.putObj (w.heap.size + 1) (.loop { r with state := st, pending := pe })).heap.size ∧ (k ∈ (w.heap.size + 1) :: QQ (LI s) ∨ w3.heap.size ≤ k)) ∧
     Keep ((w.heap.size + 1) :: QQ (LI s)) w3 (w'.putObj (w.heap.size + 1) (.loop { r with state := st, pending := pe })) ∧ (∀ p ∈ LL, p.1 ∈ M ∨ w2.heap.size ≤ p.1) ∧ wm LL (w'.putObj (w.heap.size + 1) (.loop { r with state := st, pending := pe })) ∧
     (w'.putObj (w.heap.size + 1) (.loop { r with state := st, pending := pe })).heap[w.heap.size + 1]? = some (.loop { r with state := st, pending := pe }) := by
    intro st pe LL w' hst'
    have hlt : w.heap.size + 1 < w'.heap.size := J1 hst'.recd
    have hk' := hst'.keep
    rw [hc3x, hc3i, hc3w] at hk'
    have hown' : ∀ p ∈ LL, (p.1 ∈ QQ (LI s) ∨ w3.heap.size ≤ p.1) ∧ p.1 ≠ w.heap.size + 1 ∧ w'.heap[p.1]? = some p.2 := fun p hp => by
     have := hst'.own p hp
     rw [hc3x, hc3i, hc3w] at this
     simpa using this
    refine ⟨fun k hk => ?_, ?_, fun p hp => ?_, fun p hp => (World.putObj_heap_other (hown' p hp).2.1).trans (hown' p hp).2.2, World.putObj_heap_same hlt⟩
    rcases List.mem_cons.1 hk with rfl | hk
    exact ⟨Nat.lt_of_lt_of_le hlt (Keep.putObj _ _).size, .inl List.mem_cons_self⟩
    obtain ⟨p, hp, rfl⟩ := List.mem_map.1 hk
    obtain ⟨e1, e2, e3⟩ := hown' p hp
    exact ⟨Nat.lt_of_lt_of_le (J1 e3) (Keep.putObj _ _).size, e1.imp (List.mem_cons_of_mem _) id⟩
    refine (hk'.weak fun k hm => ?_).trans ((Keep.putObj _ _).weak fun k hm => by simp at hm; subst hm; exact List.mem_cons_self)
    rcases List.mem_append.1 hm with hm | hm
    exact List.mem_cons_of_mem _ hm
    simp only [List.mem_singleton] at hm; subst hm; exact List.mem_cons_self
    rcases (hown' p hp).1 with g | g
    exact hidS g
    exact .inr (Nat.le_trans hk3.size g)
   refine key _ ?_ ?_ ?_
   intro s' w' hI' hst'
   obtain ⟨t1, t2, t3, t4, t5⟩ := turn .ready none (LI s') w' hst'
   refine .inl ⟨true, _, rfl, t1, t2, ?_⟩
   rw [if_pos rfl]
   exact WV s' hI' hst'.distinct t3 t4 (by rw [hrr] at t5 ⊢; exact t5)
   ·intro j s' w' hE' hst'
    obtain ⟨t1, t2, t3, t4, t5⟩ := turn .done (some j) (LE s') w' hst'
    refine .inl ⟨false, _, rfl, t1, t2, ?_⟩
    rw [if_neg mh]
    exact fun w'' hw'' => ⟨j, WV s' hE' hst'.distinct t3 t4 t5 w'' hw''⟩
   ·intro ch LL w' hpc hst'
    have hk' := hst'.keep
    rw [hc3x, hc3i, hc3w] at hk'
    refine .inr ⟨ch, rfl, hpc, hk'.weak fun k hm => ?_⟩
    rcases List.mem_append.1 hm with hm | hm
    exact List.mem_cons_of_mem _ hm
    ·simp only [List.mem_singleton] at hm; subst hm; exact List.mem_cons_self
end
theorem Jb0 {f : FuncId} (c : Cx) (hf : P.funcs[f]? = some fn) (hb : fn.body = some code) (hc : c.P = P) (hro : c.ro = none) (hn : c.n = fn.ntmps)
  (hlen : Nat.ble vs.length fn.ntmps = true) (hs : St c L X w) (h : HCE c [] (V2 0 vs) L X code (bodyPostM (FW none) 0 P fn R)) : Calls P f vs.toArray w R := by
 refine callsIn_wide (n := 0) |>.1 (Jy4 hf hb trivial ?_)
 exact El
theorem Jb1 {f : FuncId} {ok : Prop} {bad : Value → Prop} (hf : P.funcs[f]? = some fn) (hb : fn.body = some code) (hlen : Nat.ble vs.length fn.ntmps = true)
  (h : ∀ w, HCE (cxX P w Rl fn.ntmps) [] (V2 0 vs) [] (fun _ _ => True) code (bodyPostM (FW none) 0 P fn (Jpv (cxX P w Rl fn.ntmps) ok bad V LL))) : PureX P f vs.toArray ok bad V LL Rl := ⟨fun w hR =>
 (Jb0 (cxX P w Rl fn.ntmps) hf hb rfl rfl rfl hlen (St.startX hR) (h w)).mono fun _ _ h => h.imp
  (fun ⟨ho, x, he, hs⟩ => ⟨ho, x, he, by have := hs.keep; simpa [cxX] using this, fun p hp => by have := (hs.own p hp); simp only [cxX, List.not_mem_nil, false_or] at this; exact ⟨this.1, this.2.2⟩, hs.distinct⟩)
  (fun ⟨v, hv, he, hk⟩ => ⟨v, hv, he, hk⟩)⟩
def dF (g : FuncId) (caps : List Value) : Deferred := { target := .fn (.func g) caps.toArray, args := #[] }
def Jx3 (c : Cx) (L' : Jp) (X : XP) : Ending → FrameMode → World → Prop := fun e u' w' => (∃ x, e = .returned x) ∧ settle u' = .returning ∧ St c L' X w'
section
variable {c : Cx} {l : Kx} {L : Jp} {X : XP} {Q : Exit → Act → World → Prop} {K : Act → World → Prop} {d : List Deferred}
variable {ops : Array Oper} {rest : List Oper} {i : Nat} {v : Value} {t : TypeId} {ps : String} {af : Array Edge} {gd : Option (Nat × Bool)} {ty : TypeId}
theorem Jp0 (hro : c.ro = none) (hg : Kv l ops ⟨dst, .defer ⟨.value f, #[], at_⟩, ty, ps, af, gd⟩ = some true) (hf : Kq l f = some (.func (.func g) #[] caps.toArray))
  (h : HL c (dF g caps :: d) l L X ops rest Q) (hdst : dst = none) : HL c d l L X ops (⟨dst, .defer ⟨.value f, #[], at_⟩, ty, ps, af, gd⟩ :: rest) Q := fun a w hfr hs => by
 subst hdst
 unfold wpListIn
 rw [if_pos (JH hfr hg)]
 refine ⟨Qo, ?_⟩
 have e0 : (FW c.ro).round = none := by rw [hro]; rfl
 rw [e0, Oper.semAt_none]
 have h4 := hfr.eval hf
 have hrun : (execOp a.eval ⟨none, .defer ⟨.value f, #[], at_⟩, ty, ps, af, gd⟩).run c.P w = .ok (.defer (dF g caps)) w := by
  refine Hd ?_
  simp [resolve, h4, Deferred.ofValue, Result.andThen, dF]
 rw [hrun, Oper.uponIn_defer]
 exact h _ w ⟨hfr.size, by simp [Act.put, hfr.defers], hfr.slots⟩ hs
theorem Jp1 (eg : Enters P g) (caps : List Value) (w : World) : (invoke (dF g caps).target (dF g caps).args).run P w = .ok (.enter g caps.toArray) w := by
 have := eg (#[] ++ caps.toArray) w
 have e1 : (#[] ++ caps.toArray : Array Value) = caps.toArray := by simp
 rw [e1] at this
 simpa [invoke, dF] using this
theorem Jy5 (eg : Enters P g)
  (hD : ∀ w, St c L X w → CallsDIn (FW none) 0 P g caps.toArray .returning w (Jx3 c L' X)) (h : HQ c d l L' X (bodyPostM (FW none) 0 P fn R .ret)) : HQ c (dF g caps :: d) l L X (bodyPostM (FW none) 0 P fn R .ret) := fun a w hf hs => by
 show LeavesInM _ _ _ _ _ _ _ _ _
 rw [hf.defers]
 refine ⟨by simp, .inr ⟨fun hdep => M1, _, _, g, caps.toArray, rfl, Jp1 eg caps w, fun _ _ => trivial, ?_⟩⟩
 refine CallsDIn.mono (hD w hs) ?_
 rintro e u' w' ⟨⟨x, rfl⟩, hu, hs'⟩
 have h1 := h { tmps := a.tmps, defers := d } w' ⟨hf.size, rfl, hf.slots⟩ hs'
 simp only [hu]
 exact h1
theorem Jvb (eg : Enters P g)
  (hD : ∀ w, St c L X w → CallsDIn (FW none) 0 P g caps.toArray (.panicking ch) w (Jx3 c L' X)) (h : HQ c d l L' X (bodyPostM (FW none) 0 P fn R .ret)) : HQ c (dF g caps :: d) l L X (bodyPostM (FW none) 0 P fn R (.panic ch)) := fun a w hf hs => by
 show LeavesInM _ _ _ _ _ _ _ _ _
 rw [hf.defers]
 refine ⟨by simp, .inr ⟨fun hdep => M1, _, _, g, caps.toArray, rfl, Jp1 eg caps w, fun _ _ => trivial, ?_⟩⟩
 refine CallsDIn.mono (hD w hs) ?_
 rintro e u' w' ⟨⟨x, rfl⟩, hu, hs'⟩
 have h1 := h { tmps := a.tmps, defers := d } w' ⟨hf.size, rfl, hf.slots⟩ hs'
 simp only [hu]
 exact h1
end
def HCS (c : Cx) (d : List Deferred) (l : Kx) (L : Jp) (X : XP) (code : Code) (cs : List Frame) (Q : Exit → Act → List Frame → World → Prop) : Prop :=
 ∀ a w, Fr c.n d l a → St c L X w → code.wpSIn (FW none) 0 c.P Q a cs w
def HS (c : Cx) (d : List Deferred) (l : Kx) (L : Jp) (X : XP) (ops : Array Oper) (rest : List Nat) (cs : List Frame) (Q : Exit → Act → List Frame → World → Prop) : Prop :=
 ∀ a w, Fr c.n d l a → St c L X w → wpOpsSIn (FW none) 0 c.P ops Q rest a cs w
section
variable {c : Cx} {l : Kx} {L : Jp} {X : XP} {Q : Exit → Act → List Frame → World → Prop} {d : List Deferred} {cs : List Frame}
variable {ops : Array Oper} {rest : List Nat} {i k : Nat} {v : Value} {o : Oper}
theorem Jp2 (hro : c.ro = none) (h : HC c d l L X code (fun e a w => Q e a cs w)) : HCS c d l L X code cs Q := fun a w hf hs => by
 have h1 := h a w hf hs
 rw [hro] at h1
 exact wpSIn_of_wpIn rfl h1
theorem Jju {x y : Code} (h : ∀ K, (∀ d l L X cs, HCS c d l L X y cs Q → HQ c d l L X (fun a w => K a cs w)) → HCS c d l L X x cs (Exit.thenS K Q)) : HCS c d l L X (x.seq y) cs Q :=
 fun a w hf hs => wpSIn_seq (h (fun a cs w => y.wpSIn (FW none) 0 c.P Q a cs w) (fun _ _ _ _ _ hy a w hf hs => hy a w hf hs) a w hf hs)
theorem zj (h : HS c d l L X ops (List.range ops.size) cs Q) : HCS c d l L X (.region id ops false) cs Q := fun a w hf hs => wpSIn_region (h a w hf hs)
theorem Jp3 (h : HQ c d l L X (fun a w => Q .normal a cs w)) : HS c d l L X ops [] cs Q := h
theorem xw (ho : WR ops.toList k = some o) (hg : Kv l ops o = some true) (hd : o.dst = some i) (hi : Nat.ble (i + 1) c.n = true) (hr : JC c d l L X o v) (h : HS c d ((i, v) :: l) L X ops rest cs Q) : HS c d l L X ops (k :: rest) cs Q := fun a w hf hs => by
 have hk : ops[k]? = some o := by rw [← QX ho]
 simp only [wpOpsSIn, hk]
 refine ⟨Qo, ?_⟩
 rw [if_pos (JH hf hg), hr a w hf hs]
 rw [hd]
 exact h _ w (hf.put (Nat.le_of_ble_eq_true hi)) hs
def Jmj (cs : List Frame) : Value := match recoverD cs with | some (v, _) => v | none => .nilIface
def Jmk (cs : List Frame) : List Frame := match recoverD cs with | some (_, cs') => cs' | none => cs
theorem zk (ho : WR ops.toList k = some o) (hg : Kv l ops o = some true) (hd : o.dst = some i) (hi : Nat.ble (i + 1) c.n = true) (hr : ∀ a w, Fr c.n d l a → (execOp a.eval o).run c.P w = .ok .recover w) (hv : Jmj cs = v) (hc : Jmk cs = cs') (h : HS c d ((i, v) :: l) L X ops rest cs' Q) : HS c d l L X ops (k :: rest) cs Q := fun a w hf hs => by
 have hk : ops[k]? = some o := by rw [← QX ho]
 simp only [wpOpsSIn, hk]
 refine ⟨Qo, ?_⟩
 rw [if_pos (JH hf hg), hr a w hf, hd]
 have h1 := h _ w (hf.put (Nat.le_of_ble_eq_true hi)) hs
 subst hv hc
 unfold Jmj Jmk at h1
 cases e : recoverD cs with
 | none => rw [e] at h1; exact h1
 | some q => obtain ⟨u, cs2⟩ := q; rw [e] at h1; exact h1
theorem Jp4 {R : Ending → FrameMode → World → Prop} {cs : List Frame} (hP : c.P = P) (hcs : cs' = { c₀ with mode := u' } :: cs) (hr : fn.results = rs.toArray) (h : ResAll c l L rs vs) (hR : ∀ w, St c L X w → R (.returned (J6 vs)) u' w) :
  HQ c [] l L X (fun a w => bodyPostS P fn c₀ cs R .ret a cs' w) := fun a w hf hs => ⟨hf.defers, u', hcs, _, hP ▸ vL hf hs h hr, hR w hs⟩
theorem xY {R : Ending → FrameMode → World → Prop} {cs : List Frame} (hP : c.P = P) (hcs : cs' = { c₀ with mode := u' } :: cs) (hr : fn.results = rs.toArray) (h : ResAll c l L rs vs) (hR : ∀ w, St c L X w → R (.returned (J6 vs)) u' w) :
  HQ c [] l L X (fun a w => bodyPostS P fn c₀ cs R .normal a cs' w) := Jp4 (R := R) (fn := fn) hP hcs hr h hR
end
theorem q4 {f : FuncId} {u : FrameMode} {R : Ending → FrameMode → World → Prop} (c : Cx) (hf : P.funcs[f]? = some fn) (hb : fn.body = some code) (hc : c.P = P) (hn : c.n = fn.ntmps)
  (hlen : Nat.ble vs.length fn.ntmps = true) (hs : St c L X w) (h : ∀ c₀ cs, c₀.mode = u → HCS c [] (V2 0 vs) L X code (c₀ :: cs) (bodyPostS P fn c₀ cs R)) : CallsDIn (FW none) 0 P f vs.toArray u w R := by
 refine callsDIn_of_wpSIn hf hb trivial fun c₀ cs hu => ?_
 have h1 := h c₀ cs hu _ w (qV (n := c.n) Mz) hs
 rw [hc, hn] at h1
 exact h1
theorem Jp5 {cs : List Frame} (h : c₀.mode = .panicking (zi v)) : Jmj (c₀ :: cs) = v ∧ Jmk (c₀ :: cs) = { c₀ with mode := .panicking [{ v, recovered := true }] } :: cs := by
 have e : recoverD (c₀ :: cs) = some (v, { c₀ with mode := .panicking [{ v, recovered := true }] } :: cs) := by simp only [recoverD, h, zi]
 unfold Jmj Jmk
 rw [e]
 exact ⟨rfl, rfl⟩
theorem Jp6 {cs : List Frame} (h : c₀.mode = .returning) : Jmj (c₀ :: cs) = .nilIface ∧ Jmk (c₀ :: cs) = { c₀ with mode := .returning } :: cs := by
 have e : recoverD (c₀ :: cs) = none := by simp only [recoverD, h]
 unfold Jmj Jmk
 rw [e]
 refine ⟨rfl, ?_⟩
 cases c₀
 simp only at h
 rw [h]
def Jb2 : Kx → Nat → Option Value
 | [], _ => none
 | (j, v) :: l, i => match Nat.beq i j with | true => some v | false => Jb2 l i
def ZO (ops : List Oper) (j : Nat) : Option Nat := match WR ops j with | some o => o.dst | none => none
def zm (ops : List Oper) (tv : Kx) : List Edge → Kx
 | [] => []
 | e :: es => match ZO ops e.on, Jb2 tv e.on with | some i, some v => (i, v) :: zm ops tv es | _, _ => zm ops tv es
def Jep (ops : List Oper) (tv : Kx) (j : Nat) : Kx := match WR ops j with | some o => zm ops tv (o.after.toList.filter fun e => Region.binds .any e) | none => []
def Jx4 (ops : List Oper) (P : List Nat) (k : Nat) : Bool :=
 (P.all fun j => Nat.blt j ops.length) && Nat.blt k ops.length && !P.contains k && Nat.blt P.length ops.length &&
 ((k :: P).all fun j => match WR ops j with | some o => KI o.op && o.guard.isNone && (o.after.all fun e => !Region.binds .any e || (P.contains e.on && Nat.blt e.on j)) | none => false) &&
 ((List.range ops.length).all fun j => P.contains j || Nat.beq j k || (match WR ops j with | some o => o.after.any fun e => Region.binds .any e && !P.contains e.on | none => false))
def ZP (n : Nat) (l : Kx) (ops : List Oper) : List Nat → Bool
 | [] => true
 | j :: r => (match ZO ops j with | some i => Nat.blt i n && (match V7 l i with | some _ => false | none => true) && (r.all fun j' => match ZO ops j' with | some i' => !Nat.beq i i' | none => false) | none => false) && ZP n l ops r
inductive BoomOk (c : Cx) (d : List Deferred) (l : Kx) (L : Jp) (X : XP) (ops : List Oper) (tv : Kx) : Kx → Prop
  | nil : BoomOk c d l L X ops tv []
  | cons {j : Nat} {v : Value} {o : Oper} {ds rest : Kx} (h1 : WR ops j = some o) (h2 : Jep ops tv j = ds) (h3 : JC c d (ds ++ l) L X o v) (h : BoomOk c d l L X ops tv rest) : BoomOk c d l L X ops tv ((j, v) :: rest)
theorem BoomOk.get {l : Kx} {ops : List Oper} : ∀ {tw : Kx}, BoomOk c d l L X ops tv tw → ∀ p ∈ tw, ∃ o, WR ops p.1 = some o ∧ JC c d (Jep ops tv p.1 ++ l) L X o p.2
 | _, .nil, p, h => by cases h
 | _, .cons h1 h2 h3 h, p, hp => by
  rcases List.mem_cons.1 hp with rfl | hp
  ·exact ⟨_, h1, h2 ▸ h3⟩
  ·exact h.get p hp
theorem zn : ∀ {tv : Kx} {i : Nat} {v : Value}, Jb2 tv i = some v → (i, v) ∈ tv
 | [], _, _, h => by cases h
 | (j, u) :: l, i, v, h => by
  rw [Jb2] at h
  split at h
  ·rename_i e
   obtain rfl := Nat.eq_of_beq_eq_true e
   cases h; exact List.mem_cons_self
  ·exact List.mem_cons_of_mem _ (zn h)
theorem Jp7 {d l : Kx} (h : V7 (d ++ l) i = some v) : (i, v) ∈ d ∨ V7 l i = some v := by
 induction d with
 | nil => exact .inr h
 | cons x xs ih =>
  obtain ⟨j, u⟩ := x
  rw [List.cons_append, V7] at h
  split at h
  ·rename_i e
   obtain rfl := Nat.eq_of_beq_eq_true e
   cases h; exact .inl List.mem_cons_self
  ·exact (ih h).imp (List.mem_cons_of_mem _) id
theorem jN {ops : List Oper} {tv : Kx} : ∀ {es : List Edge} {i : Nat} {v : Value}, (i, v) ∈ zm ops tv es → ∃ e ∈ es, ZO ops e.on = some i ∧ (e.on, v) ∈ tv
 | [], _, _, h => by cases h
 | e :: es, i, v, h => by
  rw [zm] at h
  split at h
  ·rename_i i' v' h1 h2
   rcases List.mem_cons.1 h with e1 | h
   ·cases e1; exact ⟨e, List.mem_cons_self, h1, zn h2⟩
   ·obtain ⟨e', h3, h4⟩ := jN h; exact ⟨e', List.mem_cons_of_mem _ h3, h4⟩
  ·obtain ⟨e', h3, h4⟩ := jN h; exact ⟨e', List.mem_cons_of_mem _ h3, h4⟩
theorem zo {n : Nat} {l : Kx} {ops : List Oper} : ∀ {P : List Nat}, ZP n l ops P = true → ∀ j ∈ P, ∃ i, ZO ops j = some i ∧ i < n ∧ V7 l i = none
 | [], _, j, h => by cases h
 | k :: r, h, j, hj => by
  rw [ZP, Bool.and_eq_true] at h
  rcases List.mem_cons.1 hj with rfl | hj
  ·have h1 := h.1
   split at h1
   ·rename_i i hi
    simp only [Bool.and_eq_true] at h1
    have h2 := h1.1.2
    split at h2
    ·cases h2
    ·rename_i h3
     exact ⟨i, hi, by have := h1.1.1; simpa using this, h3⟩
   ·cases h1
  ·exact zo h.2 j hj
theorem xZ {n : Nat} {l : Kx} {ops : List Oper} : ∀ {P : List Nat}, ZP n l ops P = true → ∀ j ∈ P, ∀ j' ∈ P, j ≠ j' → ∀ i i', ZO ops j = some i → ZO ops j' = some i' → i ≠ i'
 | [], _, j, h, _, _, _, _, _, _, _ => by cases h
 | k :: r, h, j, hj, j', hj', hne, i, i', hi, hi' => by
  rw [ZP, Bool.and_eq_true] at h
  have key : ∀ x ∈ r, ∀ i i', ZO ops k = some i → ZO ops x = some i' → i ≠ i' := fun x hx i i' hi hi' => by
   have h1 := h.1
   rw [hi] at h1
   simp only [Bool.and_eq_true] at h1
   have h2 := List.all_eq_true.1 h1.2 x hx
   rw [hi'] at h2
   simp only [Bool.not_eq_true'] at h2
   intro e
   rw [e, Nat.beq_refl] at h2
   cases h2
  rcases List.mem_cons.1 hj with rfl | hjr
  ·rcases List.mem_cons.1 hj' with rfl | hjs
   ·exact absurd rfl hne
   ·exact key j' hjs i i' hi hi'
  ·rcases List.mem_cons.1 hj' with rfl | hjs
   ·exact fun e => key j hjr i' i hi' hi e.symm
   ·exact xZ h.2 j hjr j' hjs hne i i' hi hi'
theorem q5 {n : Nat} {l : Kx} {ops : List Oper} : ∀ {P : List Nat}, ZP n l ops P = true → P.Nodup
 | [], _ => List.nodup_nil
 | k :: r, h => by
  rw [ZP, Bool.and_eq_true] at h
  refine List.nodup_cons.2 ⟨fun hm => ?_, q5 h.2⟩
  have h1 := h.1
  split at h1
  ·rename_i i hi
   simp only [Bool.and_eq_true] at h1
   have h2 := List.all_eq_true.1 h1.2 k hm
   rw [hi] at h2
   simp at h2
  ·cases h1
theorem Jp8 (h : (tv.map (·.1)).Nodup) {p q : Nat × Value} (hp : p ∈ tv) (hq : q ∈ tv) (e : q.1 = p.1) : q.2 = p.2 := by
 induction tv with
 | nil => cases hp
 | cons x xs ih =>
  rw [List.map_cons, List.nodup_cons] at h
  rcases List.mem_cons.1 hp with rfl | hpr
  ·rcases List.mem_cons.1 hq with rfl | hqr
   ·rfl
   ·exact absurd (List.mem_map.2 ⟨q, hqr, e⟩) h.1
  ·rcases List.mem_cons.1 hq with rfl | hqr
   ·exact absurd (List.mem_map.2 ⟨p, hpr, e.symm⟩) h.1
   ·exact ih h.2 hpr hqr
theorem zp {f g : Nat → Bool} (hfg : ∀ j, g j = true → f j = true) : ∀ P : List Nat, (P.filter g).length ≤ (P.filter f).length
 | [] => Nat.le_refl _
 | x :: xs => by
  have := zp hfg xs
  by_cases hg : g x = true
  ·rw [List.filter_cons_of_pos hg, List.filter_cons_of_pos (hfg x hg)]; simpa using this
  ·rw [List.filter_cons_of_neg hg]
   by_cases hf : f x = true
   ·rw [List.filter_cons_of_pos hf]; simp; omega
   ·rw [List.filter_cons_of_neg hf]; exact this
theorem zq {f g : Nat → Bool} (hfg : ∀ j, g j = true → f j = true) {i : Nat} (h1 : f i = true) (h2 : g i = false) : ∀ {P : List Nat}, i ∈ P → (P.filter g).length < (P.filter f).length
 | [], h => by cases h
 | x :: xs, h => by
  by_cases hx : x = i
  ·subst hx
   rw [List.filter_cons_of_neg (by rw [h2]; simp), List.filter_cons_of_pos h1]
   have := zp hfg xs
   simp; omega
  ·have ih := zq hfg h1 h2 (P := xs) (by rcases List.mem_cons.1 h with e | h; exact absurd e.symm hx; exact h)
   by_cases hg : g x = true
   ·rw [List.filter_cons_of_pos hg, List.filter_cons_of_pos (hfg x hg)]; simpa using ih
   ·rw [List.filter_cons_of_neg hg]
    by_cases hf : f x = true
    ·rw [List.filter_cons_of_pos hf]; simp; omega
    ·rw [List.filter_cons_of_neg hf]; exact ih
theorem Jjv {l : Kx} {ops : List Oper} (tv : Kx) (k : Nat) {ok : Oper} {P : List Nat} {dk : Kx} (hm : c.P.follows .mixedOrders = true) (hP : tv.map (·.1) = P) (hB : Jx4 ops P k = true)
  (hf : ZP c.n l ops P = true) (hr : BoomOk c d l L X ops tv tv) (hk : WR ops k = some ok) (hdk : Jep ops tv k = dk)
  (hp : ∀ (next : Act → World → Prop) a w, Fr c.n d (dk ++ l) a → St c L X w → ok.uponIn (FW c.ro) 0 c.P a next Q ((execOp a.eval ok).run c.P w)) : HC c d l L X (.region id ops.toArray true) Q := fun a w hfr hs => by
 subst hdk
 simp only [Jx4, Bool.and_eq_true] at hB
 obtain ⟨⟨⟨⟨⟨b1, b2⟩, b3⟩, b4⟩, b5⟩, b6⟩ := hB
 have b2' : k < ops.length := by simpa using b2
 have b3' : k ∉ P := by simpa using b3
 have b4' : P.length < ops.length := by simpa using b4
 have toArr : ∀ {j : Nat} {o : Oper}, WR ops j = some o → ops.toArray[j]? = some o := fun {j o} h => by rw [V1] at h; simpa using h
 have op5 : ∀ j, j = k ∨ j ∈ P → ∃ o, WR ops j = some o ∧ KI o.op = true ∧ o.guard = none ∧ ∀ e ∈ o.after, Region.binds .any e = true → e.on ∈ P ∧ e.on < j := fun j hj => by
  have h1 := List.all_eq_true.1 b5 j (by rcases hj with rfl | hj; exact List.mem_cons_self; exact List.mem_cons_of_mem _ hj)
  split at h1
  rename_i o ho
  simp only [Bool.and_eq_true] at h1
  refine ⟨o, ho, h1.1.1, by simpa using h1.1.2, fun e he hb => ?_⟩
  have h2 := h1.2
  rw [Array.all_eq_true_iff_forall_mem] at h2
  have h3 := h2 e he
  rw [hb] at h3
  simpa using h3
  cases h1
 have op6 : ∀ j o, WR ops j = some o → j ∉ P → j ≠ k → ∃ e ∈ o.after, Region.binds .any e = true ∧ e.on ∉ P := fun j o ho hj hjk => by
  have hjl : j < ops.length := by rw [V1] at ho; exact (List.getElem?_eq_some_iff.1 ho).1
  have h1 := List.all_eq_true.1 b6 j (List.mem_range.2 hjl)
  rw [ho] at h1
  have e1 : P.contains j = false := by simpa using hj
  have e2 : Nat.beq j k = false := by rw [Bool.eq_false_iff]; exact fun h => hjk (Nat.eq_of_beq_eq_true h)
  rw [e1, e2] at h1
  simp only [Bool.false_or] at h1
  obtain ⟨q, hq, h2⟩ := Array.any_eq_true.1 h1
  have he := Array.getElem_mem hq
  generalize o.after[q] = e at he h2
  simp only [Bool.and_eq_true, Bool.not_eq_true'] at h2
  exact ⟨e, he, h2.1, by simpa using h2.2⟩
 -- what holds on the way
 let Inv : Array Bool → Act → Prop := fun listed a => listed.size = ops.length ∧ (∀ j, listed.getD j false = true → j ∈ P) ∧ Fr c.n d l a ∧ ∀ p ∈ tv, listed.getD p.1 false = true → ∀ i, ZO ops p.1 = some i → a.tmps[i]? = some p.2
 have both : ∀ {listed : Array Bool} {j : Nat}, listed.size = ops.length → j < ops.length → listed.getD j true = listed.getD j false := fun {listed j} h1 h2 => by
  simp [Array.getD, h1, h2]
 have rdy : ∀ {listed : Array Bool} {a : Act}, Inv listed a → ∀ N j, j ≤ N → (j = k ∨ j ∈ P) → listed.getD j false = false → ∃ i, i ∈ Region.ready .any ops.toArray listed := fun {listed a} hi N => by
  induction N with
  | zero =>
   intro j hj hjP hun
   obtain ⟨o, ho, _, _, hdep⟩ := op5 j hjP
   have hjl : j < ops.length := by rw [V1] at ho; exact (List.getElem?_eq_some_iff.1 ho).1
   exact ⟨j, mem_ready.2 ⟨by rw [both hi.1 hjl]; exact hun, o, toArr ho, fun e he hb => by have := (hdep e he hb).2; omega⟩⟩
  | succ N ih =>
   intro j hj hjP hun
   obtain ⟨o, ho, _, _, hdep⟩ := op5 j hjP
   have hjl : j < ops.length := by rw [V1] at ho; exact (List.getElem?_eq_some_iff.1 ho).1
   by_cases hall : ∀ e ∈ o.after, Region.binds .any e = true → listed.getD e.on false = true
   exact ⟨j, mem_ready.2 ⟨by rw [both hi.1 hjl]; exact hun, o, toArr ho, hall⟩⟩
   obtain ⟨e, he⟩ := Classical.not_forall.1 hall
   obtain ⟨he, h2⟩ := Classical.not_imp.1 he
   obtain ⟨hb, h3⟩ := Classical.not_imp.1 h2
   obtain ⟨h4, h5⟩ := hdep e he hb
   exact ih e.on m0 (.inr h4) (by simpa using h3)
 have frd : ∀ {listed : Array Bool} {a : Act} {j : Nat} {o : Oper}, Inv listed a → WR ops j = some o → (∀ e ∈ o.after, Region.binds .any e = true → listed.getD e.on false = true) → Fr c.n d (Jep ops tv j ++ l) a := fun {listed a j o} hi ho hall => by
  refine ⟨hi.2.2.1.size, hi.2.2.1.defers, fun i v hv => ?_⟩
  rcases Jp7 hv with h | h
  unfold Jep at h
  rw [ho] at h
  obtain ⟨e, he, h1, h2⟩ := jN h
  rw [List.mem_filter] at he
  exact hi.2.2.2 (e.on, v) h2 (hall e (by simpa using he.1) he.2) i h1
  exact hi.2.2.1.slots i v h
 have main : ∀ (f : Nat) (listed : Array Bool) (a : Act) (w : World), Inv listed a → St c L X w → (P.filter fun j => !listed.getD j false).length ≤ f → wpAnyIn (FW c.ro) 0 c.P .any ops.toArray Q (f + 1) listed a w := by
  intro f
  induction f with
  | zero =>
   intro listed a w hi hs hcnt
   have hku : listed.getD k false = false := by
    cases h : listed.getD k false with
    | false => rfl
    | true => exact absurd (hi.2.1 k h) b3'
   refine ⟨fun h0 => ?_, fun i hir => ?_⟩
   obtain ⟨i, hir⟩ := rdy hi k k (Nat.le_refl _) (.inl rfl) hku
   rw [h0] at hir; cases hir
   obtain ⟨hun, o, ho, hall⟩ := mem_ready.1 hir
   have hil : i < ops.length := by have := (Array.getElem?_eq_some_iff.1 ho).1; simpa using this
   have ho' : WR ops i = some o := by rw [V1]; simpa using ho
   by_cases hik : i = k
   subst hik
   rw [hk] at ho'
   cases ho'
   obtain ⟨o2, g1, g2, g3, _⟩ := op5 i (.inl rfl)
   rw [hk] at g1; cases g1
   exact GW
   by_cases hiP : i ∈ P
   have h1 : listed.getD i false = false := by rw [← both hi.1 hil]; exact hun
   have : i ∈ P.filter fun j => !listed.getD j false := List.mem_filter.2 ⟨hiP, by rw [h1]; rfl⟩
   rw [List.length_eq_zero_iff.1 (Nat.le_zero.1 hcnt)] at this
   cases this
   exact DJ
  | succ f ih =>
   intro listed a w hi hs hcnt
   have hku : listed.getD k false = false := by
    cases h : listed.getD k false with
    | false => rfl
    | true => exact absurd (hi.2.1 k h) b3'
   refine ⟨fun h0 => ?_, fun i hir => ?_⟩
   obtain ⟨i, hir⟩ := rdy hi k k (Nat.le_refl _) (.inl rfl) hku
   rw [h0] at hir; cases hir
   ·obtain ⟨hun, o, ho, hall⟩ := mem_ready.1 hir
    have hil : i < ops.length := by have := (Array.getElem?_eq_some_iff.1 ho).1; simpa using this
    have ho' : WR ops i = some o := by rw [V1]; simpa using ho
    by_cases hik : i = k
    subst hik
    rw [hk] at ho'
    cases ho'
    obtain ⟨o2, g1, g2, g3, _⟩ := op5 i (.inl rfl)
    rw [hk] at g1; cases g1
    exact GW
    ·by_cases hiP : i ∈ P
     ·have h1 : listed.getD i false = false := by rw [← both hi.1 hil]; exact hun
      rw [← hP] at hiP
      obtain ⟨p, hpm, rfl⟩ := List.mem_map.1 hiP
      rw [hP] at hiP
      obtain ⟨o2, g1, hrun⟩ := hr.get p hpm
      rw [ho'] at g1; cases g1
      obtain ⟨o3, g2, g3, g4, _⟩ := op5 p.1 (.inr hiP)
      rw [ho'] at g2; cases g2
      obtain ⟨dst, f1, f2, f3⟩ := zo hf p.1 hiP
      have f1' : o.dst = some dst := by unfold ZO at f1; rw [ho'] at f1; exact f1
      unfold wpOpIn
      simp only [ho]
      rw [if_pos (by unfold Region.wanted; rw [g4])]
      refine ⟨Qo, ?_⟩
      rw [Oper.semAt_eq _ _ _ (WT g3), hrun a w (frd hi ho' hall) hs, Oper.uponIn_value, f1']
      refine ih _ _ w ⟨by simp [hi.1], fun j hj => ?_, ?_, fun q hq hlq i' hi' => ?_⟩ hs ?_
      by_cases hjp : j = p.1
      rw [hjp]; exact hiP
      refine hi.2.1 j ?_
      have e1 : (listed.setIfInBounds p.1 true).getD j false = listed.getD j false := getD_set_ne false (fun e => hjp e.symm)
      rw [← e1]; exact hj
      refine ⟨by simp [Act.put, hi.2.2.1.size], by simp [Act.put, hi.2.2.1.defers], fun i2 v2 hv2 => ?_⟩
      have hne : dst ≠ i2 := fun e => by rw [e, hv2] at f3; cases f3
      simp only [Act.put, Array.getElem?_setIfInBounds, if_neg hne]
      exact hi.2.2.1.slots i2 v2 hv2
      ·by_cases hqp : q.1 = p.1
       have e1 : i' = dst := by rw [hqp, f1] at hi'; exact (Option.some.inj hi').symm
       subst e1
       have e2 : q.2 = p.2 := by
        exact Jp8 (by rw [hP]; exact q5 hf) hpm hq hqp
       simp only [Act.put, Array.getElem?_setIfInBounds, if_true, hi.2.2.1.size, f2, e2]
       ·have e1 : (listed.setIfInBounds p.1 true).getD q.1 false = listed.getD q.1 false := getD_set_ne false (fun e => hqp e.symm)
        rw [e1] at hlq
        have hne : dst ≠ i' := xZ hf p.1 hiP q.1 (by rw [← hP]; exact List.mem_map_of_mem (f := (·.1)) hq) (fun e => hqp e.symm) _ _ f1 hi'
        simp only [Act.put, Array.getElem?_setIfInBounds, if_neg hne]
        exact hi.2.2.2 q hq hlq i' hi'
      have hlt := zq (f := fun j => !listed.getD j false) (g := fun j => !(listed.setIfInBounds p.1 true).getD j false) (fun j hj => by
       by_cases hjp : j = p.1
       subst hjp
       simp [Array.getD, hi.1, hil] at hj
       rw [getD_set_ne false (fun e => hjp e.symm)] at hj; exact hj) (i := p.1) (by rw [h1]; rfl) (by simp [Array.getD, hi.1, hil]) hiP
      omega
     exact DJ
 refine wpIn_region_any hm ?_
 have hsz : ops.toArray.size = (ops.length - 1) + 1 := by simp; omega
 rw [hsz]
 refine main _ _ a _ ⟨by simp; omega, fun j hj => ?_, hfr, fun p _ hlp => ?_⟩ MX ?_
 rw [getD_replicate_false] at hj; cases hj
 rw [getD_replicate_false] at hlp; cases hlp
 ·have := List.length_filter_le (fun j => !(Array.replicate ((ops.length - 1) + 1) false).getD j false) P
  omega
end Go.SL
namespace Go.Proofs.YteceenlfegnigaaGreatDoor
set_option linter.all false
open Go.SL Go.RowKit Go.Shelf
variable {cs : Array Value} {s : BS} {g : FuncId} {L' R : Jp} {xs : List (BS × BS)} {l' : List Bool} {a : List Nat} {sp vs : List Value} {m' : List Vl} {B b c cap d e i j m r sz : Nat} {f y : Operand} {pb pi : Pl} {t x : Ty} {q : Ty × Nat × Nat} {α : Type} {z : Value} {row : Vn} {w : World}
theorem Jml : Go.Proofs.Enters Tryz.prog 19 := Go.Proofs.enters_of Tryz.func19 m5 rfl
theorem Jy6 : Go.Proofs.Enters Tryz.prog 27 := Go.Proofs.enters_of Tryz.func27 m5 rfl
theorem Jy7 : Go.Proofs.Enters Tryz.prog 29 := Go.Proofs.enters_of Tryz.func29 m5 rfl
theorem Jy8 : Go.Proofs.Enters Tryz.prog 37 := Go.Proofs.enters_of Tryz.func37 m5 rfl
theorem Jvc : Go.Proofs.Enters Tryz.prog 39 := Go.Proofs.enters_of Tryz.func39 m5 rfl
theorem Jy9 : Go.Proofs.Enters Tryz.prog 40 := Go.Proofs.enters_of Tryz.func40 m5 rfl
theorem Jza : Go.Proofs.Enters Tryz.prog 42 := Go.Proofs.enters_of Tryz.func42 m5 rfl
theorem Jvd : Go.Proofs.Enters Tryz.prog 48 := Go.Proofs.enters_of Tryz.func48 m5 rfl
theorem Jzb : Go.Proofs.Enters Tryz.prog 53 := Go.Proofs.enters_of Tryz.func53 m5 rfl
theorem Jve : Go.Proofs.Enters Tryz.prog 59 := Go.Proofs.enters_of Tryz.func59 m5 rfl
theorem Jvf : Go.Proofs.Enters Tryz.prog 62 := Go.Proofs.enters_of Tryz.func62 m5 rfl
theorem Jzc : Go.Proofs.Enters Tryz.prog 69 := Go.Proofs.enters_of Tryz.func69 m5 rfl
theorem Jzd : Go.Proofs.Enters Tryz.prog 77 := Go.Proofs.enters_of Tryz.func77 m5 rfl
theorem Jze : Go.Proofs.Enters Tryz.prog 78 := Go.Proofs.enters_of Tryz.func78 m5 rfl
theorem Jvg : Go.Proofs.Enters Tryz.prog 79 := Go.Proofs.enters_of Tryz.func79 m5 rfl
theorem Jp9 : Go.Proofs.Enters Tryz.prog 80 := Go.Proofs.enters_of Tryz.func80 m5 rfl
theorem Jvh : Go.Proofs.Enters Tryz.prog 82 := Go.Proofs.enters_of Tryz.func82 m5 rfl
theorem Jvi : Go.Proofs.Enters Tryz.prog 83 := Go.Proofs.enters_of Tryz.func83 m5 rfl
theorem Jvj : Go.Proofs.Enters Tryz.prog 84 := Go.Proofs.enters_of Tryz.func84 m5 rfl
theorem Jvk : Go.Proofs.Enters Tryz.prog 85 := Go.Proofs.enters_of Tryz.func85 m5 rfl
theorem Jqa : Go.Proofs.Enters Tryz.prog 86 := Go.Proofs.enters_of Tryz.func86 m5 rfl
theorem Jmm : Go.Proofs.Enters Tryz.prog 87 := Go.Proofs.enters_of Tryz.func87 m5 rfl
theorem Jvl : Go.Proofs.Enters Tryz.prog 88 := Go.Proofs.enters_of Tryz.func88 m5 rfl
theorem Jho : Go.Proofs.Enters Tryz.prog 89 := Go.Proofs.enters_of Tryz.func89 m5 rfl
theorem Jqb : Go.Proofs.Enters Tryz.prog 90 := Go.Proofs.enters_of Tryz.func90 m5 rfl
theorem Jmn : Go.Proofs.Enters Tryz.prog 91 := Go.Proofs.enters_of Tryz.func91 m5 rfl
theorem Jzf : Go.Proofs.Enters Tryz.prog 93 := Go.Proofs.enters_of Tryz.func93 m5 rfl
theorem jB : Go.Proofs.Enters Tryz.prog 94 := Go.Proofs.enters_of Tryz.func94 m5 rfl
theorem Jqc : Go.Proofs.Enters Tryz.prog 95 := Go.Proofs.enters_of Tryz.func95 m5 rfl
theorem Jjw : Go.Proofs.Enters Tryz.prog 101 := Go.Proofs.enters_of Tryz.func101 m5 rfl
theorem Jqd : Go.Proofs.Enters Tryz.prog 103 := Go.Proofs.enters_of Tryz.func103 m5 rfl
theorem Jqe : Go.Proofs.Enters Tryz.prog 113 := Go.Proofs.enters_of Tryz.func113 m5 rfl
theorem Jqf : Go.Proofs.Enters Tryz.prog 114 := Go.Proofs.enters_of Tryz.func114 m5 rfl
theorem Jjx : Go.Proofs.Enters Tryz.prog 115 := Go.Proofs.enters_of Tryz.func115 m5 rfl
theorem Jjy : Go.Proofs.Enters Tryz.prog 122 := Go.Proofs.enters_of Tryz.func122 m5 rfl
theorem Jqg : Go.Proofs.Enters Tryz.prog 123 := Go.Proofs.enters_of Tryz.func123 m5 rfl
theorem Jqh : Go.Proofs.Enters Tryz.prog 129 := Go.Proofs.enters_of Tryz.func129 m5 rfl
theorem Jjz : Go.Proofs.Enters Tryz.prog 134 := Go.Proofs.enters_of Tryz.func134 m5 rfl
theorem Jqi : Go.Proofs.Enters Tryz.prog 142 := Go.Proofs.enters_of Tryz.func142 m5 rfl
theorem Jqj : Go.Proofs.Enters Tryz.prog 143 := Go.Proofs.enters_of Tryz.func143 m5 rfl
theorem Jeq : Go.Proofs.Enters Tryz.prog 161 := Go.Proofs.enters_of Tryz.func161 m5 rfl
theorem Jqk : Go.Proofs.Enters Tryz.prog 164 := Go.Proofs.enters_of Tryz.func164 m5 rfl
theorem Jj0 : Go.Proofs.Enters Tryz.prog 165 := Go.Proofs.enters_of Tryz.func165 m5 rfl
theorem Jer : Go.Proofs.Enters Tryz.prog 174 := Go.Proofs.enters_of Tryz.func174 m5 rfl
theorem Jql : Go.Proofs.Enters Tryz.prog 175 := Go.Proofs.enters_of Tryz.func175 m5 rfl
theorem Jqm : Go.Proofs.Enters Tryz.prog 181 := Go.Proofs.enters_of Tryz.func181 m5 rfl
theorem Jqn : Go.Proofs.Enters Tryz.prog 186 := Go.Proofs.enters_of Tryz.func186 m5 rfl
theorem Jj1 : Go.Proofs.Enters Tryz.prog 197 := Go.Proofs.enters_of Tryz.func197 m5 rfl
theorem Jqo : Go.Proofs.Enters Tryz.prog 204 := Go.Proofs.enters_of Tryz.func204 m5 rfl
theorem Jj2 : Go.Proofs.Enters Tryz.prog 209 := Go.Proofs.enters_of Tryz.func209 m5 rfl
theorem Jj3 : Go.Proofs.Enters Tryz.prog 210 := Go.Proofs.enters_of Tryz.func210 m5 rfl
theorem Jqp : Go.Proofs.Enters Tryz.prog 212 := Go.Proofs.enters_of Tryz.func212 m5 rfl
theorem Jqq : Go.Proofs.Enters Tryz.prog 230 := Go.Proofs.enters_of Tryz.func230 m5 rfl
theorem vY : Go.Proofs.Enters Tryz.prog 233 := Go.Proofs.enters_of Tryz.func233 m5 rfl
theorem Jj4 : Go.Proofs.Enters Tryz.prog 250 := Go.Proofs.enters_of Tryz.func250 m5 rfl
theorem Jj5 : Go.Proofs.Enters Tryz.prog 273 := Go.Proofs.enters_of Tryz.func273 m5 rfl
theorem Jj6 : Go.Proofs.Enters Tryz.prog 282 := Go.Proofs.enters_of Tryz.func282 m5 rfl
theorem Jhp {k n : Int} {p : Pl} {ins : List Ty} (ht : Ty.In R (.mk k n p ins)) : PureR Tryz.prog 187 [Ty.val (.mk k n p ins)].toArray (.bool (JM k n ins.length)) R := by
 cases ht with
 | mk hk hn hl hs hi =>
 refine Ja Tryz.func187 rfl rfl fun w => Nl fun r1 => ?_; refine Goc 17 [0] rfl rfl (cD (fun g => ?_) fun g => ?_)
 ·refine GY ?_
  refine Jo 11 rfl (fun gb => ?_) (fun gb => ?_) <;> (try simp only [ZZ] at gb) <;> first | (refine LR rfl (Jw rfl rfl rfl) ?_) | (refine LK rfl ?_)
  all_goals refine LW 3 [0] rfl rfl ?_
  all_goals first | refine LK rfl ?_ | (refine Jo 15 rfl (fun gb => ?_) (fun gb => ?_) <;> (try simp only [ZZ] at gb) <;> first | (refine LR rfl (Jw rfl rfl rfl) ?_) | (refine LK rfl ?_))
  all_goals refine Hm ?_
  all_goals first | refine LK rfl ?_ | (refine Jo 20 rfl (fun gb => ?_) (fun gb => ?_) <;> (try simp only [ZZ] at gb) <;> first | (refine LR rfl (Jw rfl rfl rfl) ?_) | (refine LK rfl ?_))
  all_goals refine Hm ?_
  all_goals first | refine LK rfl ?_ | (refine Jo 25 rfl (fun gb => ?_) (fun gb => ?_) <;> (try simp only [ZZ] at gb) <;> first | (refine LR rfl (Jw rfl rfl rfl) ?_) | (refine LK rfl ?_))
  all_goals refine Hm ?_
  all_goals first | refine LK rfl ?_ | (refine Jo 30 rfl (fun gb => ?_) (fun gb => ?_) <;> (try simp only [ZZ] at gb) <;> first | (refine LR rfl (Jw rfl rfl rfl) ?_) | (refine LK rfl ?_))
  all_goals (
   refine LW 5 [0] rfl rfl (J0 1 rfl (X6 4 rfl ?_)); refine Nk fun w1 hs1 => ?_
   refine Ek ?_
   simp_all
   all_goals first | done | rfl | omega | (rw [Bool.eq_iff_iff]; simp only [Bool.and_eq_true, decide_eq_true_eq]; omega)
   skip)
 ·refine NK ?_; refine cD (fun g => ?_) fun g => ?_
  ·refine GY ?_
   refine Jo 42 rfl (fun gb => ?_) (fun gb => ?_) <;> (try simp only [ZZ] at gb) <;> first | (refine LR rfl (Jw rfl rfl rfl) ?_) | (refine LK rfl ?_)
   all_goals (
    refine gz fun w1 hs1 => ?_
    simp_all
    all_goals first | done | rfl | omega | (rw [Bool.eq_iff_iff]; simp only [Bool.and_eq_true, decide_eq_true_eq]; omega)
    skip)
  ·refine E3 ?_; refine cD (fun g => ?_) fun g => ?_
   ·refine J9 2 rfl (cD (fun g => ?_) fun g => ?_)
    ·refine GY ?_
     refine Jo 54 rfl (fun gb => ?_) (fun gb => ?_) <;> (try simp only [ZZ] at gb) <;> first | (refine LR rfl (Jw rfl rfl rfl) ?_) | (refine LK rfl ?_)
     all_goals refine Hm ?_
     all_goals first | refine LK rfl ?_ | (refine Jo 59 rfl (fun gb => ?_) (fun gb => ?_) <;> (try simp only [ZZ] at gb) <;> first | (refine LR rfl (Jw rfl rfl rfl) ?_) | (refine LK rfl ?_))
     all_goals (
      refine gz fun w1 hs1 => ?_
      simp_all
      first | done | rfl | omega | (rw [Bool.eq_iff_iff]; simp only [Bool.and_eq_true, decide_eq_true_eq]; omega)
      skip)
    ·refine E3 ?_; refine cD (fun g => ?_) fun g => ?_
     ·refine J9 2 rfl (cD (fun g => ?_) fun g => ?_)
      ·refine GY ?_
       refine Jo 71 rfl (fun gb => ?_) (fun gb => ?_) <;> (try simp only [ZZ] at gb) <;> first | (refine LR rfl (Jw rfl rfl rfl) ?_) | (refine LK rfl ?_)
       all_goals refine Hm ?_
       all_goals first | refine LK rfl ?_ | (refine Jo 76 rfl (fun gb => ?_) (fun gb => ?_) <;> (try simp only [ZZ] at gb) <;> first | (refine LR rfl (Jw rfl rfl rfl) ?_) | (refine LK rfl ?_))
       all_goals (
        refine gz fun w1 hs1 => ?_
        simp_all
        skip)
      ·refine NK ?_; refine cD (fun g => ?_) fun g => ?_
       ·refine E7 ?_
        refine Jo 86 rfl (fun gb => ?_) (fun gb => ?_) <;> (try simp only [ZZ] at gb) <;> first | (refine LR rfl (Jw rfl rfl rfl) ?_) | (refine LK rfl ?_)
        all_goals refine Gc ?_
        all_goals first | refine LK rfl ?_ | (refine Jo 92 rfl (fun gb => ?_) (fun gb => ?_) <;> (try simp only [ZZ] at gb) <;> first | (refine LR rfl (Jw rfl rfl rfl) ?_) | (refine LK rfl ?_))
        all_goals refine Np ?_
        all_goals (
         refine H4 fun w1 hs1 => ?_
         refine Ek ?_
         simp_all
         skip)
       ·refine QZ 9 [0] rfl rfl ?_
        refine Jo 101 rfl (fun gb => ?_) (fun gb => ?_) <;> (try simp only [ZZ] at gb) <;> first | (refine LR rfl (Jw rfl rfl rfl) ?_) | (refine LK rfl ?_)
        all_goals refine Gc ?_
        all_goals first | refine LK rfl ?_ | (refine Jo 107 rfl (fun gb => ?_) (fun gb => ?_) <;> (try simp only [ZZ] at gb) <;> first | (refine LR rfl (Jw rfl rfl rfl) ?_) | (refine LK rfl ?_))
        all_goals refine Np ?_
        all_goals (
         refine gM ?_; refine Nk fun w1 hs1 => ?_
         refine Ek ?_
         simp_all
         skip)
     ·refine gr ?_; refine cD (fun g => ?_) fun g => ?_
      ·refine GY ?_
       refine Jo 71 rfl (fun gb => ?_) (fun gb => ?_) <;> (try simp only [ZZ] at gb) <;> first | (refine LR rfl (Jw rfl rfl rfl) ?_) | (refine LK rfl ?_)
       all_goals refine Hm ?_
       all_goals first | refine LK rfl ?_ | (refine Jo 76 rfl (fun gb => ?_) (fun gb => ?_) <;> (try simp only [ZZ] at gb) <;> first | (refine LR rfl (Jw rfl rfl rfl) ?_) | (refine LK rfl ?_))
       all_goals (
        refine gz fun w1 hs1 => ?_
        simp_all
        skip)
      ·refine NK ?_; refine cD (fun g => ?_) fun g => ?_
       ·refine E7 ?_
        refine Jo 86 rfl (fun gb => ?_) (fun gb => ?_) <;> (try simp only [ZZ] at gb) <;> first | (refine LR rfl (Jw rfl rfl rfl) ?_) | (refine LK rfl ?_)
        all_goals refine Gc ?_
        all_goals first | refine LK rfl ?_ | (refine Jo 92 rfl (fun gb => ?_) (fun gb => ?_) <;> (try simp only [ZZ] at gb) <;> first | (refine LR rfl (Jw rfl rfl rfl) ?_) | (refine LK rfl ?_))
        all_goals refine Np ?_
        all_goals (
         refine H4 fun w1 hs1 => ?_
         refine Ek ?_
         simp_all
         skip)
       ·refine QZ 9 [0] rfl rfl ?_
        refine Jo 101 rfl (fun gb => ?_) (fun gb => ?_) <;> (try simp only [ZZ] at gb) <;> first | (refine LR rfl (Jw rfl rfl rfl) ?_) | (refine LK rfl ?_)
        all_goals refine Gc ?_
        all_goals first | refine LK rfl ?_ | (refine Jo 107 rfl (fun gb => ?_) (fun gb => ?_) <;> (try simp only [ZZ] at gb) <;> first | (refine LR rfl (Jw rfl rfl rfl) ?_) | (refine LK rfl ?_))
        all_goals refine Np ?_
        all_goals (
         refine gM ?_; refine Nk fun w1 hs1 => ?_
         refine Ek ?_
         simp_all
         skip)
   ·refine gr ?_; refine cD (fun g => ?_) fun g => ?_
    ·refine GY ?_
     refine Jo 54 rfl (fun gb => ?_) (fun gb => ?_) <;> (try simp only [ZZ] at gb) <;> first | (refine LR rfl (Jw rfl rfl rfl) ?_) | (refine LK rfl ?_)
     all_goals refine Hm ?_
     all_goals first | refine LK rfl ?_ | (refine Jo 59 rfl (fun gb => ?_) (fun gb => ?_) <;> (try simp only [ZZ] at gb) <;> first | (refine LR rfl (Jw rfl rfl rfl) ?_) | (refine LK rfl ?_))
     all_goals (
      refine gz fun w1 hs1 => ?_
      simp_all
      first | done | rfl | omega | (rw [Bool.eq_iff_iff]; simp only [Bool.and_eq_true, decide_eq_true_eq]; omega)
      skip)
    ·refine E3 ?_; refine cD (fun g => ?_) fun g => ?_
     ·refine J9 2 rfl (cD (fun g => ?_) fun g => ?_)
      ·refine GY ?_
       refine Jo 71 rfl (fun gb => ?_) (fun gb => ?_) <;> (try simp only [ZZ] at gb) <;> first | (refine LR rfl (Jw rfl rfl rfl) ?_) | (refine LK rfl ?_)
       all_goals refine Hm ?_
       all_goals first | refine LK rfl ?_ | (refine Jo 76 rfl (fun gb => ?_) (fun gb => ?_) <;> (try simp only [ZZ] at gb) <;> first | (refine LR rfl (Jw rfl rfl rfl) ?_) | (refine LK rfl ?_))
       all_goals (
        refine gz fun w1 hs1 => ?_
        simp_all
        all_goals first | done | rfl | omega | (rw [Bool.eq_iff_iff]; simp only [Bool.and_eq_true, decide_eq_true_eq]; omega)
        skip)
      ·refine NK ?_; refine cD (fun g => ?_) fun g => ?_
       ·refine E7 ?_
        refine Jo 86 rfl (fun gb => ?_) (fun gb => ?_) <;> (try simp only [ZZ] at gb) <;> first | (refine LR rfl (Jw rfl rfl rfl) ?_) | (refine LK rfl ?_)
        all_goals refine Gc ?_
        all_goals first | refine LK rfl ?_ | (refine Jo 92 rfl (fun gb => ?_) (fun gb => ?_) <;> (try simp only [ZZ] at gb) <;> first | (refine LR rfl (Jw rfl rfl rfl) ?_) | (refine LK rfl ?_))
        all_goals refine Np ?_
        all_goals (
         refine H4 fun w1 hs1 => ?_
         refine Ek ?_
         simp_all
         skip)
       ·refine QZ 9 [0] rfl rfl ?_
        refine Jo 101 rfl (fun gb => ?_) (fun gb => ?_) <;> (try simp only [ZZ] at gb) <;> first | (refine LR rfl (Jw rfl rfl rfl) ?_) | (refine LK rfl ?_)
        all_goals refine Gc ?_
        all_goals first | refine LK rfl ?_ | (refine Jo 107 rfl (fun gb => ?_) (fun gb => ?_) <;> (try simp only [ZZ] at gb) <;> first | (refine LR rfl (Jw rfl rfl rfl) ?_) | (refine LK rfl ?_))
        all_goals refine Np ?_
        all_goals (
         refine gM ?_; refine Nk fun w1 hs1 => ?_
         refine Ek ?_
         simp_all
         skip)
     ·refine gr ?_; refine cD (fun g => ?_) fun g => ?_
      ·refine GY ?_
       refine Jo 71 rfl (fun gb => ?_) (fun gb => ?_) <;> (try simp only [ZZ] at gb) <;> first | (refine LR rfl (Jw rfl rfl rfl) ?_) | (refine LK rfl ?_)
       all_goals refine Hm ?_
       all_goals first | refine LK rfl ?_ | (refine Jo 76 rfl (fun gb => ?_) (fun gb => ?_) <;> (try simp only [ZZ] at gb) <;> first | (refine LR rfl (Jw rfl rfl rfl) ?_) | (refine LK rfl ?_))
       all_goals (
        refine gz fun w1 hs1 => ?_
        simp_all
        all_goals first | done | rfl | omega | (rw [Bool.eq_iff_iff]; simp only [Bool.and_eq_true, decide_eq_true_eq]; omega)
        skip)
      ·refine NK ?_; refine cD (fun g => ?_) fun g => ?_
       ·refine E7 ?_
        refine Jo 86 rfl (fun gb => ?_) (fun gb => ?_) <;> (try simp only [ZZ] at gb) <;> first | (refine LR rfl (Jw rfl rfl rfl) ?_) | (refine LK rfl ?_)
        all_goals refine Gc ?_
        all_goals first | refine LK rfl ?_ | (refine Jo 92 rfl (fun gb => ?_) (fun gb => ?_) <;> (try simp only [ZZ] at gb) <;> first | (refine LR rfl (Jw rfl rfl rfl) ?_) | (refine LK rfl ?_))
        all_goals refine Np ?_
        all_goals (
         refine H4 fun w1 hs1 => ?_
         refine Ek ?_
         simp_all
         all_goals first | done | rfl | omega | (rw [Bool.eq_iff_iff]; simp only [Bool.and_eq_true, decide_eq_true_eq]; omega)
         skip)
       ·refine QZ 9 [0] rfl rfl ?_
        refine Jo 101 rfl (fun gb => ?_) (fun gb => ?_) <;> (try simp only [ZZ] at gb) <;> first | (refine LR rfl (Jw rfl rfl rfl) ?_) | (refine LK rfl ?_)
        all_goals refine Gc ?_
        all_goals first | refine LK rfl ?_ | (refine Jo 107 rfl (fun gb => ?_) (fun gb => ?_) <;> (try simp only [ZZ] at gb) <;> first | (refine LR rfl (Jw rfl rfl rfl) ?_) | (refine LK rfl ?_))
        all_goals refine Np ?_
        all_goals (
         refine gM ?_; refine Nk fun w1 hs1 => ?_
         refine Ek ?_
         simp_all
         all_goals first | done | rfl | omega | (rw [Bool.eq_iff_iff]; simp only [Bool.and_eq_true, decide_eq_true_eq]; omega)
         skip)
theorem Jes (ht : t.In R) : ∀ d : Int, 0 ≤ d → d ≤ 1000 → PureR Tryz.prog 148 [t.val, .int .i64 d].toArray (.int .i64 (Vp t d)) R := by
  induction ht with
  | @mk k n p ins hk hn hl hs hi ih =>
  intro d hd0 hd1
  have hform := Jhp (.mk hk hn hl hs hi : Ty.In R (.mk k n p ins))
  refine Ja Tryz.func148 rfl rfl fun w => Nl fun r1 => ?_; refine XO 10 [0] rfl rfl ?_
  refine Jo 11 rfl (fun gb => ?_) (fun gb => ?_) <;> (try simp only [ZZ] at gb) <;> first | (refine LR rfl (Jw rfl rfl rfl) ?_) | (refine LK rfl ?_)
  all_goals (
   refine LW 3 [0] rfl rfl (J0 1 rfl (ZE 1 rfl ?_)); refine JI rfl (fun g => ?_) (fun g => ?_)
   try simp only [ZZ] at g
   refine gZ fun w1 hs1 => ?_; rw [Vp, if_pos m0]; rfl
   · try exact Bool.noConfusion g
     all_goals try simp only [ZZ] at g
     all_goals (
      refine GO ?_; refine Nu ?_; refine Jc rfl rfl rfl (enters_of Tryz.func187 m5 rfl) hform oR (DE ?_); refine cD (fun g => ?_) fun g => ?_
      refine gZ fun w1 hs1 => ?_; rw [Vp, if_neg m0, if_pos m9]; rfl
      refine J9 9 rfl (cD (fun g => ?_) fun g => ?_)
      refine gZ fun w1 hs1 => ?_; rw [Vp, if_neg m0, if_neg mA, if_pos m0]; rfl
      refine J9 9 rfl (Js (σ := Nat) (fun i => i ≤ ins.length ∧ Xw (ins.drop i) (d + 1) = Xw ins (d + 1)) (fun i => [(1, .int .i64 d), (2, .pointer (some ⟨r1, 0, none⟩)), (6, .int .i64 (i : Int))]) (fun _ => [(r1, .cells #[.int .i64 k, .int .i64 n, KE ins.length p] 76 (0, 0))]) (fun _ _ _ => True) (fun i => ins.length - i) 0 ⟨by omega, rfl⟩ (lK rfl) (List.Sublist.refl _) (fun _ _ h => h) ?_); rintro i ⟨hi1, hinv⟩; refine G8 ?_; refine cD (fun g => ?_) fun g => ?_
      refine gr ?_
      obtain ⟨y, hy, hmem⟩ := QN M2
      rw [X7 hy, Xw] at hinv; refine gu ?_; refine kQ ?_; refine NZ ?_; refine Jh m0 m0 (Jc rfl rfl rfl (enters_of Tryz.func148 m5 rfl) (ih y hmem (d + 1) m0 m0) oR (HN ?_)); refine cD (fun g => ?_) fun g => ?_
      refine Gz fun w1 hs1 => ?_; rw [Vp, if_neg m0, if_neg mA, if_neg m0, ← hinv, if_neg m9]; rfl
      refine H8 ?_; exact Hs
      refine kT fun w1 hs1 => ?_; rw [Vp, if_neg m0, if_neg mA, if_neg m0, ← hinv, List.drop_of_length_le m0, Xw]; rfl
      skip)
   skip)
theorem vZ (ht : t.In R) : PureR Tryz.prog 96 [t.val].toArray (.int .i64 (Vp t 0)) R := by
 have h1 := Jes ht 0 m0 m0
 obtain ⟨k, n, p, ins⟩ := t
 refine Ja Tryz.func96 rfl rfl fun w => gp fun r1 => ?_; refine Jc rfl rfl rfl (enters_of Tryz.func148 m5 rfl) h1 oR ?_; exact NS
theorem Jet (ht : t.In R) : PureR Tryz.prog 168 [t.val].toArray (.bool (Wi t)) R := by
  induction ht with
  | @mk k n p ins hk hn hl hs hi ih =>
  refine Ja Tryz.func168 rfl rfl fun w => Nl fun r1 => ?_; refine XO 10 [0] rfl rfl ?_
  refine Jo 7 rfl (fun gb => ?_) (fun gb => ?_) <;> (try simp only [ZZ] at gb) <;> first | (refine LR rfl (Jw rfl rfl rfl) ?_) | (refine LK rfl ?_)
  all_goals refine Hm ?_
  all_goals first | refine LK rfl ?_ | (refine Jo 12 rfl (fun gb => ?_) (fun gb => ?_) <;> (try simp only [ZZ] at gb) <;> first | (refine LR rfl (Jw rfl rfl rfl) ?_) | (refine LK rfl ?_))
  all_goals (
   refine LW 3 [0] rfl rfl (J0 1 rfl (ZE 1 rfl ?_)); refine JI rfl (fun g => ?_) (fun g => ?_)
   · try simp only [ZZ] at g
     refine gZ fun w1 hs1 => ?_; rw [Wi]
     simp_all [J6]; done
   · try exact Bool.noConfusion g
     all_goals try simp only [ZZ] at g
     all_goals (
      refine J9 9 rfl (Js (σ := Nat) (fun i => i ≤ ins.length ∧ Zf (ins.drop i) = Zf ins) (fun i => [(1, .pointer (some ⟨r1, 0, none⟩)), (3, .int .i64 (i : Int))]) (fun _ => [(r1, .cells #[.int .i64 k, .int .i64 n, KE ins.length p] 76 (0, 0))]) (fun _ _ _ => True) (fun i => ins.length - i) 0 ⟨by omega, rfl⟩ (lK rfl) (List.Sublist.refl _) (fun _ _ h => h) ?_); rintro i ⟨hi1, hinv⟩; refine G8 ?_; refine cD (fun g => ?_) fun g => ?_
      · refine gr ?_
        obtain ⟨y, hy, hmem⟩ := QN M2
        rw [X7 hy, Zf] at hinv; refine gu ?_; refine kQ ?_; refine Jc rfl rfl rfl (enters_of Tryz.func168 m5 rfl) (ih y hmem) oR (kU ?_); refine cD (fun g => ?_) fun g => ?_
        · refine kT fun w1 hs1 => ?_; rw [Wi]
          simp_all [J6]; done
        refine H8 ?_; refine Nn ?_; exact Jm (i + 1) ⟨by omega, by simp_all⟩ m0 (lK rfl) (List.Sublist.refl _) (fun _ _ h => h)
      · refine kT fun w1 hs1 => ?_; rw [Wi]; rw [← hinv, List.drop_of_length_le m0, Zf]; simp_all [J6]; done
      skip)
   skip)
theorem ZQ (ht : t.In R) : PureR Tryz.prog 123 [t.val].toArray (.bool (JL t)) R := by
 have h1 := vZ ht
 have h2 := Jet ht
 obtain ⟨k, n, p, ins⟩ := t
 refine Ja Tryz.func123 rfl rfl fun w => gp fun r1 => ?_; refine Jc rfl rfl rfl (enters_of Tryz.func96 m5 rfl) h1 oR (NZ ?_)
 refine Jo 6 rfl (fun gb => ?_) (fun gb => ?_) <;> (try simp only [ZZ] at gb) <;> first | (refine LR rfl (Jq (vs := [_, _, _]) rfl (kn 0 rfl) rfl rfl rfl rfl) ?_) | (refine LK rfl ?_)
 all_goals first | (refine Jc rfl rfl rfl (enters_of Tryz.func168 m5 rfl) h2 oR ?_) | refine LK rfl ?_
 all_goals (
  refine kv fun w1 hs1 => ?_
  simp_all [JL, J6]
  skip)
theorem Jaa {k n : Int} {p : Pl} {ins : List Ty} (h1 : k ≠ 1) (h2 : k ≠ 2) (h5 : k ≠ 5) (h3 : k ≠ 3) : JV (.mk k n p ins) = VL ins := by
 rw [JV, if_neg h1, if_neg h2, if_neg h5, if_neg h3]
theorem Jhq (ht : t.In R) : ∀ d : Int, 0 ≤ d → Vp t d = 0 → Wi t = true → PureR Tryz.prog 181 [t.val].toArray (.int .i64 (JV t)) R := by
 induction ht with
 | @mk k n p ins hk hn hl hs hi ih =>
 intro d hd hc hf
 have hsz := jI _ d hd hc hf
 have hb5 := Jbf (show (5 - d).toNat ≤ 5 by omega)
 obtain ⟨hk8, ho, h6, hci⟩ := QE hc
 rw [Wi, Bool.and_eq_true] at hf
 have hne : (k ≠ 4 ∧ k ≠ 6) ∧ k ≠ 8 := by simpa using hf.1
 have hfi := ZL.1 hf.2
 have hsub : ∀ x ∈ ins, 1 ≤ JV x := fun x hx => (jI x (d + 1) m0 (hci x hx) (hfi x hx)).1
 have hone : k = 3 → ins.length = 1 ∧ 1 ≤ n ∧ n ≤ 512 := fun h => by subst h; simp [JM] at ho; omega
 have hbit : k = 5 → 1 ≤ n ∧ n ≤ 512 := fun h => by subst h; simp [JM] at ho; omega
 have hdp : ∀ i, 0 ≤ VL (ins.drop i) := fun i => Int.le_trans m0 (wG (B := 2251799813685248) (l := ins.drop i) fun x hx => ⟨hsub x (List.mem_of_mem_drop hx), Int.le_trans (jI x (d + 1) m0 (hci x (List.mem_of_mem_drop hx)) (hfi x (List.mem_of_mem_drop hx))).2 (Jbf m0)⟩).1
 refine Ja Tryz.func181 rfl rfl fun w => Nl fun r1 => ?_; refine Goc 17 [0] rfl rfl (cD (fun g => ?_) fun g => ?_)
 refine Gcq 10 [0] rfl rfl (Nk fun w1 hs1 => ?_); rw [JV, if_pos m9]; rfl
 ·refine NK ?_; refine cD (fun g => ?_) fun g => ?_
  refine Hx fun w1 hs1 => ?_; rw [JV, if_neg m9, if_pos m9]; rfl
  ·refine NK ?_; refine cD (fun g => ?_) fun g => ?_
   refine QZ 5 [0] rfl rfl (Jh m0 m0 (Vf rfl (Ja0 m0 m0 m0 (J0 6 rfl ?_)))); refine Nk fun w1 hs1 => ?_; rw [JV, if_neg m9, if_neg m9, if_pos m9]; rfl
   ·refine NK ?_; refine cD (fun g => ?_) fun g => ?_
    refine He ?_
    obtain ⟨y, hy, hmem⟩ := QN (show 0 < ins.length by have := hone m9; omega)
    have hyn : JV (.mk k n p ins) = n * JV y := by
     have h1 := hone m9
     rw [JV, if_neg m0, if_neg m0, if_neg m0, if_pos m9, show ins = [y] from by
      match ins, h1.1, hy with
      | [z], _, hy => simp at hy; rw [hy], VL, VL, Int.add_zero]
    rw [hyn] at hsz; refine JR 9 m5 m5 ?_
    refine kE ?_
    refine kE ?_; refine Jb rfl rfl rfl (Jf (j := 0) rfl hs rfl rfl rfl rfl m0) (Jb rfl rfl rfl (Ko oR rfl hs hy rfl rfl) (V8 rfl rfl rfl Jqm (ih y hmem (d + 1) m0 (hci y hmem) (hfi y hmem)) oR (No ?_))); refine Kz (show _ = Value.int .i64 (n * JV y) from congrArg (Value.int .i64) (wrap_i64 m0 m0)) (ku ?_); refine Ev fun w1 hs1 => ?_; rw [hyn]; rfl
    ·refine J9 15 rfl (Js (σ := Nat × Int) (fun s => s.1 ≤ ins.length ∧ 0 ≤ s.2 ∧ s.2 + VL (ins.drop s.1) = VL ins) (fun s => [(1, .pointer (some ⟨r1, 0, none⟩)), (3, .int .i64 s.2), (4, .int .i64 (s.1 : Int))]) (fun _ => [(r1, .cells #[.int .i64 k, .int .i64 n, KE ins.length p] 76 (0, 0))]) (fun _ _ _ => True) (fun s => ins.length - s.1) (0, 0) ⟨by omega, by omega, by simp⟩ (lK rfl) (List.Sublist.refl _) (fun _ _ h => h) ?_); rintro ⟨i, m⟩ ⟨hi1, hm, hinv⟩; simp only at hinv hi1 hm; refine G8 ?_; refine cD (fun g => ?_) fun g => ?_
     refine J9 4 rfl ?_
     obtain ⟨y, hy, hmem⟩ := QN M2
     have hdi := hdp (i + 1)
     have hyp := hsub y hmem
     rw [X7 hy, VL] at hinv; rw [Jaa m0 m0 m0 m0] at hsz; refine QZ 5 [0] rfl rfl (kQ ?_); refine Jc rfl rfl rfl Jqm (ih y hmem (d + 1) m0 (hci y hmem) (hfi y hmem)) oR (Vf rfl (Jh m0 m0 (JK 7 rfl ?_))); refine Nn ?_; exact Jm (i + 1, m + JV y) ⟨by omega, by simp only; omega, by simp only; omega⟩ ml (lK rfl) (List.Sublist.refl _) (fun _ _ h => h)
     ·refine Gz fun w1 hs1 => ?_; rw [Jaa m0 m0 m0 m0, ← hinv, List.drop_of_length_le m0, VL, Int.add_zero]; rfl
theorem W0 : JL t = true ↔ Vp t 0 = 0 ∧ Wi t = true := by unfold JL; simp
theorem zr (ht : t.In R) : PureR Tryz.prog 140 [t.val].toArray (.int .i64 (YD t)) R := by
 have h1 := ZQ ht
 have h2 := Jhq ht 0 m0
 obtain ⟨k, n, p, ins⟩ := t
 refine Ja Tryz.func140 rfl rfl fun w => Nl fun r1 => ?_; refine G1 ?_; refine Nu ?_; refine Jc rfl rfl rfl Jqg h1 oR (kU ?_); refine cD (fun g => ?_) fun g => ?_
 refine gZ fun w1 hs1 => ?_
 simp_all [YD, J6]
 ·refine GO ?_; refine Nu ?_; refine Jc rfl rfl rfl Jqm (h2 (W0.1 m9).1 (W0.1 m9).2) oR (DP fun w1 hs1 => ?_)
  simp_all [YD, J6]
theorem ZR {a a' b' c' d' : Nat} {l : List Bool} {pb' pi' : Pl} {m : List Vl} {k k' : Int} : XR (.mk a b c d l pb m pi k) (.mk a' b' c' d' l' pb' m' pi' k') = (decide ([a, b, c, d] = [a', b', c', d']) && decide (k = k') && decide (l = l') && Wy m m') := by
 rw [XR]; rfl
theorem Jvm {l : List Bool} {x y : Bool} (h1 : l[i]? = some x) (h2 : l'[i]? = some y) (h : x ≠ y) : l ≠ l' := fun e => by subst e; rw [h1] at h2; exact h (Option.some.inj h2)
theorem Jvn {l : List Bool} (hl : l.length = l'.length) (hi : l.length ≤ i) (h : ∀ j, j < i → l[j]? = l'[j]?) : l = l' := by
 apply List.ext_getElem?
 intro j
 by_cases hj : j < i
 ·exact h j hj
 ·rw [List.getElem?_eq_none m0, List.getElem?_eq_none m0]
theorem Jvo {m : List Vl} {x y : Vl} (h1 : m[i]? = some x) (h2 : m'[i]? = some y) (h : XR x y = false) : Wy m m' = false := by
 cases hs : Wy m m' with
 | false => rfl
 | true => rw [(WY.1 hs).2 i x y h1 h2] at h; cases h
theorem Jvp {m : List Vl} (h : m.length ≠ m'.length) : Wy m m' = false := by
 cases hs : Wy m m' with
 | false => rfl
 | true => exact absurd (WY.1 hs).1 h
theorem YH (n : Nat) : Pure Tryz.prog 80 [uV n].toArray (wV [n, 0, 0, 0]) := by
 refine Jz Tryz.func80 rfl rfl fun w => Nl fun r1 => ?_; refine kB ?_; refine kI ?_
 refine kq ?_; refine Ha ?_; refine Jn rfl rfl (.cons (J4 (vs := [_, _, _, _]) rfl (kn 0 rfl) rfl rfl) .nil) (fun w1 hs1 => ?_); exact Ns
theorem Jvq {l : List Nat} (hl : WOk l) (hi : i < 32) : Pure Tryz.prog 178 [wV l, .int .i64 (i : Int)].toArray (.int .i64 (dg l i : Nat)) := by
 refine Jz Tryz.func178 rfl rfl fun w => JN ?_
 have hg := hl.get (i / 8)
 refine G4 fun r1 => ?_; refine Gq ?_; refine Ja0 m0 m0 m0 (D5 ?_); refine LR rfl (JX rfl (kn 0 rfl) rfl (Kj Na)) (NZ ?_); refine Jn9 m0 (Vf rfl (Jh m0 m0 ?_)); refine Vf rfl (ZF m0 m0 (LR rfl (jE (n := i % 8 * 8) rfl rfl m0 mL m0 (Zc _ _)) ?_)); refine Vf rfl (Jj (show _ = Value.int .u64 ((dg l i : Nat) : Int) from congrArg (Value.int .u64) (KM _ 256)) (Vf rfl ?_)); refine Jj (show _ = Value.int .i64 ((dg l i : Nat) : Int) from congrArg (Value.int .i64) (wrap_i64 m0 (by have := Jdr l i; omega))) ?_; exact NS
theorem wa {l : List Nat} (hl : WOk l) : Pure Tryz.prog 137 [wV l].toArray (.string (bs (Yz l 32))) := by
 refine Jz Tryz.func137 rfl rfl fun w => JN (G4 fun r1 => ?_); refine JP 15 rfl (Js (σ := Nat × List Value × Vn) (fun s => s.1 ≤ 32 ∧ s.2.1 = ((Yz l 32).take s.1).map bV ∧ rowOk 1 s.1 s.2.1 s.2.2) (fun s => [(1, .pointer (some ⟨r1, 0, none⟩)), (3, J3 s.1 s.2.2), (4, .int .i64 (31 - (s.1 : Int)))]) (fun s => (r1, .cells (l.map uV).toArray 31 (0, 0)) :: JJ 5 s.2.1 s.2.2) (fun _ _ _ => True) (fun s => 32 - s.1) (0, [], none) ⟨by decide, rfl, ⟨rfl, rfl⟩⟩ (lK rfl) (List.Sublist.refl _) (fun _ _ h => h) ?_); rintro ⟨m, xs, row⟩ ⟨hm, hxs, hrow⟩; simp only at hm hxs hrow ⊢; refine E3 ?_; refine cD (fun g => ?_) fun g => ?_
 refine H8 ?_; refine DU ?_; refine Vb rfl (Jj (show _ = Value.int .i64 ((31 - m : Nat) : Int) from congrArg (Value.int .i64) m0) (J2 rfl rfl rfl (enters_of Tryz.func178 m5 rfl) (Jvq hl (i := 31 - m) m0) ?_)); refine Vf rfl (Jj (Jbc (Jdr l (31 - m))) ?_); refine kc fun r1 => ?_; refine JB (L0 := [_, _]) (xs := xs) (row := row) (n := m) (sz := 1) (b := 1) (news := [_]) (List.perm_append_comm (l₁ := [_, _])) rfl rfl rfl rfl (kn 0 rfl) rfl rfl rfl rfl rfl m7 rfl rfl rfl m7 hrow m0 m0 fun ra cap sp hra => DC ?_; refine Qm [2, 0] (L' := [_, _]) m7 rfl ?_; exact Jm (m + 1, xs ++ [bV (UInt8.ofNat (dg l (31 - m)))], some (ra, cap, sp)) ⟨by simp only; omega, by simp only; rw [Jop l m0, List.map_append, hxs]; rfl, hra⟩ ml (.cons rfl (.cons rfl (.cons (congrArg (fun z => some (Value.int .i64 z)) ml) .nil))) (List.Sublist.refl _) (fun _ _ h => h)
 ·refine gr ?_
  have hm32 : m = 32 := by omega
  subst hm32; rw [List.take_of_length_le (Nat.le_of_eq (QC l 32))] at hxs; subst hxs; refine GN ?_; refine LR rfl (KB (b := Yz l 32) (row := row) (e := 5) rfl hrow (fun p hp => .inl (List.mem_cons_of_mem _ hp)) rfl rfl rfl) ?_; exact NS
theorem Jqr {l : List Nat} (hi : i < 32) : ((List.replicate (32 - i) (0 : UInt8) ++ Yz l i).map bV).set (31 - i) (bV (UInt8.ofNat (dg l i))) = (List.replicate (32 - (i + 1)) 0 ++ Yz l (i + 1)).map bV := by
 rw [← List.map_set, show 32 - i = (31 - i) + 1 from by omega, Jun, show 32 - (i + 1) = 31 - i from by omega]
 rfl
theorem Zo {l : List Nat} (hl : WOk l) : Pure Tryz.prog 115 [wV l].toArray (.string (bs (Yz l 32))) := by
 refine Jz Tryz.func115 rfl rfl fun w => JN (G4 fun r1 => ?_); refine kB ?_; refine Wq (n := 32) (b := 1) rfl rfl rfl rfl rfl rfl rfl rfl rfl m7 m7 fun r2 => DE ?_; refine Js (σ := Nat) (fun i => i ≤ 32) (fun i => [(1, .pointer (some ⟨r1, 0, none⟩)), (3, .slice (some ⟨r2, 0, none⟩) 32 32), (6, .int .i64 (i : Int))]) (fun i => [(r2, .cells ((List.replicate (32 - i) (0 : UInt8) ++ Yz l i).map bV).toArray 5 (0, 0)), (r1, .cells (l.map uV).toArray 31 (0, 0))]) (fun _ _ _ => True) (fun i => 32 - i) 0 (Nat.zero_le _) (lK rfl) (List.Sublist.refl _) (fun _ _ h => h) ?_; intro i hi; refine NK ?_; refine cD (fun g => ?_) fun g => ?_
 refine Jt 14 rfl (Jh m0 m0 (NZ ?_)); refine Ja0 m0 m0 m0 (D5 ?_); refine LR rfl (JX rfl (kn 1 rfl) rfl (Kj Na)) (NZ ?_); refine Jn9 m0 (Vf rfl (Jh m0 m0 (LR rfl (jE (n := i % 8 * 8) rfl rfl m0 mL m0 (Zc _ _)) ?_))); refine Vf rfl (Jj (show _ = bV (UInt8.ofNat (dg l i)) from qm _) (LR rfl (Kg (j := 31 - i) (m := 1) (off' := 31 - i) rfl rfl rfl rfl m0 m0 m0) ?_)); refine Ks (k := 0) (off := 31 - i) (xs := (List.replicate (32 - i) (0 : UInt8) ++ Yz l i).map bV) (ys := (List.replicate (32 - (i + 1)) 0 ++ Yz l (i + 1)).map bV) rfl rfl rfl rfl rfl rfl (by simp [QC]; omega) (Jqr m0) rfl (kB ?_); exact Hz
 ·refine gr ?_
  have hi32 : i = 32 := by omega
  subst hi32; refine GN ?_; refine LR rfl (KB (b := Yz l 32) (row := some (r2, 32, [])) (e := 5) rfl ⟨rfl, rfl⟩ (fun p hp => .inl mU) rfl rfl rfl) ?_; exact NS
theorem zt (s : List UInt8) : Pure Tryz.prog 184 [.string (bs s)].toArray (Juo (wo s)) := by
 refine Jz Tryz.func184 rfl rfl fun w => JN ?_
 obtain ⟨f, hf⟩ : ∃ f : Nat → Nat, f = fun t => (s.getD (31 - t) 0).toNat := ⟨_, rfl⟩
 have hfl : ∀ i, f i < 256 := fun i => by rw [hf]; exact Vh _
 have hfu : jX f 32 = xq s := by rw [hf]; rfl
 refine kj ?_; refine LN rfl fun r1 => Gq ?_; refine kG ?_; refine kU ?_; refine cD (fun g => ?_) fun g => ?_
 refine kj ?_; refine kI ?_
 refine E8 ?_; refine Jn rfl rfl (.cons (J4 (vs := [_, _, _, _]) rfl (kn 0 rfl) rfl rfl) (.cons (Jx rfl) .nil)) (fun w1 hs1 => ?_); refine ⟨?_, hs1.keep⟩; rw [show wo s = (zW, 2) from by unfold wo; rw [if_neg m0]]; rfl
 ·refine GO ?_; refine LN rfl fun r2 => HN ?_; refine Js (σ := Nat) (fun i => i ≤ 32) (fun i => [(0, .string (bs s)), (2, .pointer (some ⟨r1, 0, none⟩)), (4, .pointer (some ⟨r2, 0, none⟩)), (10, .int .i64 (i : Int))]) (fun i => [(r2, .cells ((jX f i).map uV).toArray 31 (0, 0)), (r1, .cells (zW.map uV).toArray 31 (0, 0))]) (fun _ _ _ => True) (fun i => 32 - i) 0 (Nat.zero_le _) (lK rfl) (List.Sublist.refl _) (fun _ _ h => h) ?_; intro i hi; refine NK ?_; refine cD (fun g => ?_) fun g => ?_
  refine J9 10 rfl (JR 15 m5 m5 (gk ?_)); refine Jyn m0 m0 m0 (Gh ?_); refine Jb rfl rfl rfl (JX rfl (kn 0 rfl) rfl (Kj (by rw [Jiu]; omega))) (kp ?_); refine No ?_; refine Ww m0 m0 (Jb rfl rfl rfl (Vt (j := 31 - i) rfl rfl rfl m0 m0 rfl) (No ?_)); refine Kz (show _ = Value.int .u64 ((f i : Nat) : Int) from by rw [hf]; exact congrArg (Value.int .u64) (wrap_u64 m0 (by have := Vh (s.getD (31 - i) 0); omega))) (gk ?_); refine Jyo m0 (No ?_); refine Ww m0 m0 (Jb rfl rfl rfl (ZI (n := i % 8 * 8) rfl rfl m0 mL (ql (qk (hfl i) m0))) (Jb rfl rfl rfl (Qa (op := .or) (b := (((jX f i).getD (i / 8) 0 + f i * 2 ^ (i % 8 * 8) : Nat) : Int)) rfl rfl rfl ((Jgy hfl i).get _) (qk (hfl i) m0) (congrArg (fun z : Nat => (z : Int)) (by rw [Jit f m0]; exact Joq (Jon hfl _ _)))) (Gh ?_))); refine Kn (Ks (k := 0) (off := i / 8) (xs := (jX f i).map uV) (ys := (jX f (i + 1)).map uV) rfl rfl rfl rfl rfl rfl (by simp [Jiu]; omega) (QV (Joo f m0)) rfl (kB ?_)); exact Hz
  ·refine NK ?_
   have hi32 : i = 32 := by omega
   subst hi32; refine Dq ?_; refine LR rfl (Ji (xs := (jX f 32).map uV) rfl (kn 0 rfl) rfl rfl rfl) (Jv (k := 1) (n := 4) (ys := (jX f 32).map uV) rfl rfl rfl rfl rfl rfl rfl rfl rfl (Ge ?_)); refine Jn rfl rfl (.cons (J4 (vs := [_, _, _, _]) rfl (kn 1 rfl) rfl rfl) (.cons (Jx rfl) .nil)) (fun w1 hs1 => ?_); refine ⟨?_, hs1.keep⟩; rw [show wo s = (xq s, 0) from by unfold wo; rw [if_pos m0], ← hfu]; rfl
theorem Jvr {b : List Nat} (ha : a.length = 4) (hb : b.length = 4) : PureE (α := Nat × Nat) Tryz.prog 281 [wV a, wV b].toArray (fun p => .func (.func 287) #[] #[.pointer (some ⟨p.1, 0, none⟩), .pointer (some ⟨p.2, 0, none⟩)])
  (fun p => [(p.2, .cells (b.map uV).toArray 31 (0, 0)), (p.1, .cells (a.map uV).toArray 31 (0, 0))]) := by
 refine VP Tryz.func281 rfl rfl fun w => gA fun r1 r2 => ?_; refine kB ?_; exact kN
def Jqs (a b : List Nat) (i : Nat) : List Value := [.int .i64 (i : Int), .agg [.int .u64 ((a.getD i 0 : Nat) : Int), .int .u64 ((b.getD i 0 : Nat) : Int)].toArray]
theorem Jvs {b : List Nat} (ha : a.length = 4) (hb : b.length = 4) (p1 p2 : Nat) : Ja2 Tryz.prog 287 [.pointer (some ⟨p1, 0, none⟩), .pointer (some ⟨p2, 0, none⟩)]
    [(p2, .cells (b.map uV).toArray 31 (0, 0)), (p1, .cells (a.map uV).toArray 31 (0, 0))] 0 (nxN (Jqs a b) 4) (Jgq 4) := by
  refine WW Tryz.func287 rfl rfl fun q xids w2 XI XF hY => JN (NK ?_); refine Js (σ := Nat) (fun i => i ≤ 4) (fun i => [(0, .func (.yield q) #[] #[]), (1, .pointer (some ⟨p1, 0, none⟩)), (2, .pointer (some ⟨p2, 0, none⟩)), (5, .int .i64 (i : Int))]) (fun _ => []) (fun i => XI i) (fun i => 4 - i) 0 (Nat.zero_le _) (lK rfl) (List.nil_sublist _) (fun _ _ h => h) ?_; intro i hi; refine NK ?_; refine cD (fun g => ?_) fun g => ?_
  · refine J9 11 rfl (JR 9 m5 m5 (kp ?_)); refine Nm ?_; refine Jb rfl rfl rfl (J7 (j := i) (m := 1) (off' := i) rfl rfl rfl rfl rfl m0 m0) (Jb rfl rfl rfl (JX rfl (JG (k := 1) rfl) rfl (Kj m0)) (Nm ?_)); refine Jb rfl rfl rfl (J7 (j := i) (m := 1) (off' := i) rfl rfl rfl rfl rfl m0 m0) (Jb rfl rfl rfl (JX rfl (JG (k := 0) rfl) rfl (Kj m0)) (Jb rfl rfl rfl (J5 (r := [_, _]) rfl rfl) (Kn (Xi (XT := XI (i + 1)) (XF := XF) rfl rfl rfl rfl (hY i (Jqs a b i) (i + 1) ⟨by omega, rfl, rfl⟩) ?_ ?_))))
    all_goals (
     refine HV ?_; refine JI rfl (fun g => ?_) (fun g => ?_)
     · try exact Bool.noConfusion g
       all_goals try simp only [ZZ] at g
       all_goals (
        exact Nv
        skip)
     · try exact Bool.noConfusion g
       all_goals try simp only [ZZ] at g
       all_goals (
        refine GX ?_; exact kr
        skip)
     skip)
  · refine Ga fun w1 hs1 => ?_
    obtain ⟨xs1, hx1⟩ := hs1.now
    exact ⟨⟨_, rfl⟩, hs1.keep, .inl ⟨i, _, (by show i = 4; omega), hx1⟩⟩
theorem Jvt {F G : Nat → Nat → Nat → Nat} (C : Car Tryz.prog g F G) {b : List Nat} (ha : WOk a) (hb : WOk b) : Pure Tryz.prog 270 [wV a, wV b, .func (.func g) #[] #[]].toArray (Juo (crR F G a b)) := by
 refine Jz Tryz.func270 rfl rfl fun w => gA fun r1 r2 => ?_; refine LN rfl fun r3 => KK (cs := (zW.map uV).toArray) rfl rfl rfl rfl fun r4 => kB ?_; refine KK (cs := (zW.map uV).toArray) rfl rfl rfl rfl fun r5 => GU ?_; refine LN rfl fun r6 => ?_
 refine kq ?_; refine kB ?_; refine LR rfl (Ji (xs := a.map uV) (n := 4) rfl (kn 5 rfl) rfl rfl Mn) (LR rfl (Ji (xs := b.map uV) (n := 4) rfl (kn 4 rfl) rfl rfl Mo) (VD rfl rfl rfl (enters_of Tryz.func281 m5 rfl) (Jvr ha.1 hb.1) fun pp => ?_))
 obtain ⟨p1, p2⟩ := pp
 change HL _ _ _ [(p2, _), (p1, _), (r6, _), (r5, _), (r4, _), (r3, _), (r2, _), (r1, _)] _ _ _ _; refine kU ?_; refine YZ [3, 2, 0, 1, 4, 5, 6, 7] m7 rfl (Y8 (τ := Unit) (fun i (s : List Nat × Nat) => s = xr F G a b i ∧ i ≤ 4) (fun s => [(r5, .cells (s.1.map uV).toArray 31 (0, 0)), (r6, .cells #[uV s.2] 29 (0, 0))]) (fun _ _ => False) (fun _ => []) [(p2, _), (p1, _), (r4, _), (r3, _), (r2, _), (r1, _)] (zW, 0) rfl rfl (enters_of Tryz.func287 m5 rfl) (Jvs ha.1 hb.1 p1 p2) mI rfl mh rfl ⟨rfl, by decide⟩ ?_ ?_ ?_)
 rintro q Xr Xb w3 i _ _ s ⟨hi, rfl, rfl⟩ ⟨hs, -⟩ Kr hKr; refine inR ?_
 have hs4 : s.1.length = 4 := by rw [hs]; exact ju F G a b i
 have hs1 : s.2 ≤ 1 := by rw [hs]; exact (Jos C ha hb i).2
 refine H8 ?_; refine LN rfl fun r1 => ?_
 refine kq ?_; refine Gv ?_; clear hKr; refine GN ?_; refine LR rfl (Jd rfl (JG (k := 3) rfl) rfl rfl) ?_
 refine Du ?_; refine LR rfl (Jd rfl (kn 0 rfl) rfl rfl) ?_
 refine LR rfl (J7 (j := 1) rfl rfl rfl rfl rfl mM mb) (LS 2 [0, 2] rfl rfl (LR rfl (Jui rfl rfl (fun w => C.run (a.getD i 0) (b.getD i 0) s.2 w hs1)) (GK ?_))); refine LR rfl (J7 (j := i) (m := 1) (off' := i) rfl rfl rfl rfl rfl m0 m0) (Ks (k := 1) (off := i) (xs := s.1.map uV) (ys := (s.1.set i (F (a.getD i 0) (b.getD i 0) s.2)).map uV) rfl rfl rfl rfl rfl rfl (by rw [List.length_map, hs4]; omega) (QV rfl) rfl ?_)
 refine LT 2 rfl rfl (J0 2 rfl (Qm [1, 2] (L' := [_, _]) m7 rfl (Vg (xr F G a b (i + 1)) ⟨rfl, by omega⟩ ?_))); simp only [xr, ← hs]
 rintro D i s hfi ⟨hs, -⟩
 have hi4 : i = 4 := hfi
 subst hi4
 have hs4 : s.1.length = 4 := by rw [hs]; exact ju F G a b 4
 have hcr : crR F G a b = if s.2 = 0 then (s.1, 0) else (zW, 6) := by rw [hs]; rfl
 refine Gqc 9 [2] rfl rfl (cD (fun h9 => ?_) fun h9 => ?_)
 refine kj ?_; refine kI ?_
 refine LT 5 rfl rfl (gt ?_); refine DX ?_
 (refine Jn rfl rfl (.cons (J4 (vs := [_, _, _, _]) rfl (kn 5 rfl) rfl rfl) (.cons (Jx rfl) .nil)) (fun w1 hs1 => ?_)
  exact ⟨by rw [hcr, if_neg m0]; rfl, hs1.keep⟩)
 refine GO ?_; refine LR rfl (Ji (xs := s.1.map uV) (n := 4) rfl (kn 1 rfl) rfl rfl (by rw [List.length_map, hs4])) (Jv (k := 5) (n := 4) (ys := s.1.map uV) rfl rfl rfl rfl rfl (by rw [List.length_map, hs4]) rfl (by simp [uV, Va, List.all_map, List.all_eq_true]) rfl (Ge ?_)); refine DX ?_
 (refine Jn rfl rfl (.cons (J4 (vs := s.1.map uV) rfl (kn 5 rfl) rfl (by rw [List.length_map, hs4]; rfl)) (.cons (Jx rfl) .nil)) (fun w1 hs1 => ?_)
  exact ⟨by rw [hcr, if_pos m0]; rfl, hs1.keep⟩)
 ·exact Gb
theorem Jvu : Car Tryz.prog 271 qn jA := by
 refine ⟨fun x y c w hc => ?_, fun x y c => Nat.mod_lt _ m7, fun x y c hx hy hc => ?_⟩
 ·show (callFunc _ #[.int .u64 (x : Int), .int .u64 (y : Int), .int .u64 (c : Int)]).run _ _ = _
  rw [run_callFunc_extern Tryz.func271 m5 m5 m5 (e := sub64Entry) m5, run_sub64 x y c hc]
  rfl
 ·unfold jA; split <;> omega
theorem Jhr {b : List Nat} (ha : WOk a) (hb : WOk b) : Pure Tryz.prog 253 [wV a, wV b].toArray (Juo (xt a b)) := by
 refine Jz Tryz.func253 rfl rfl fun w => gA fun r1 r2 => ?_; refine KK (cs := (zW.map uV).toArray) rfl rfl rfl rfl fun r3 => kB ?_; refine LR rfl (Ji (xs := a.map uV) (n := 4) rfl (kn 2 rfl) rfl rfl Mn) (LR rfl (Ji (xs := b.map uV) (n := 4) rfl (kn 1 rfl) rfl rfl Mo) (J2 rfl rfl rfl (enters_of Tryz.func270 m5 rfl) (Jvt Jvu ha hb) (NZ ?_))); refine DY ?_; refine Ge ?_; refine Jn rfl rfl (.cons (J4 (vs := (xt a b).1.map uV) rfl (kn 0 rfl) rfl (by rw [List.length_map, show (xt a b).1.length = 4 from Jbd]; rfl)) (.cons (Jx rfl) .nil)) (fun w1 hs1 => ?_); exact Ns
theorem Jeu {b : List Nat} (ha : WOk a) (hb : WOk b) : Pure Tryz.prog 206 [wV a, wV b].toArray (.bool (xH a b)) := by
 refine Jz Tryz.func206 rfl rfl fun w => gA fun r1 r2 => ?_; refine G1 ?_; refine Dl ?_; refine LR rfl (jr (xs := a.map uV) (ys := b.map uV) (n := 4) rfl rfl rfl rfl rfl m5 Mn Mo (jv rfl a) (jv rfl b)) (Jj (congrArg Value.bool (Zd (ha.1.trans hb.1.symm))) (HY ?_)); refine cD (fun g => ?_) fun g => ?_
 ·refine gZ fun w1 hs1 => ?_
  (have hab : a = b := by assumption
   unfold xH; simp [J6, hab]; done)
 ·refine GO ?_; refine Dl ?_; refine J2 rfl rfl rfl (enters_of Tryz.func253 m5 rfl) (Jhr ha hb) (GK ?_); refine KK (cs := (zW.map uV).toArray) rfl rfl rfl rfl fun r3 => DY ?_; refine J0 11 rfl (Nk fun w1 hs1 => ?_)
  (have hab : ¬ a = b := by assumption
   unfold xH; simp [J6, hab])
theorem Jb3 {l : List Nat} (hl : WOk l) : Pure Tryz.prog 61 [wV l].toArray (yA l) := by
 refine Jz Tryz.func61 rfl rfl fun w => JN (G4 fun r1 => ?_); refine JP 6 rfl (JR 5 m5 m5 (Jb rfl rfl rfl (Ji (xs := l.map uV) (n := 4) rfl (kn 0 rfl) rfl rfl Mm) ?_))
 refine kR ?_; refine Jb rfl rfl rfl (JX rfl (kn 0 rfl) rfl (Kj Na)) (Qk rfl rfl rfl Jp9 (YH (l.getD 0 0)) (Jb rfl rfl rfl (Jip (xs := l.map uV) (ys := [l.getD 0 0, 0, 0, 0].map uV) (n := 4) rfl rfl rfl rfl rfl m5 Mm rfl (jv rfl _) (jv rfl _)) (Kz (show _ = Value.bool (!XQ l) from congrArg (fun z => Value.bool (!z)) (Zd (by rw [hl.1]; rfl))) (Kn (HY ?_))))); refine cD (fun g => ?_) fun g => ?_
 refine KQ 8 rfl (NL fun w1 hs1 => ?_)
 (have hsm : XQ l = false := by assumption
  unfold yA; simp [J6, hsm, uV])
 ·refine GO ?_
  refine Du ?_; refine LR rfl (JX rfl (kn 0 rfl) rfl (Kj Na)) (gt ?_); refine NL fun w1 hs1 => ?_
  (have hsm : XQ l = true := by assumption
   unfold yA; simp [J6, hsm, uV]; done)
end Go.Proofs.YteceenlfegnigaaGreatDoor
namespace Go.Proofs
open Go.Shelf
def Tryz.lays161_ren : Go.Shelf.Ren := ⟨fun | 161 => 252 | 231 => 266 | 227 => 267 | 233 => 268 | 235 => 269 | 228 => 278 | 197 => 279 | 151 => 280 | 260 => 285 | 152 => 286 | 137 => 288 | 119 => 289 | 224 => 290 | 225 => 291 | 217 => 292 | 266 => 293 | n => n, fun | 9 => 9 | 4 => 4 | 3 => 3 | 5 => 5 | 117 => 241 | 116 => 240 | 0 => 0 | 124 => 244 | 105 => 255 | 21 => 21 | 119 => 264 | 46 => 121 | 139 => 267 | 138 => 266 | n => n, fun | 3 => 1 | 4 => 2 | n => n⟩
theorem Tryz.lays161 : Go.Proofs.Lays.n161 Tryz.prog Tryz.lays161_ren := {
 mixed := by kernel_rfl
 f119 := Tryz.func289.trans (congrArg some (by kernel_rfl))
 f137 := Tryz.func288.trans (congrArg some (by kernel_rfl))
 f151 := Tryz.func280.trans (congrArg some (by kernel_rfl))
 f152 := Tryz.func286.trans (congrArg some (by kernel_rfl))
 f161 := Tryz.func252.trans (congrArg some (by kernel_rfl))
 f197 := Tryz.func279.trans (congrArg some (by kernel_rfl))
 f217 := Tryz.func292.trans (congrArg some (by kernel_rfl))
 f224 := Tryz.func290.trans (congrArg some (by kernel_rfl))
 f225 := Tryz.func291.trans (congrArg some (by kernel_rfl))
 f227 := Tryz.func267.trans (congrArg some (by kernel_rfl))
 f228 := Tryz.func278.trans (congrArg some (by kernel_rfl))
 f231 := Tryz.func266.trans (congrArg some (by kernel_rfl))
 f233 := Tryz.func268.trans (congrArg some (by kernel_rfl))
 f235 := Tryz.func269.trans (congrArg some (by kernel_rfl))
 f260 := Tryz.func285.trans (congrArg some (by kernel_rfl))
 f266 := Tryz.func293.trans (congrArg some (by kernel_rfl))
 t0 := Tryz.underlying0
 a0 := Tryz.isAgg0
 z0 := Tryz.sizeOf0
 v0 := Tryz.zeroValue0
 t3 := Tryz.underlying3
 a3 := Tryz.isAgg3
 z3 := Tryz.sizeOf3
 v3 := Tryz.zeroValue3
 t4 := Tryz.underlying4
 a4 := Tryz.isAgg4
 z4 := Tryz.sizeOf4
 v4 := Tryz.zeroValue4
 t5 := Tryz.underlying5
 a5 := Tryz.isAgg5
 z5 := Tryz.sizeOf5
 v5 := Tryz.zeroValue5
 t9 := Tryz.underlying9
 a9 := Tryz.isAgg9
 z9 := Tryz.sizeOf9
 v9 := Tryz.zeroValue9
 t21 := Tryz.underlying21
 a21 := Tryz.isAgg21
 z21 := Tryz.sizeOf21
 v21 := Tryz.zeroValue21
 t46 := Tryz.underlying121
 a46 := Tryz.isAgg121
 z46 := Tryz.sizeOf121
 v46 := Tryz.zeroValue121
 t105 := Tryz.underlying255
 a105 := Tryz.isAgg255
 z105 := Tryz.sizeOf255
 v105 := Tryz.zeroValue255
 t116 := Tryz.underlying240
 a116 := Tryz.isAgg240
 z116 := Tryz.sizeOf240
 t117 := Tryz.underlying241
 a117 := Tryz.isAgg241
 z117 := Tryz.sizeOf241
 v117 := Tryz.zeroValue241
 t119 := Tryz.underlying264
 a119 := Tryz.isAgg264
 z119 := Tryz.sizeOf264
 t124 := Tryz.underlying244
 a124 := Tryz.isAgg244
 z124 := Tryz.sizeOf244
 v124 := Tryz.zeroValue244
 t138 := Tryz.underlying266
 a138 := Tryz.isAgg266
 z138 := Tryz.sizeOf266
 v138 := Tryz.zeroValue266
 t139 := Tryz.underlying267
 a139 := Tryz.isAgg267
 z139 := Tryz.sizeOf267
 v139 := Tryz.zeroValue267
 g3 := by kernel_rfl
 g4 := by kernel_rfl }
open Go.RowKit in
theorem Tryz.strings_TrimLeft_one (s : ByteArray) (c : UInt8) (hc : c.toNat < 128) (w : World) :
  Calls Tryz.prog 252 #[.string s, .string ⟨#[c]⟩] w fun e w' => e = .returned (.string ⟨(Lib.trimLeftB s.data.toList c).toArray⟩) ∧ w' = w := Any.strings_TrimLeft_one Tryz.lays161 s c hc w
def Tryz.lays105_ren : Go.Shelf.Ren := ⟨fun | 105 => 69 | 212 => 98 | 99 => 99 | 165 => 100 | 166 => 101 | 170 => 102 | 169 => 103 | 263 => 153 | 264 => 154 | 206 => 155 | 240 => 156 | 241 => 157 | 276 => 192 | 277 => 193 | n => n, fun | 9 => 9 | 3 => 3 | 4 => 4 | 20 => 20 | 0 => 0 | 46 => 121 | 109 => 122 | 5 => 5 | 72 => 127 | 76 => 131 | 51 => 163 | 146 => 164 | 53 => 29 | 148 => 166 | 70 => 125 | 37 => 55 | 75 => 130 | 127 => 168 | 164 => 200 | 80 => 60 | n => n, fun | n => n⟩
theorem Tryz.lays105 : Go.Proofs.Lays.n105 Tryz.prog Tryz.lays105_ren := {
 mixed := by kernel_rfl
 f99 := Tryz.func99.trans (congrArg some (by kernel_rfl))
 f105 := Tryz.func69.trans (congrArg some (by kernel_rfl))
 f165 := Tryz.func100.trans (congrArg some (by kernel_rfl))
 f166 := Tryz.func101.trans (congrArg some (by kernel_rfl))
 f169 := Tryz.func103.trans (congrArg some (by kernel_rfl))
 f170 := Tryz.func102.trans (congrArg some (by kernel_rfl))
 f206 := Tryz.func155.trans (congrArg some (by kernel_rfl))
 f212 := Tryz.func98.trans (congrArg some (by kernel_rfl))
 f240 := Tryz.func156.trans (congrArg some (by kernel_rfl))
 f241 := Tryz.func157.trans (congrArg some (by kernel_rfl))
 f263 := Tryz.func153.trans (congrArg some (by kernel_rfl))
 f264 := Tryz.func154.trans (congrArg some (by kernel_rfl))
 f276 := Tryz.func192.trans (congrArg some (by kernel_rfl))
 f277 := Tryz.func193.trans (congrArg some (by kernel_rfl))
 t0 := Tryz.underlying0
 a0 := Tryz.isAgg0
 z0 := Tryz.sizeOf0
 v0 := Tryz.zeroValue0
 t3 := Tryz.underlying3
 a3 := Tryz.isAgg3
 z3 := Tryz.sizeOf3
 v3 := Tryz.zeroValue3
 t4 := Tryz.underlying4
 a4 := Tryz.isAgg4
 z4 := Tryz.sizeOf4
 v4 := Tryz.zeroValue4
 t5 := Tryz.underlying5
 a5 := Tryz.isAgg5
 z5 := Tryz.sizeOf5
 v5 := Tryz.zeroValue5
 t9 := Tryz.underlying9
 a9 := Tryz.isAgg9
 z9 := Tryz.sizeOf9
 v9 := Tryz.zeroValue9
 t20 := Tryz.underlying20
 a20 := Tryz.isAgg20
 z20 := Tryz.sizeOf20
 v20 := Tryz.zeroValue20
 t37 := Tryz.underlying55
 a37 := Tryz.isAgg55
 z37 := Tryz.sizeOf55
 v37 := Tryz.zeroValue55
 t46 := Tryz.underlying121
 a46 := Tryz.isAgg121
 z46 := Tryz.sizeOf121
 v46 := Tryz.zeroValue121
 t51 := Tryz.underlying163
 a51 := Tryz.isAgg163
 z51 := Tryz.sizeOf163
 v51 := Tryz.zeroValue163
 t53 := Tryz.underlying29
 a53 := Tryz.isAgg29
 z53 := Tryz.sizeOf29
 v53 := Tryz.zeroValue29
 t70 := Tryz.underlying125
 a70 := Tryz.isAgg125
 z70 := Tryz.sizeOf125
 v70 := Tryz.zeroValue125
 t72 := Tryz.underlying127
 a72 := Tryz.isAgg127
 z72 := Tryz.sizeOf127
 v72 := Tryz.zeroValue127
 t75 := Tryz.underlying130
 a75 := Tryz.isAgg130
 z75 := Tryz.sizeOf130
 v75 := Tryz.zeroValue130
 t76 := Tryz.underlying131
 a76 := Tryz.isAgg131
 z76 := Tryz.sizeOf131
 v76 := Tryz.zeroValue131
 t109 := Tryz.underlying122
 a109 := Tryz.isAgg122
 z109 := Tryz.sizeOf122
 v109 := Tryz.zeroValue122
 t127 := Tryz.underlying168
 a127 := Tryz.isAgg168
 z127 := Tryz.sizeOf168
 v127 := Tryz.zeroValue168
 t146 := Tryz.underlying164
 a146 := Tryz.isAgg164
 z146 := Tryz.sizeOf164
 v146 := Tryz.zeroValue164
 t148 := Tryz.underlying166
 a148 := Tryz.isAgg166
 z148 := Tryz.sizeOf166
 v148 := Tryz.zeroValue166
 t164 := Tryz.underlying200
 a164 := Tryz.isAgg200
 z164 := Tryz.sizeOf200
 v164 := Tryz.zeroValue200 }
theorem Tryz.Builder_Extra_105 : Builder.Extra Tryz.prog Tryz.lays105_ren := {
 sizeBuilder := by kernel_rfl
 liesBuilder := by kernel_rfl
 t5 := Tryz.underlying5
 a5 := Tryz.isAgg5
 z5 := Tryz.sizeOf5
 v5 := Tryz.zeroValue5
 infoByte := by kernel_rfl
 cellsByte := by kernel_rfl
 sizeByte := by kernel_rfl
 neB5 := by decide }
open Go.RowKit Go.Lib in
theorem Tryz.strings_Repeat (s : ByteArray) (c : Nat) (w : World) (hc : c ≤ 9223372036854775807) (hlen : s.size * c ≤ 140737488355328) :
  Calls Tryz.prog 69 #[.string s, .int .i64 c] w fun e w' => e = .returned (.string ⟨(Lib.repeatL s.data.toList c).toArray⟩) ∧ Below w.heap.size w w' := Any.strings_Repeat Tryz.lays105 Tryz.Builder_Extra_105 s c w hc hlen
end Go.Proofs
namespace Go.Proofs.YteceenlfegnigaaGreatDoor
set_option linter.all false
open Go.SL Go.RowKit Go.Shelf
variable {cs : Array Value} {s : BS} {g : FuncId} {dp : Int} {R : Jp} {xs : List (BS × BS)} {a : List Nat} {vs : List Value} {B b c d e i j m r : Nat} {f y : Operand} {pb pi : Pl} {t x : Ty} {q : Ty × Nat × Nat} {α : Type} {z : Value} {v : Vl} {w : World}
theorem Jev (s : List UInt8) : Pure Tryz.prog 252 [.string (bs s), .string ⟨#[0]⟩].toArray (.string (bs (Lib.trimLeftB s 0))) := ⟨fun w => by
 have h := Tryz.strings_TrimLeft_one (bs s) 0 m7 w
 refine h.mono fun e w' ⟨h1, h2⟩ => ⟨?_, h2 ▸ Keep.refl _ _⟩
 rw [h1]; simp [bs]⟩
theorem vo {n : Nat} (hn : n ≤ 32) : Pure Tryz.prog 69 [.string ⟨#[0]⟩, .int .i64 (n : Int)].toArray (.string (bs (Lib.repeatL [0] n))) := ⟨fun w => by
 have hs : (ByteArray.mk #[0]).size = 1 := rfl
 have h := Tryz.strings_Repeat ⟨#[0]⟩ n w m0 (by rw [hs]; omega)
 refine h.mono fun e w' ⟨h1, h2⟩ => ⟨?_, Keep.of_below h2⟩
 rw [h1]; rfl⟩
def Wu (l : List Nat) : List UInt8 := Lib.trimLeftB (Yz l 32) 0
theorem q6 {l : List Nat} (hl : WOk l) : Pure Tryz.prog 201 [wV l].toArray (.string (bs (Wu l))) := by
 refine Jz Tryz.func201 rfl rfl fun w => JN (G4 fun r1 => ?_); refine kB ?_; refine DU ?_; refine J2 rfl rfl rfl Jjx (Zo hl) (J2 rfl rfl rfl (enters_of Tryz.func252 m5 rfl) (Jev (Yz l 32)) ?_); exact NS
theorem Jmo {t : List UInt8} (h1 : 0 < t.length) (h2 : ((t.getD 0 0).toNat : Int) = 0) : Lib.trimLeftB (t.drop 1) 0 = Lib.trimLeftB t 0 := by
 match t, h1 with
 | x :: t, _ =>
  have hx : x = 0 := by
   have : x.toNat = 0 := by simpa using h2
   exact UInt8.toNat_inj.1 this
  subst hx
  simp [Lib.trimLeftB]
theorem Jqt {t : List UInt8} (h : ¬ 0 < t.length ∨ ((t.getD 0 0).toNat : Int) ≠ 0) : Lib.trimLeftB t 0 = t := by
 match t, h with
 | [], _ => rfl
 | x :: t, h =>
  have hx : ¬ x = 0 := by
   rintro rfl
   rcases h with h | h
   ·simp at h
   ·simp at h
  simp [Lib.trimLeftB, hx]
theorem wb {l : List Nat} (hl : WOk l) : Pure Tryz.prog 234 [wV l].toArray (.string (bs (Wu l))) := by
  refine Jz Tryz.func234 rfl rfl fun w => JN (G4 fun r1 => ?_); refine kB ?_; refine DU ?_; refine J2 rfl rfl rfl (enters_of Tryz.func137 m5 rfl) (wa hl) (JP 5 rfl (Js (σ := List UInt8) (fun t => Lib.trimLeftB t 0 = Wu l) (fun t => [(3, .string (bs t))]) (fun _ => []) (fun _ _ _ => True) (fun t => t.length) (Yz l 32) rfl (.cons rfl .nil) (List.nil_sublist _) (fun _ _ h => h) ?_)); intro t ht; refine GO ?_; refine Ey ?_
  refine Jo 9 rfl (fun gb => ?_) (fun gb => ?_) <;> (try simp only [ZZ] at gb) <;> first | (refine Vb rfl ?_) | (refine LK rfl ?_)
  all_goals first | refine LR rfl (Vt (j := 0) rfl rfl rfl rfl m0 rfl) ?_ | refine LK rfl ?_
  all_goals (
   refine gi ?_; refine JI rfl (fun g => ?_) (fun g => ?_)
   · try exact Bool.noConfusion g
     all_goals try simp only [ZZ] at g
     all_goals (
      refine gH ?_; refine LR rfl (Vu (kl := some (.i64, 1)) (kh := none) (m := 1) (n := t.length) rfl rfl rfl rfl rfl rfl m0 m0 (show _ = t.drop 1 from by rw [List.take_length])) (Ha ?_); refine Jr ?_
      first
      | (exfalso; omega)
      | exact Jm (t.drop 1) ((Jmo m0 m9).trans ht) Me (.cons rfl .nil) (List.nil_sublist _) (fun _ _ h => h)
      skip)
   try simp only [ZZ] at g
   refine Gz fun w1 hs1 => ?_
   have hh : Lib.trimLeftB t 0 = t := Jqt (by first | (left; omega) | (right; assumption))
   rw [← ht, hh]; rfl
   skip)
def Vo (v : Vl) (num bits items pick : Bool) : Bool := (num || decide (v.num = [0, 0, 0, 0])) && (bits || decide (v.bits.length = 0)) && (items || decide (v.items.length = 0)) && (pick || decide (v.pick = 0))
def xx (k n : Int) (m : Nat) (v : Vl) : Bool :=
 if k = 1 then Vo v true false false false && decide (((Wu v.num).length : Int) ≤ n)
 else if k = 2 then Vo v true false false false && (decide (v.num = [0, 0, 0, 0]) || decide (v.num = [1, 0, 0, 0]))
 else if k = 3 then Vo v false false true false && decide ((v.items.length : Int) = n)
 else if k = 4 then Vo v false false true false
 else if k = 5 then Vo v false true false false && decide ((v.bits.length : Int) = n)
 else if k = 6 then Vo v false true false false
 else if k = 7 then Vo v false false true false && decide (v.items.length = m)
 else Vo v false false true true && decide (v.items.length = 1) && decide (0 ≤ v.pick) && decide (v.pick < m)
instance : Inhabited Ty := ⟨.mk 0 0 none []⟩
def VF (k pick : Int) (i : Nat) : Nat := if k = 7 then i else if k = 8 then pick.toNat else 0
def JF (k pick : Int) (ins : List Ty) (i : Nat) : Ty := ins.getD (VF k pick i) default
mutual
def Ku : Vl → Ty → Int
 | .mk a b c d bits pb items pi pick, .mk k n p ins => if (k = 4 ∧ n < items.length) ∨ (k = 6 ∧ n < bits.length) then 5 else if xx k n ins.length (.mk a b c d bits pb items pi pick) = false then 2 else Qz items k pick ins 0
def Qz : List Vl → Int → Int → List Ty → Nat → Int
 | [], _, _, _, _ => 0
 | x :: xs, k, pick, ins, i => if Ku x (JF k pick ins i) = 0 then Qz xs k pick ins (i + 1) else Ku x (JF k pick ins i)
end
theorem Y4 {k n : Int} {p : Pl} {ins : List Ty} (hc : Vp (.mk k n p ins) dp = 0) (ho : xx k n ins.length v = true) (hi : i < v.items.length) : VF k v.pick i < ins.length := by
 obtain ⟨hk, hf, _, _⟩ := QE hc
 unfold xx Vo at ho
 unfold JM at hf
 unfold VF
 have h9 : k = 1 ∨ k = 2 ∨ k = 3 ∨ k = 4 ∨ k = 5 ∨ k = 6 ∨ k = 7 ∨ k = 8 := by omega
 have hl : ¬ v.items = [] := fun h => by rw [h] at hi; simp at hi
 rcases h9 with rfl | rfl | rfl | rfl | rfl | rfl | rfl | rfl
 all_goals simp [hl] at ho hf ⊢
 all_goals omega
theorem KC {k pick : Int} {ins : List Ty} (h : VF k pick i < ins.length) : ins[VF k pick i]? = some (JF k pick ins i) ∧ JF k pick ins i ∈ ins := by
 unfold JF
 exact DF
theorem Jhs (hv : v.In R) (h1 h2 h3 h4 : Bool) : PureR Tryz.prog 233 [v.val, .bool h1, .bool h2, .bool h3, .bool h4].toArray (.bool (Vo v h1 h2 h3 h4)) R := by
 cases hv with
 | @mk a b c d bits pb items pi pick ha hb hc hd hlb hsb hl hs hp hi =>
 unfold Vo Vl.num Vl.bits Vl.items Vl.pick
 refine Ja Tryz.func233 rfl rfl fun w => Nl fun r1 => ?_; refine Gq ?_
 refine Jo 12 rfl (fun gb => ?_) (fun gb => ?_) <;> (try simp only [ZZ] at gb) <;> first | (refine LR rfl (Jw rfl rfl rfl) ?_) | (refine LK rfl ?_)
 all_goals refine g9 ?_
 all_goals first | (refine Jj (congrArg Value.bool (Zd (a := [a, b, c, d]) (b := [0, 0, 0, 0]) rfl)) ?_) | skip
 all_goals refine GL ?_
 all_goals first | refine Vb rfl ?_ | (refine Jo 18 rfl (fun gb => ?_) (fun gb => ?_) <;> (try simp only [ZZ] at gb) <;> first | (refine Vb rfl ?_) | (refine LK rfl ?_))
 all_goals refine Ei ?_
 all_goals first | refine LK rfl ?_ | (refine Jo 20 rfl (fun gb => ?_) (fun gb => ?_) <;> (try simp only [ZZ] at gb) <;> first | (refine LR rfl (Jw rfl rfl rfl) ?_) | (refine LK rfl ?_))
 all_goals refine gC ?_
 all_goals refine H2 ?_
 all_goals refine LW 4 [] rfl rfl ?_
 all_goals first | refine Vb rfl ?_ | refine LK rfl ?_ | (refine Jo 27 rfl (fun gb => ?_) (fun gb => ?_) <;> (try simp only [ZZ] at gb) <;> first | (refine Vb rfl ?_) | (refine LK rfl ?_))
 all_goals refine Ei ?_
 all_goals first | refine LK rfl ?_ | (refine Jo 29 rfl (fun gb => ?_) (fun gb => ?_) <;> (try simp only [ZZ] at gb) <;> first | (refine LR rfl (Jw rfl rfl rfl) ?_) | (refine LK rfl ?_))
 all_goals refine Np ?_
 all_goals refine LW 4 [] rfl rfl ?_
 all_goals first | refine Vb rfl ?_ | refine LK rfl ?_ | (refine Jo 36 rfl (fun gb => ?_) (fun gb => ?_) <;> (try simp only [ZZ] at gb) <;> first | (refine Vb rfl ?_) | (refine LK rfl ?_))
 all_goals refine Ei ?_
 all_goals first | refine LK rfl ?_ | (refine Jo 38 rfl (fun gb => ?_) (fun gb => ?_) <;> (try simp only [ZZ] at gb) <;> first | (refine LR rfl (Jw rfl rfl rfl) ?_) | (refine LK rfl ?_))
 all_goals (
  refine LW 5 [0] rfl rfl (J0 1 rfl (X6 2 rfl ?_)); refine Nk fun w1 hs1 => ?_
  simp_all [J6]
  all_goals first | done | rfl | omega
  skip)
theorem Q0 (a b c d : Nat) (bits : List Bool) (pb : Pl) (items : List Vl) (pi : Pl) (pick : Int) (h1 h2 h3 h4 : Bool) : Vo (.mk a b c d bits pb items pi pick) h1 h2 h3 h4 = ((h1 || decide ([a, b, c, d] = [0, 0, 0, 0])) && (h2 || decide (bits.length = 0)) && (h3 || decide (items.length = 0)) && (h4 || decide (pick = 0))) := rfl
theorem QA (k n : Int) (m a b c d : Nat) (bits : List Bool) (pb : Pl) (items : List Vl) (pi : Pl) (pick : Int) (v : Vl) (hv : v = .mk a b c d bits pb items pi pick) : xx k n m v =
 if k = 1 then Vo v true false false false && decide (((Wu [a, b, c, d]).length : Int) ≤ n)
 else if k = 2 then Vo v true false false false && (decide ([a, b, c, d] = [0, 0, 0, 0]) || decide ([a, b, c, d] = [1, 0, 0, 0]))
 else if k = 3 then Vo v false false true false && decide ((items.length : Int) = n)
 else if k = 4 then Vo v false false true false
 else if k = 5 then Vo v false true false false && decide ((bits.length : Int) = n)
 else if k = 6 then Vo v false true false false
 else if k = 7 then Vo v false false true false && decide (items.length = m)
 else Vo v false false true true && decide (items.length = 1) && decide (0 ≤ pick) && decide (pick < m) := by subst hv; rfl
theorem Jqu {k n : Int} {p : Pl} {ins : List Ty} (ht : Ty.In R (.mk k n p ins)) (hv : v.In R) : PureR Tryz.prog 167 [Ty.val (.mk k n p ins), v.val].toArray (.bool (xx k n ins.length v)) R := by
 have hon := Jhs hv
 cases ht with
 | mk hk hn hlt hst hit =>
 cases hv with
 | @mk a b c d bits pb items pi pick ha hb hc hd hlb hsb hl hs hp hi =>
 have hw : WOk [a, b, c, d] := ⟨rfl, fun x hx => by simp at hx; rcases hx with rfl | rfl | rfl | rfl <;> assumption⟩
 rw [QA k n ins.length a b c d bits pb items pi pick _ rfl]; refine Ja Tryz.func167 rfl rfl fun w => NA fun r1 r2 => ?_; refine Goc 17 [1] rfl rfl (cD (fun g => ?_) fun g => ?_)
 ·refine He ?_; refine JR 12 m5 m5 (Gm ?_); refine V8 rfl rfl rfl vY (hon true false false false) oR (Nm ?_)
  refine jm 11 rfl (fun gb => ?_) (fun gb => ?_) <;> (try simp only [ZZ] at gb) <;> first | (refine Jb rfl rfl rfl (Jw rfl rfl rfl) ?_) | (refine JT rfl rfl rfl ?_)
  all_goals refine GI ?_
  all_goals first | (refine Qk rfl rfl rfl (enters_of Tryz.func234 m5 rfl) (wb hw) ?_) | refine JT rfl rfl rfl ?_
  all_goals refine kX ?_
  all_goals (
   refine Jb rfl rfl rfl (JA rfl) (Kn (J0 1 rfl (X6 4 rfl ?_))); refine Nk fun w1 hs1 => ?_
   simp_all [J6]
   skip)
 ·refine NK ?_; refine cD (fun g => ?_) fun g => ?_
  ·refine kj ?_; refine Nw ?_; refine Jc rfl rfl rfl vY (hon true false false false) oR (DL ?_)
   refine Jo 24 rfl (fun gb => ?_) (fun gb => ?_) <;> (try simp only [ZZ] at gb) <;> first | (refine LR rfl (Jw rfl rfl rfl) ?_) | (refine LK rfl ?_)
   all_goals refine g9 ?_
   all_goals first | (refine Jj (congrArg Value.bool (Zd (a := [a, b, c, d]) (b := [0, 0, 0, 0]) rfl)) ?_) | skip
   all_goals refine Ei ?_
   all_goals first | refine LK rfl ?_ | (refine Jo 29 rfl (fun gb => ?_) (fun gb => ?_) <;> (try simp only [ZZ] at gb) <;> first | (refine LR rfl (Jw rfl rfl rfl) ?_) | (refine LK rfl ?_))
   all_goals refine g9 ?_
   all_goals first | (refine Jj (congrArg Value.bool (Zd (a := [a, b, c, d]) (b := [1, 0, 0, 0]) rfl)) ?_) | skip
   all_goals (
    refine H4 fun w1 hs1 => ?_
    simp_all [J6]
    skip)
  ·refine NK ?_; refine cD (fun g => ?_) fun g => ?_
   ·refine Dh ?_; refine DL ?_
    refine Jo 40 rfl (fun gb => ?_) (fun gb => ?_) <;> (try simp only [ZZ] at gb) <;> first | (refine LR rfl (Jw rfl rfl rfl) ?_) | (refine LK rfl ?_)
    all_goals refine Np ?_
    all_goals refine Nx ?_
    all_goals (
     refine LW 4 [1] rfl rfl (J0 1 rfl (X6 4 rfl ?_)); refine Nk fun w1 hs1 => ?_
     simp_all [J6]
     all_goals first | done | rfl | omega | (rw [Bool.eq_iff_iff]; simp only [Bool.and_eq_true, Bool.or_eq_true, decide_eq_true_eq, beq_iff_eq]; omega) | (simp only [decide_eq_true_eq, decide_eq_false_iff_not]; omega)
     skip)
   ·refine NK ?_; refine cD (fun g => ?_) fun g => ?_
    refine Dh ?_; refine Dc fun w1 hs1 => ?_
    simp_all [J6]
    ·refine NK ?_; refine cD (fun g => ?_) fun g => ?_
     ·refine kj ?_; refine Nw ?_; refine Jc rfl rfl rfl vY (hon false true false false) oR (DL ?_)
      refine Jo 56 rfl (fun gb => ?_) (fun gb => ?_) <;> (try simp only [ZZ] at gb) <;> first | (refine LR rfl (Jw rfl rfl rfl) ?_) | (refine LK rfl ?_)
      all_goals refine gC ?_
      all_goals refine H2 ?_
      all_goals refine Nx ?_
      all_goals (
       refine LW 4 [1] rfl rfl (J0 1 rfl (X6 4 rfl ?_)); refine Nk fun w1 hs1 => ?_
       simp_all [J6]
       all_goals first | done | rfl | omega | (rw [Bool.eq_iff_iff]; simp only [Bool.and_eq_true, Bool.or_eq_true, decide_eq_true_eq, beq_iff_eq]; omega) | (simp only [decide_eq_true_eq, decide_eq_false_iff_not]; omega)
       skip)
     ·refine NK ?_; refine cD (fun g => ?_) fun g => ?_
      refine kj ?_; refine Nw ?_; refine Jc rfl rfl rfl vY (hon false true false false) oR (Dc fun w1 hs1 => ?_)
      simp_all [J6]
      ·refine NK ?_; refine cD (fun g => ?_) fun g => ?_
       ·refine Dh ?_; refine DL ?_
        refine Jo 72 rfl (fun gb => ?_) (fun gb => ?_) <;> (try simp only [ZZ] at gb) <;> first | (refine LR rfl (Jw rfl rfl rfl) ?_) | (refine LK rfl ?_)
        all_goals refine Np ?_
        all_goals refine gP ?_
        all_goals (
         refine H4 fun w1 hs1 => ?_
         simp_all [J6]
         all_goals first | done | rfl | omega | (rw [Bool.eq_iff_iff]; simp only [Bool.and_eq_true, Bool.or_eq_true, decide_eq_true_eq, beq_iff_eq]; omega) | (simp only [decide_eq_true_eq, decide_eq_false_iff_not]; omega)
         skip)
       ·refine gH ?_; refine Nw ?_; refine Jc rfl rfl rfl vY (hon false false true true) oR (DL ?_)
        refine Jo 83 rfl (fun gb => ?_) (fun gb => ?_) <;> (try simp only [ZZ] at gb) <;> first | (refine LR rfl (Jw rfl rfl rfl) ?_) | (refine LK rfl ?_)
        all_goals refine Gc ?_
        all_goals first | refine LK rfl ?_ | (refine Jo 89 rfl (fun gb => ?_) (fun gb => ?_) <;> (try simp only [ZZ] at gb) <;> first | (refine LR rfl (Jw rfl rfl rfl) ?_) | (refine LK rfl ?_))
        all_goals refine Hm ?_
        all_goals first | refine LK rfl ?_ | (refine Jo 94 rfl (fun gb => ?_) (fun gb => ?_) <;> (try simp only [ZZ] at gb) <;> first | (refine LR rfl (Jw rfl rfl rfl) ?_) | (refine LK rfl ?_))
        all_goals refine gC ?_
        all_goals refine gP ?_
        all_goals (
         refine gM ?_; refine Nk fun w1 hs1 => ?_
         simp_all [J6]
         all_goals first | done | rfl | omega | (rw [Bool.eq_iff_iff]; simp only [Bool.and_eq_true, Bool.or_eq_true, decide_eq_true_eq, beq_iff_eq]; omega) | (simp only [decide_eq_true_eq, decide_eq_false_iff_not]; omega)
         skip)
theorem q7 {k n : Int} {p : Pl} {ins : List Ty} {y : Ty} (ht : Ty.In R (.mk k n p ins)) (hv : v.In R) (hi8 : k = 8 → 0 ≤ v.pick) (hy : ins[VF k v.pick i]? = some y) : PureR Tryz.prog 122 [Ty.val (.mk k n p ins), v.val, .int .i64 (i : Int)].toArray y.val R := by
 cases ht with
 | mk hk hn hlt hst hit =>
 cases hv with
 | @mk a b c d bits pb items pi pick ha hb hc hd hlb hsb hl hs hp hi =>
 have hlt2 := (List.getElem?_eq_some_iff.1 hy).1
 change ins[if k = 7 then i else if k = 8 then pick.toNat else 0]? = some y at hy; change (if k = 7 then i else if k = 8 then pick.toNat else 0) < ins.length at hlt2; change k = 8 → 0 ≤ pick at hi8
 obtain ⟨yk, yn, yp, yi⟩ := y
 refine Ja Tryz.func122 rfl rfl fun w => NA fun r1 r2 => ?_; refine LN rfl fun r3 => Goc 10 [2] rfl rfl (cD (fun g => ?_) fun g => ?_)
 refine He ?_; rw [if_pos m9] at hy hlt2; refine E6 ?_; refine LR rfl (Jf (j := i) rfl hst rfl rfl rfl rfl m0) ?_; exact Et
 ·refine Gcc 10 [2] rfl rfl (cD (fun g => ?_) fun g => ?_)
  refine He ?_; rw [if_neg m9, if_pos m9] at hy hlt2
  have hi9 := hi8 m9
  refine QZ 5 [2, 1] rfl rfl (LR rfl (Jf (j := pick.toNat) rfl hst rfl rfl rfl m0 m0) ?_); exact Et
  ·refine Da ?_; rw [if_neg m9, if_neg m9] at hy hlt2; refine QZ 3 [2] rfl rfl (LR rfl (Jf (j := 0) rfl hst rfl rfl rfl rfl m0) (LR rfl (Ko oR rfl hst hy rfl rfl) ?_))
   refine kq ?_; refine Ha ?_; exact Gp
theorem Jqv {n : Int} (h : xx 8 n m v = true) : 0 ≤ v.pick := by
 unfold xx at h
 simp at h; omega
theorem Jht (hv : v.In R) : ∀ (t : Ty) (dp : Int), t.In R → Vp t dp = 0 → PureR Tryz.prog 120 [t.val, v.val].toArray (.int .i64 (Ku v t)) R := by
  have hv0 := hv
  induction hv with
  | @mk a b c d bits pb items pi pick ha hb hc hd hlb hsb hl hs hp hi ih =>
  intro t dp ht hck
  have ht0 := ht
  cases ht with
  | @mk k n p ins hk hn hlt hst hit =>
  have hof := Jqu ht0 hv0
  have hin := fun i y => q7 (i := i) (y := y) ht0 hv0
  refine Ja Tryz.func120 rfl rfl fun w => NA fun r1 r2 => ?_; refine XO 10 [1] rfl rfl ?_
  refine Jo 11 rfl (fun gb => ?_) (fun gb => ?_) <;> (try simp only [ZZ] at gb) <;> first | (refine LR rfl (Jw rfl rfl rfl) ?_) | (refine LK rfl ?_)
  all_goals refine Np ?_
  all_goals refine Nx ?_
  all_goals refine LW 4 [1] rfl rfl ?_
  all_goals first | refine LR rfl (Jw rfl rfl rfl) ?_ | (refine Jo 19 rfl (fun gb => ?_) (fun gb => ?_) <;> (try simp only [ZZ] at gb) <;> first | (refine LR rfl (Jw rfl rfl rfl) ?_) | (refine LK rfl ?_))
  all_goals refine LW 3 [1] rfl rfl ?_
  all_goals first | refine LK rfl ?_ | (refine Jo 23 rfl (fun gb => ?_) (fun gb => ?_) <;> (try simp only [ZZ] at gb) <;> first | (refine LR rfl (Jw rfl rfl rfl) ?_) | (refine LK rfl ?_))
  all_goals refine gC ?_
  all_goals refine H2 ?_
  all_goals refine Nx ?_
  all_goals (
   refine LW 4 [1] rfl rfl (J0 1 rfl (ZE 1 rfl ?_)); refine JI rfl (fun g => ?_) (fun g => ?_)
   · try exact Bool.noConfusion g
     all_goals try simp only [ZZ] at g
     all_goals (
      refine gZ fun w1 hs1 => ?_; rw [Ku, if_pos m0]; rfl
      skip)
   · try exact Bool.noConfusion g
     all_goals try simp only [ZZ] at g
     all_goals (
      refine QZ 6 [1, 0] rfl rfl (Jc rfl rfl rfl (enters_of Tryz.func167 m5 rfl) hof oR (DE ?_)); refine cD (fun g => ?_) fun g => ?_
      refine gZ fun w1 hs1 => ?_; rw [Ku, if_neg m0, if_pos m9]; rfl
      refine J9 9 rfl (Js (σ := Nat) (fun i => i ≤ items.length ∧ Qz (items.drop i) k pick ins i = Qz items k pick ins 0) (fun i => [(2, .pointer (some ⟨r1, 0, none⟩)), (3, .pointer (some ⟨r2, 0, none⟩)), (6, .int .i64 (i : Int))]) (fun _ => [(r2, .cells #[uV a, uV b, uV c, uV d, KE bits.length pb, KE items.length pi, .int .i64 pick] 81 (0, 0)), (r1, .cells #[.int .i64 k, .int .i64 n, KE ins.length p] 76 (0, 0))]) (fun _ _ _ => True) (fun i => items.length - i) 0 ⟨by omega, rfl⟩ (lK rfl) (List.Sublist.refl _) (fun _ _ h => h) ?_); rintro i ⟨hi1, hinv⟩; refine G8 ?_; refine cD (fun g => ?_) fun g => ?_
      refine gr ?_
      obtain ⟨x, hx, hmx⟩ := QN N4
      have hii : i < items.length := by omega
      have hy := KC (Y4 (v := .mk a b c d bits pb items pi pick) (i := i) hck m9 hii)
      rw [X7 hx, Qz] at hinv; refine JR 11 m5 m5 (Jb rfl rfl rfl (Jq (vs := [_, _, _]) rfl (kn 1 rfl) rfl rfl rfl rfl) (Gm ?_)); refine Nm ?_; refine V8 rfl rfl rfl Jjy (hin i _ (fun h => by subst h; exact Jqv m9) hy.1) oR ?_
      refine kE ?_; refine Nm ?_; refine Jb rfl rfl rfl (Jf (j := i) rfl hs rfl rfl rfl rfl m0) (Jb rfl rfl rfl (KV oR rfl hs hx rfl rfl) (V8 rfl rfl rfl (enters_of Tryz.func120 m5 rfl) (ih x hmx (hi x hmx) _ (dp + 1) (hit _ hy.2) ((QE hck).2.2.2 _ hy.2)) oR (ku ?_))); refine JP 8 rfl (cD (fun g => ?_) fun g => ?_)
      refine Gz fun w1 hs1 => ?_; rw [Ku, if_neg m0, if_neg mA, ← hinv, if_neg m9]; rfl
      refine H8 ?_; exact Hs
      refine kT fun w1 hs1 => ?_; rw [Ku, if_neg m0, if_neg mA, ← hinv, List.drop_of_length_le m0, Qz]; rfl
      skip)
   skip)
def Vc (t : Ty) (v : Vl) : Int := if Vp t 0 = 0 then Ku v t else Vp t 0
theorem Jhu (ht : t.In R) (hv : v.In R) : PureR Tryz.prog 81 [t.val, v.val].toArray (.int .i64 (Vc t v)) R := by
 have h1 := vZ ht
 have h2 := Jht hv t 0 ht
 obtain ⟨k, n, p, ins⟩ := t
 obtain ⟨a, b, c, d, bits, pb, items, pi, pick⟩ := v
 refine Ja Tryz.func81 rfl rfl fun w => Df fun r1 r2 => ?_; refine DZ ?_; refine Jc rfl rfl rfl (enters_of Tryz.func96 m5 rfl) h1 oR (DE ?_); refine cD (fun g => ?_) fun g => ?_
 refine Hx fun w1 hs1 => ?_; rw [Vc, if_neg m9]; rfl
 ·refine QZ 6 [1, 0] rfl rfl (Jc rfl rfl rfl (enters_of Tryz.func120 m5 rfl) (h2 m9) oR (DP fun w1 hs1 => ?_)); rw [Vc, if_pos m9]; rfl
theorem Jvv (x y : Bool) : Pure Tryz.prog 275 [.bool x, .bool y].toArray (.bool (x == y)) := by
 refine Jz Tryz.func275 rfl rfl fun w => JN (KQ 14 rfl ?_); exact Nz
def fV (f : FuncId) : Value := .func (.func f) #[] #[]
theorem Jqw {bits bits' : List Bool} {p p' : Pl} (hl : bits.length ≤ 9223372036854775807) (hl' : bits'.length ≤ 9223372036854775807) (hs : Seg R bits.length (Qd bits) p) (hs' : Seg R bits'.length (Qd bits') p') :
  PureR Tryz.prog 283 [KE bits.length p, KE bits'.length p', fV 275].toArray (.bool (decide (bits = bits'))) R := by
 refine Ja Tryz.func283 rfl rfl fun w => Di ?_; refine cD (fun g => ?_) fun g => ?_
 ·refine gZ fun w1 hs1 => ?_
  (have hse : bits ≠ bits' := fun e => by subst e; omega
   simp [J6, hse]; done)
 ·refine H8 ?_; refine HU ?_
  have hlb2 : bits.length = bits'.length := by omega
  refine Js (σ := Nat) (fun i => i ≤ bits.length ∧ ∀ j, j < i → bits[j]? = bits'[j]?) (fun i => [(1, KE bits'.length p'), (2, fV 275), (15, KE bits.length p), (16, .int .i64 (bits.length : Int)), (17, .int .i64 (i : Int))]) (fun _ => []) (fun _ _ _ => True) (fun i => bits.length - i) 0 ⟨by omega, fun j hj => absurd hj m0⟩ (lK rfl) (List.nil_sublist _) (fun _ _ h => h) ?_; rintro i ⟨hi1, hinv⟩; refine NK ?_; refine cD (fun g => ?_) fun g => ?_
  ·refine gr ?_
   obtain ⟨x, hx, hmx⟩ := QN (show i < bits.length by omega)
   obtain ⟨y, hy, hmy⟩ := QN (show i < bits'.length by omega)
   refine kj ?_; refine Dv ?_; refine LR rfl (WX oR rfl hs hx rfl) (JK 8 rfl (LR rfl (Jf (j := i) rfl hs' rfl rfl rfl rfl m0) (LR rfl (WX oR rfl hs' hy rfl) (JK 8 rfl (J2 rfl rfl rfl (enters_of Tryz.func275 m5 rfl) (Jvv x y) (kU ?_)))))); refine cD (fun g => ?_) fun g => ?_
   ·refine kT fun w1 hs1 => ?_
    (have hse : bits ≠ bits' := Jvm hx hy mA
     simp [J6, hse]; done)
   refine GX ?_
   exact Jm (i + 1) ⟨by omega, fun j hj => by
    rcases Nat.lt_succ_iff_lt_or_eq.1 hj with hj | rfl
    exact hinv j hj
    rw [hx, hy]; simp_all⟩ m0 (lK rfl) (List.nil_sublist _) (fun _ _ h => h)
  ·refine kT fun w1 hs1 => ?_
   (have hse : bits = bits' := Jvn hlb2 m0 hinv
    simp [J6, hse]; done)
theorem Jqx {items items' : List Vl} {p p' : Pl} (eg : Enters Tryz.prog g) (hg : ∀ x ∈ items, ∀ y ∈ items', PureR Tryz.prog g [x.val, y.val].toArray (.bool (XR x y)) R) (hl : items.length ≤ 9223372036854775807) (hl' : items'.length ≤ 9223372036854775807) (hs : Seg R items.length (KL items) p) (hs' : Seg R items'.length (KL items') p') :
  PureR Tryz.prog 284 [KE items.length p, KE items'.length p', fV g].toArray (.bool (Wy items items')) R := by
 refine Ja Tryz.func284 rfl rfl fun w => Di ?_; refine cD (fun h4 => ?_) fun h4 => ?_
 ·refine gZ fun w1 hs1 => ?_
  (have hse : Wy items items' = false := Jvp m0
   simp [J6, hse]; done)
 ·refine H8 ?_; refine HU ?_
  have hl2 : items.length = items'.length := by omega
  refine Js (σ := Nat) (fun i => i ≤ items.length ∧ ∀ q, q < i → ∀ x y, items[q]? = some x → items'[q]? = some y → XR x y = true) (fun i => [(1, KE items'.length p'), (2, fV g), (15, KE items.length p), (16, .int .i64 (items.length : Int)), (17, .int .i64 (i : Int))]) (fun _ => []) (fun _ _ _ => True) (fun i => items.length - i) 0 ⟨by omega, fun j hj => absurd hj m0⟩ (lK rfl) (List.nil_sublist _) (fun _ _ h => h) ?_; rintro i ⟨hi1, hinv⟩; refine NK ?_; refine cD (fun h10 => ?_) fun h10 => ?_
  ·refine gr ?_
   obtain ⟨x, hx, hmx⟩ := QN N4
   obtain ⟨y, hy, hmy⟩ := QN (show i < items'.length by omega)
   refine kj ?_; refine Dv ?_; refine LR rfl (KV oR rfl hs hx rfl rfl) (LN rfl fun r1 => Vb rfl (Jv (k := 0) (n := 7) (ys := x.cells) rfl rfl rfl rfl rfl x.len rfl x.one rfl (JK 6 rfl ?_))); refine LR rfl (Jf (j := i) rfl hs' rfl rfl rfl rfl m0) (LR rfl (KV oR rfl hs' hy rfl rfl) (LN rfl fun r2 => Jv (k := 0) (n := 7) (ys := y.cells) rfl rfl rfl rfl rfl y.len rfl y.one rfl (kB ?_))); refine LR rfl (Ji (xs := x.cells) (n := 7) rfl (kn 1 rfl) rfl rfl x.len) (LR rfl (Ji (xs := y.cells) (n := 7) rfl (kn 0 rfl) rfl rfl y.len) (Jc rfl rfl rfl eg (hg x hmx y hmy) oR (kU ?_))); refine cD (fun h15 => ?_) fun h15 => ?_
   ·refine kT fun w1 hs1 => ?_
    (have hse : Wy items items' = false := Jvo hx hy m9
     simp [J6, hse]; done)
   refine GX ?_
   exact Jm (i + 1) ⟨by omega, fun q hq u v hu hv => by
    rcases Nat.lt_succ_iff_lt_or_eq.1 hq with hq | rfl
    exact hinv q hq u v hu hv
    rw [hx] at hu; rw [hy] at hv; cases hu; cases hv; assumption⟩ m0 (lK rfl) (List.nil_sublist _) (fun _ _ h => h)
  ·refine kT fun w1 hs1 => ?_
   (have hse : Wy items items' = true := WY.2 ⟨hl2, fun q x y hx hy => hinv q (by have := (List.getElem?_eq_some_iff.1 hx).1; omega) x y hx hy⟩
    simp [J6, hse]; done)
theorem Jvw {v0 v1 v2 v : Value} (h : PureR Tryz.prog 283 [v0, v1, v2].toArray v R) : PureR Tryz.prog 276 [v0, v1, v2].toArray v R := by
 refine Ja Tryz.func276 rfl rfl fun w => JN (Jt 10 rfl (Jc rfl rfl rfl (enters_of Tryz.func283 m5 rfl) h oR ?_)); exact NS
theorem Jvx {v0 v1 v2 v : Value} (h : PureR Tryz.prog 284 [v0, v1, v2].toArray v R) : PureR Tryz.prog 277 [v0, v1, v2].toArray v R := by
 refine Ja Tryz.func277 rfl rfl fun w => JN (Jt 10 rfl (Jc rfl rfl rfl (enters_of Tryz.func284 m5 rfl) h oR ?_)); exact NS
theorem Jzg {u : Vl} (hu : u.In R) : ∀ v : Vl, v.In R → PureR Tryz.prog 265 [u.val, v.val].toArray (.bool (XR u v)) R := by
 induction hu with
 | @mk a b c d bits pb items pi pick ha hb hc hd hlb hsb hl hs hp hi ih =>
 intro v hv
 cases hv with
 | @mk a' b' c' d' bits' pb' items' pi' pick' ha' hb' hc' hd' hlb' hsb' hl' hs' hp' hi' =>
 rw [ZR]
 have h1 := Jvw (Jqw hlb hlb' hsb hsb')
 have h2 := Jvx (Jqx (enters_of Tryz.func265 m5 rfl) (fun x hx y hy => ih x hx y (hi' y hy)) hl hl' hs hs')
 refine Ja Tryz.func265 rfl rfl fun w => NA fun r1 r2 => ?_; refine XO 14 [1, 0] rfl rfl (LR rfl (jr rfl rfl rfl rfl rfl m5 rfl rfl rfl rfl) ?_)
 first | (refine Jj (congrArg Value.bool (Zd (a := [a, b, c, d]) (b := [a', b', c', d']) rfl)) ?_) | skip
 refine DL ?_
 refine Jo 11 rfl (fun gb => ?_) (fun gb => ?_) <;> (try simp only [ZZ] at gb) <;> first | (refine LR rfl (Jw rfl rfl rfl) ?_) | (refine LK rfl ?_)
 all_goals refine G7 ?_
 all_goals refine Hm ?_
 all_goals first | refine LK rfl ?_ | (refine Jo 18 rfl (fun gb => ?_) (fun gb => ?_) <;> (try simp only [ZZ] at gb) <;> first | (refine LR rfl (Jw rfl rfl rfl) ?_) | (refine LK rfl ?_))
 all_goals refine G7 ?_
 all_goals refine LW 2 [0] rfl rfl ?_
 all_goals first | (refine Jc rfl rfl rfl (enters_of Tryz.func276 m5 rfl) h1 oR ?_) | refine LK rfl ?_
 all_goals refine GL ?_
 all_goals first | refine LK rfl ?_ | (refine Jo 26 rfl (fun gb => ?_) (fun gb => ?_) <;> (try simp only [ZZ] at gb) <;> first | (refine LR rfl (Jw rfl rfl rfl) ?_) | (refine LK rfl ?_))
 all_goals refine G7 ?_
 all_goals refine gC ?_
 all_goals first | (refine Jc rfl rfl rfl (enters_of Tryz.func277 m5 rfl) h2 oR ?_) | refine LK rfl ?_
 all_goals (
  refine kv fun w1 hs1 => ?_
  simp_all [J6]
  skip)
def kfs : List (Nat × Nat × Nat × Bool) := [(196, 199, 202, false), (203, 205, 207, false), (208, 211, 213, false), (215, 216, 0, true),
 (217, 218, 220, false), (221, 222, 0, true), (223, 224, 225, false), (226, 227, 0, true)]
def kAt (k : Int) : Nat × Nat × Nat × Bool := kfs.getD (k - 1).toNat (0, 0, 0, false)
def isK (k : Int) : Bool := decide (1 ≤ k) && decide (k ≤ 8)
def Jqy (k : Int) : FuncId := (kAt k).1
def ofF (k : Int) : FuncId := (kAt k).2.1
def Jqz (k : Int) : FuncId := (kAt k).2.2.1
def Jhv (k : Int) : Bool := (kAt k).2.2.2
def fnV (b : Bool) (f : FuncId) : Value := if b then fV f else .nilFunc
def ZS (k : Int) : List Value := [fnV (isK k) (Jqy k), fnV (isK k) (ofF k), fnV (isK k && !Jhv k) (Jqz k), .bool (Jhv k)]
def Jb5 (j : Nat) : MapEntry := { key := .int .i64 ((j : Int) + 1), val := .agg (ZS ((j : Int) + 1)).toArray, born := j }
def kMap : Array MapEntry := #[Jb5 0, Jb5 1, Jb5 2, Jb5 3, Jb5 4, Jb5 5, Jb5 6, Jb5 7]
def Jmp : Obj := .map kMap 8
theorem ZT : ∀ e ∈ kMap.toList, isI e.key := by
 intro e he; simp only [kMap, List.mem_cons, List.not_mem_nil, or_false] at he
 rcases he with rfl | rfl | rfl | rfl | rfl | rfl | rfl | rfl <;> exact ⟨_, rfl⟩
theorem Jew (k : Int) : Vm Zz (.int .i64 k) (kMap.toList.map Yx) = if isK k then some (.agg (ZS k).toArray) else none := by
 by_cases h : 1 ≤ k ∧ k ≤ 8
 ·have : k = 1 ∨ k = 2 ∨ k = 3 ∨ k = 4 ∨ k = 5 ∨ k = 6 ∨ k = 7 ∨ k = 8 := by omega
  rcases this with rfl | rfl | rfl | rfl | rfl | rfl | rfl | rfl <;> rfl
 ·have e : isK k = false := by unfold isK; simp; omega
  rw [e]
  have h1 : k ≠ 1 := by omega
  have h2 : k ≠ 2 := by omega
  have h3 : k ≠ 3 := by omega
  have h4 : k ≠ 4 := by omega
  have h5 : k ≠ 5 := by omega
  have h6 : k ≠ 6 := by omega
  have h7 : k ≠ 7 := by omega
  have h8 : k ≠ 8 := by omega
  simp [kMap, Jb5, Yx, Vm, Jo0, h1, h2, h3, h4, h5, h6, h7, h8]
theorem Jq0 (k : Int) : (if true = true then Value.tuple #[((Vm Zz (.int .i64 k) (kMap.toList.map Yx)).getD (.agg #[.nilFunc, .nilFunc, .nilFunc, .bool false])), .bool (Vm Zz (.int .i64 k) (kMap.toList.map Yx)).isSome] else (Vm Zz (.int .i64 k) (kMap.toList.map Yx)).getD (.agg #[.nilFunc, .nilFunc, .nilFunc, .bool false])) =
  .tuple #[.agg (ZS k).toArray, .bool (isK k)] := by
 rw [Jew, if_pos rfl]
 cases h : isK k with
 | true => rfl
 | false =>
  have : Jhv k = false := by
   unfold isK at h
   simp at h
   unfold Jhv kAt
   by_cases h1 : 1 ≤ k
   ·have := h h1
    rw [List.getD_eq_getElem?_getD, List.getElem?_eq_none (by show 8 ≤ _; omega)]; rfl
   ·have : (k - 1).toNat = 0 := by omega
    rw [this]; rfl
  simp [ZS, fnV, h, this]
theorem j3 {k : Int} (h : isK k = true) : (if false = true then Value.tuple #[((Vm Zz (.int .i64 k) (kMap.toList.map Yx)).getD (.agg #[.nilFunc, .nilFunc, .nilFunc, .bool false])), .bool (Vm Zz (.int .i64 k) (kMap.toList.map Yx)).isSome] else (Vm Zz (.int .i64 k) (kMap.toList.map Yx)).getD (.agg #[.nilFunc, .nilFunc, .nilFunc, .bool false])) =
  .agg (ZS k).toArray := by
 rw [Jew, h]; rfl
theorem q8 : PureE (α := Nat) Tryz.prog 161 [].toArray (fun r => .map (some r)) (fun r => [(r, Jmp)]) := by
 refine VP Tryz.func161 rfl rfl fun w => JN (Jt 7 rfl (yC rfl rfl fun mr => kI ?_)); refine Qt (q := 0) (key := .int .i64 1) (Yi (t := 3) m5) rfl rfl rfl rfl rfl rfl ⟨_, rfl⟩ (by intro e he; simp at he) rfl rfl ?_; refine kI ?_
 refine Qt (q := 0) (key := .int .i64 2) (Yi (t := 3) m5) rfl rfl rfl rfl rfl rfl ⟨_, rfl⟩ Mw rfl rfl (kI ?_)
 refine Qt (q := 0) (key := .int .i64 3) (Yi (t := 3) m5) rfl rfl rfl rfl rfl rfl ⟨_, rfl⟩ Mp rfl rfl (kI ?_)
 refine Qt (q := 0) (key := .int .i64 4) (Yi (t := 3) m5) rfl rfl rfl rfl rfl rfl ⟨_, rfl⟩ Mf rfl rfl (kI ?_)
 refine Qt (q := 0) (key := .int .i64 5) (Yi (t := 3) m5) rfl rfl rfl rfl rfl rfl ⟨_, rfl⟩ M3 rfl rfl (kI ?_)
 refine Qt (q := 0) (key := .int .i64 6) (Yi (t := 3) m5) rfl rfl rfl rfl rfl rfl ⟨_, rfl⟩ nV rfl rfl (kI ?_)
 refine Qt (q := 0) (key := .int .i64 7) (Yi (t := 3) m5) rfl rfl rfl rfl rfl rfl ⟨_, rfl⟩ nS rfl rfl (kI ?_)
 refine Qt (q := 0) (key := .int .i64 8) (Yi (t := 3) m5) rfl rfl rfl rfl rfl rfl ⟨_, rfl⟩ nP rfl rfl (gt ?_); refine ke fun w1 hs1 => ?_; exact ⟨mr, rfl, hs1⟩
theorem ZU {k n : Int} {p : Pl} {ins : List Ty} (ht : Ty.In R (.mk k n p ins)) : PureR Tryz.prog 197 [Ty.val (.mk k n p ins)].toArray (.bool (decide (ins.length = 0))) R := by
 cases ht with
 | mk hk hn hl hs hi =>
 refine Ja Tryz.func197 rfl rfl fun w => Nl fun r1 => ?_; refine XO 7 [0] rfl rfl (NE ?_); refine gt ?_; refine ke fun w1 hs1 => ?_; exact ⟨congrArg (fun b => Ending.returned (Value.bool b)) (by rw [Bool.eq_iff_iff]; simp only [beq_iff_eq, decide_eq_true_eq]; omega), hs1.keep⟩
theorem Yt {k n : Int} {p : Pl} {ins : List Ty} (ht : Ty.In R (.mk k n p ins)) : PureR Tryz.prog 204 [Ty.val (.mk k n p ins)].toArray (.bool (decide (n = 0))) R := by
 cases ht with
 | mk hk hn hl hs hi =>
 refine Ja Tryz.func204 rfl rfl fun w => Nl fun r1 => ?_; refine Goq 12 [0] rfl rfl (Nk fun w1 hs1 => ?_)
 simp_all [J6]
 first | done | rfl | omega | (rw [Bool.eq_iff_iff]; simp only [Bool.and_eq_true, Bool.or_eq_true, decide_eq_true_eq, beq_iff_eq]; omega) | (simp only [decide_eq_true_eq, decide_eq_false_iff_not]; omega)
theorem wc {k n : Int} {p : Pl} {ins : List Ty} (ht : Ty.In R (.mk k n p ins)) : PureR Tryz.prog 210 [Ty.val (.mk k n p ins)].toArray (.bool (decide (1 ≤ n) && decide (n ≤ 512))) R := by
 cases ht with
 | mk hk hn hl hs hi =>
 refine Ja Tryz.func210 rfl rfl fun w => Nl fun r1 => ?_; refine XO 9 [0] rfl rfl ?_
 refine Jo 6 rfl (fun gb => ?_) (fun gb => ?_) <;> (try simp only [ZZ] at gb) <;> first | (refine LR rfl (Jw rfl rfl rfl) ?_) | (refine LK rfl ?_)
 all_goals (
  refine LW 4 [0] rfl rfl (J0 1 rfl (X6 2 rfl ?_)); refine Nk fun w1 hs1 => ?_
  simp_all [J6]
  all_goals first | done | rfl | omega | (rw [Bool.eq_iff_iff]; simp only [Bool.and_eq_true, Bool.or_eq_true, decide_eq_true_eq, beq_iff_eq]; omega) | (simp only [decide_eq_true_eq, decide_eq_false_iff_not]; omega)
  skip)
theorem ZV {k n : Int} {p : Pl} {ins : List Ty} (ht : Ty.In R (.mk k n p ins)) (most : Int) : PureR Tryz.prog 209 [Ty.val (.mk k n p ins), .int .i64 most].toArray (.bool (decide (1 ≤ ins.length) && decide ((ins.length : Int) ≤ most))) R := by
 cases ht with
 | mk hk hn hl hs hi =>
 refine Ja Tryz.func209 rfl rfl fun w => Nl fun r1 => ?_; refine XO 7 [0] rfl rfl (NE ?_); refine NZ ?_
 refine Jo 9 rfl (fun gb => ?_) (fun gb => ?_) <;> (try simp only [ZZ] at gb) <;> first | (refine LR rfl (Jw rfl rfl rfl) ?_) | (refine LK rfl ?_)
 all_goals refine Np ?_
 all_goals (
  refine LW 4 [] rfl rfl (J0 1 rfl (X6 2 rfl ?_)); refine Nk fun w1 hs1 => ?_
  simp_all [J6]
  first | done | rfl | omega | (rw [Bool.eq_iff_iff]; simp only [Bool.and_eq_true, Bool.or_eq_true, decide_eq_true_eq, beq_iff_eq]; omega) | (simp only [decide_eq_true_eq, decide_eq_false_iff_not]; omega)
  skip)
def Jb6 : List Int → Int → Int → Int
 | [], _, _ => -1
 | y :: ys, x, j => if x = y then j else Jb6 ys x (j + 1)
def Jq1 (l : List Int) : List Value := l.map (Value.int .i64)
theorem Jvy {xs : List Int} {p : Pl} (x : Int) (hl : xs.length ≤ 9223372036854775807) (hs : Seg R xs.length (Jq1 xs) p) : PureR Tryz.prog 249 [KE xs.length p, .int .i64 x].toArray (.int .i64 (Jb6 xs x 0)) R := by
 refine Ja Tryz.func249 rfl rfl fun w => G0 ?_; refine HU ?_; refine Js (σ := Nat) (fun i => i ≤ xs.length ∧ Jb6 (xs.drop i) x (i : Int) = Jb6 xs x 0) (fun i => [(0, KE xs.length p), (1, .int .i64 x), (7, .int .i64 (xs.length : Int)), (8, .int .i64 (i : Int))]) (fun _ => []) (fun _ _ _ => True) (fun i => xs.length - i) 0 ⟨by omega, rfl⟩ (lK rfl) (List.nil_sublist _) (fun _ _ h => h) ?_; rintro i ⟨hi1, hinv⟩; refine NK ?_; refine cD (fun g => ?_) fun g => ?_
 refine J9 11 rfl ?_
 obtain ⟨y, hy, hmy⟩ := QN nD
 rw [X7 hy, Jb6] at hinv; refine GO ?_; refine Dv ?_; refine LR rfl (Wx (v := .int .i64 y) (j := i) oR rfl hs m0 rfl (by unfold Jq1; rw [List.getElem?_map, hy]; rfl)) ?_; refine kU ?_; refine cD (fun g => ?_) fun g => ?_
 refine Gz fun w1 hs1 => ?_; rw [← hinv, if_pos m9]; rfl
 refine GX ?_; exact Jm (i + 1) ⟨by omega, by rw [if_neg m9] at hinv; exact hinv⟩ m0 (lK rfl) (List.nil_sublist _) (fun _ _ h => h)
 ·refine kT fun w1 hs1 => ?_; rw [← hinv, List.drop_of_length_le m0, Jb6]; rfl
theorem Jhw {xs : List Int} {p : Pl} (x : Int) (hl : xs.length ≤ 9223372036854775807) (hs : Seg R xs.length (Jq1 xs) p) : PureR Tryz.prog 198 [KE xs.length p, .int .i64 x].toArray (.bool (decide (0 ≤ Jb6 xs x 0))) R := by
 have h := Jvy x hl hs
 refine Ja Tryz.func198 rfl rfl fun w => G0 ?_; refine Jc rfl rfl rfl (enters_of Tryz.func249 m5 rfl) h oR (gt ?_); exact Nz
theorem J2z (n : Int) : decide (0 ≤ Jb6 [1, 2, 4, 8, 32] n 0) = (decide (n = 1) || decide (n = 2) || decide (n = 4) || decide (n = 8) || decide (n = 32)) := by
 simp only [Jb6]
 by_cases h1 : n = 1
 ·simp [h1]
 by_cases h2 : n = 2
 ·simp [h2]
 by_cases h4 : n = 4
 ·simp [h4]
 by_cases h8 : n = 8
 ·simp [h8]
 by_cases h32 : n = 32
 ·simp [h32]
 simp [h1, h2, h4, h8, h32]
theorem F_1 {n : Int} {p : Pl} {ins : List Ty} (ht : Ty.In R (.mk 1 n p ins)) : PureR Tryz.prog 196 [Ty.val (.mk 1 n p ins)].toArray (.bool (JM 1 n ins.length)) R := by
 have hno := ZU ht
 have hpl := Yt ht
 have hro := wc ht
 have hma := fun m => ZV ht m
 cases ht with
 | mk hk hn hl hs hi =>
 refine Ja Tryz.func196 rfl rfl fun w => D6 fun r1 => ?_
 refine Jo 5 rfl (fun gb => ?_) (fun gb => ?_) <;> (try simp only [ZZ] at gb) <;> first | (refine J8 (vs := [_, _, _, _, _]) (zs := [_, _, _, _, _]) (r := [_, _, _, _, _]) rfl rfl rfl rfl rfl rfl rfl rfl rfl mf rfl fun r2 => ?_) | (refine LK rfl ?_)
 all_goals refine Nx ?_
 all_goals refine LW 1 [1] rfl rfl ?_
 all_goals first | (refine Jc rfl rfl rfl (enters_of Tryz.func198 m5 rfl) (Jhw (R := [(r2, _)]) (xs := [1, 2, 4, 8, 32]) (p := some (⟨r2, 0, none⟩, 5)) n m7 ⟨by decide, fun _ => ⟨rfl, _, _, _, List.mem_cons_self, rfl⟩⟩) (fun q hq => .inl n7) ?_; refine Jj (congrArg Value.bool (J2z n)) ?_) | refine LK rfl ?_
 all_goals (
  refine kv fun w1 hs1 => ?_
  unfold JM
  simp_all [J6]
  skip)
theorem F_2 {n : Int} {p : Pl} {ins : List Ty} (ht : Ty.In R (.mk 2 n p ins)) : PureR Tryz.prog 203 [Ty.val (.mk 2 n p ins)].toArray (.bool (JM 2 n ins.length)) R := by
 have hno := ZU ht
 have hpl := Yt ht
 have hro := wc ht
 have hma := fun m => ZV ht m
 cases ht with
 | mk hk hn hl hs hi =>
 refine Ja Tryz.func203 rfl rfl fun w => D6 fun r1 => ?_
 refine Jo 5 rfl (fun gb => ?_) (fun gb => ?_) <;> (try simp only [ZZ] at gb) <;> first | (refine LR rfl (Jq (vs := [_, _, _]) rfl (kn 0 rfl) rfl rfl rfl rfl) ?_) | (refine LK rfl ?_)
 all_goals refine Eg ?_
 all_goals (
  refine kv fun w1 hs1 => ?_
  unfold JM
  simp_all [J6]
  skip)
theorem F_3 {n : Int} {p : Pl} {ins : List Ty} (ht : Ty.In R (.mk 3 n p ins)) : PureR Tryz.prog 208 [Ty.val (.mk 3 n p ins)].toArray (.bool (JM 3 n ins.length)) R := by
 have hno := ZU ht
 have hpl := Yt ht
 have hro := wc ht
 have hma := fun m => ZV ht m
 cases ht with
 | mk hk hn hl hs hi =>
 refine Ja Tryz.func208 rfl rfl fun w => gp fun r1 => ?_; refine Jc rfl rfl rfl Jj2 (hma 1) oR (DL ?_)
 refine Jo 5 rfl (fun gb => ?_) (fun gb => ?_) <;> (try simp only [ZZ] at gb) <;> first | (refine LR rfl (Jq (vs := [_, _, _]) rfl (kn 0 rfl) rfl rfl rfl rfl) ?_) | (refine LK rfl ?_)
 all_goals refine HM ?_
 all_goals (
  refine kv fun w1 hs1 => ?_
  unfold JM
  simp_all [J6]
  first | done | rfl | omega | (rw [Bool.eq_iff_iff]; simp only [Bool.and_eq_true, Bool.or_eq_true, decide_eq_true_eq, beq_iff_eq]; omega) | (simp only [decide_eq_true_eq, decide_eq_false_iff_not]; omega)
  skip)
theorem F_4 {n : Int} {p : Pl} {ins : List Ty} (ht : Ty.In R (.mk 4 n p ins)) : PureR Tryz.prog 215 [Ty.val (.mk 4 n p ins)].toArray (.bool (JM 4 n ins.length)) R := by
 have hno := ZU ht
 have hpl := Yt ht
 have hro := wc ht
 have hma := fun m => ZV ht m
 cases ht with
 | mk hk hn hl hs hi =>
 refine Ja Tryz.func215 rfl rfl fun w => gp fun r1 => ?_; refine Jc rfl rfl rfl Jj2 (hma 1) oR (DL ?_)
 refine Jo 5 rfl (fun gb => ?_) (fun gb => ?_) <;> (try simp only [ZZ] at gb) <;> first | (refine LR rfl (Jq (vs := [_, _, _]) rfl (kn 0 rfl) rfl rfl rfl rfl) ?_) | (refine LK rfl ?_)
 all_goals refine HM ?_
 all_goals (
  refine kv fun w1 hs1 => ?_
  unfold JM
  simp_all [J6]
  first | done | rfl | omega | (rw [Bool.eq_iff_iff]; simp only [Bool.and_eq_true, Bool.or_eq_true, decide_eq_true_eq, beq_iff_eq]; omega) | (simp only [decide_eq_true_eq, decide_eq_false_iff_not]; omega)
  skip)
theorem F_5 {n : Int} {p : Pl} {ins : List Ty} (ht : Ty.In R (.mk 5 n p ins)) : PureR Tryz.prog 217 [Ty.val (.mk 5 n p ins)].toArray (.bool (JM 5 n ins.length)) R := by
 have hno := ZU ht
 have hpl := Yt ht
 have hro := wc ht
 have hma := fun m => ZV ht m
 cases ht with
 | mk hk hn hl hs hi =>
 refine Ja Tryz.func217 rfl rfl fun w => D6 fun r1 => ?_
 refine Jo 5 rfl (fun gb => ?_) (fun gb => ?_) <;> (try simp only [ZZ] at gb) <;> first | (refine LR rfl (Jq (vs := [_, _, _]) rfl (kn 0 rfl) rfl rfl rfl rfl) ?_) | (refine LK rfl ?_)
 all_goals refine HM ?_
 all_goals (
  refine kv fun w1 hs1 => ?_
  unfold JM
  simp_all [J6]
  skip)
theorem F_6 {n : Int} {p : Pl} {ins : List Ty} (ht : Ty.In R (.mk 6 n p ins)) : PureR Tryz.prog 221 [Ty.val (.mk 6 n p ins)].toArray (.bool (JM 6 n ins.length)) R := by
 have hno := ZU ht
 have hpl := Yt ht
 have hro := wc ht
 have hma := fun m => ZV ht m
 cases ht with
 | mk hk hn hl hs hi =>
 refine Ja Tryz.func221 rfl rfl fun w => D6 fun r1 => ?_
 refine Jo 5 rfl (fun gb => ?_) (fun gb => ?_) <;> (try simp only [ZZ] at gb) <;> first | (refine LR rfl (Jq (vs := [_, _, _]) rfl (kn 0 rfl) rfl rfl rfl rfl) ?_) | (refine LK rfl ?_)
 all_goals refine HM ?_
 all_goals (
  refine kv fun w1 hs1 => ?_
  unfold JM
  simp_all [J6]
  skip)
theorem F_7 {n : Int} {p : Pl} {ins : List Ty} (ht : Ty.In R (.mk 7 n p ins)) : PureR Tryz.prog 223 [Ty.val (.mk 7 n p ins)].toArray (.bool (JM 7 n ins.length)) R := by
 have hno := ZU ht
 have hpl := Yt ht
 have hro := wc ht
 have hma := fun m => ZV ht m
 cases ht with
 | mk hk hn hl hs hi =>
 refine Ja Tryz.func223 rfl rfl fun w => gp fun r1 => ?_; refine Jc rfl rfl rfl Jj2 (hma 16) oR (DL ?_)
 refine Jo 5 rfl (fun gb => ?_) (fun gb => ?_) <;> (try simp only [ZZ] at gb) <;> first | (refine LR rfl (Jq (vs := [_, _, _]) rfl (kn 0 rfl) rfl rfl rfl rfl) ?_) | (refine LK rfl ?_)
 all_goals refine Eg ?_
 all_goals (
  refine kv fun w1 hs1 => ?_
  unfold JM
  simp_all [J6]
  first | done | rfl | omega | (rw [Bool.eq_iff_iff]; simp only [Bool.and_eq_true, Bool.or_eq_true, decide_eq_true_eq, beq_iff_eq]; omega) | (simp only [decide_eq_true_eq, decide_eq_false_iff_not]; omega)
  skip)
theorem F_8 {n : Int} {p : Pl} {ins : List Ty} (ht : Ty.In R (.mk 8 n p ins)) : PureR Tryz.prog 226 [Ty.val (.mk 8 n p ins)].toArray (.bool (JM 8 n ins.length)) R := by
 have hno := ZU ht
 have hpl := Yt ht
 have hro := wc ht
 have hma := fun m => ZV ht m
 cases ht with
 | mk hk hn hl hs hi =>
 refine Ja Tryz.func226 rfl rfl fun w => gp fun r1 => ?_; refine Jc rfl rfl rfl Jj2 (hma 8) oR (DL ?_)
 refine Jo 5 rfl (fun gb => ?_) (fun gb => ?_) <;> (try simp only [ZZ] at gb) <;> first | (refine LR rfl (Jq (vs := [_, _, _]) rfl (kn 0 rfl) rfl rfl rfl rfl) ?_) | (refine LK rfl ?_)
 all_goals refine Eg ?_
 all_goals (
  refine kv fun w1 hs1 => ?_
  unfold JM
  simp_all [J6]
  first | done | rfl | omega | (rw [Bool.eq_iff_iff]; simp only [Bool.and_eq_true, Bool.or_eq_true, decide_eq_true_eq, beq_iff_eq]; omega) | (simp only [decide_eq_true_eq, decide_eq_false_iff_not]; omega)
  skip)
theorem Xg {k : Int} : isK k = true ↔ 1 ≤ k ∧ k ≤ 8 := by unfold isK; simp
theorem J06 {k n : Int} {p : Pl} {ins : List Ty} (ht : Ty.In R (.mk k n p ins)) (h : isK k = true) : Enters Tryz.prog (Jqy k) ∧ PureR Tryz.prog (Jqy k) [Ty.val (.mk k n p ins)].toArray (.bool (JM k n ins.length)) R := by
 have := Xg.1 h
 have : k = 1 ∨ k = 2 ∨ k = 3 ∨ k = 4 ∨ k = 5 ∨ k = 6 ∨ k = 7 ∨ k = 8 := by omega
 rcases this with rfl | rfl | rfl | rfl | rfl | rfl | rfl | rfl
 ·exact ⟨enters_of Tryz.func196 m5 rfl, F_1 ht⟩
 ·exact ⟨enters_of Tryz.func203 m5 rfl, F_2 ht⟩
 ·exact ⟨enters_of Tryz.func208 m5 rfl, F_3 ht⟩
 ·exact ⟨enters_of Tryz.func215 m5 rfl, F_4 ht⟩
 ·exact ⟨enters_of Tryz.func217 m5 rfl, F_5 ht⟩
 ·exact ⟨enters_of Tryz.func221 m5 rfl, F_6 ht⟩
 ·exact ⟨enters_of Tryz.func223 m5 rfl, F_7 ht⟩
 ·exact ⟨enters_of Tryz.func226 m5 rfl, F_8 ht⟩
theorem Jhx (k : Int) : (ZS k).all Va = true := by
 unfold ZS fnV
 cases isK k <;> cases Jhv k <;> rfl
theorem j4 {k : Int} (h : isK k = false) : k < 1 ∨ 8 < k := by unfold isK at h; simp at h; omega
theorem Jj7 {b : Bool} {f : FuncId} (h : b = true) : fnV b f = .func (.func f) #[] #[] := by rw [h]; rfl
theorem Jj8 {k : Int} (h : isK k = true) : Jhv k = (decide (k = 4) || decide (k = 6) || decide (k = 8)) := by
 have := Xg.1 h
 have : k = 1 ∨ k = 2 ∨ k = 3 ∨ k = 4 ∨ k = 5 ∨ k = 6 ∨ k = 7 ∨ k = 8 := by omega
 rcases this with rfl | rfl | rfl | rfl | rfl | rfl | rfl | rfl <;> rfl
theorem Jvz (ht : t.In R) : ∀ d : Int, 0 ≤ d → d ≤ 1000 → PureR Tryz.prog 141 [t.val, .int .i64 d].toArray (.int .i64 (Vp t d)) R := by
  induction ht with
  | @mk k n p ins hk hn hl hs hi ih =>
  intro d hd0 hd1
  have hF := fun h => J06 (.mk hk hn hl hs hi : Ty.In R (.mk k n p ins)) h
  refine Ja Tryz.func141 rfl rfl fun w => Nl fun r1 => ?_; refine G5 ?_
  refine JD [] [(0, .grow (KA 0 (fun r : Nat => Value.map (some r)) (fun r => [(r, Jmp)]))), (1, .pure), (4, .pure), (5, .pure), (6, .pure), (7, .grow (VS xo (.cells #[.nilFunc, .nilFunc, .nilFunc, .bool false] 171 (0, 0)))), (8, .turn), (9, .pure)] 10 [1, 2, 0, 3, 4, 5, 6, 7, 8, 9] m5 m5 m6 ?_
  refine gS ?_; refine YE (k := 0) rfl rfl rfl rfl rfl Jeq q8 fun mr => JY (k := 3) rfl rfl rfl rfl rfl (Y9 (Yi (t := 3) m5) rfl rfl (kn 0 rfl) rfl rfl ⟨_, rfl⟩ ZT (Jq0 k)) (Eh ?_); refine gY ?_; refine XU (k := 7) (cs := #[_, _, _, _]) rfl rfl rfl rfl rfl rfl fun r2 => ?_
  refine vP (k := 8) (q := 0) (n := 4) (ys := ZS k) rfl rfl rfl rfl rfl rfl rfl rfl rfl (Jhx k) mj (by first | exact (fun _ h => nomatch h) | simp [SubS]) ?_; refine Dp ?_; refine JP 11 rfl ?_; refine cD (fun g => ?_) fun g => ?_
  refine Hx fun w1 hs1 => ?_; rw [Vp, if_pos (j4 m9)]; rfl
  · refine gu ?_; refine Jj (Jj7 m9) (E0 ?_); refine Jc rfl rfl rfl (hF m9).1 (hF m9).2 oR (G5 ?_); refine cD (fun g => ?_) fun g => ?_
    refine Hx fun w1 hs1 => ?_
    first
      | (rw [Vp, if_pos (j4 m9)]; rfl)
      | (have hkk := Xg.1 m9
         rw [Vp, if_neg m0]
         first
         | (rw [if_pos m9]; rfl)
         | (rw [if_neg mA, if_pos m0]; rfl)
         | (rw [if_neg mA, if_neg m0, ← hinv, if_neg m9]; rfl)
         | (rw [if_neg mA, if_neg m0, ← hinv, List.drop_of_length_le m0, Xw]; rfl))
    · refine E3 ?_; refine cD (fun g => ?_) fun g => ?_
      refine Hx fun w1 hs1 => ?_
      first
        | (rw [Vp, if_pos (j4 m9)]; rfl)
        | (have hkk := Xg.1 m9
           rw [Vp, if_neg m0]
           first
           | (rw [if_pos m9]; rfl)
           | (rw [if_neg mA, if_pos m0]; rfl)
           | (rw [if_neg mA, if_neg m0, ← hinv, if_neg m9]; rfl)
           | (rw [if_neg mA, if_neg m0, ← hinv, List.drop_of_length_le m0, Xw]; rfl))
      · refine QZ 8 [2] rfl rfl (HU ?_); refine Js (σ := Nat) (fun i => i ≤ ins.length ∧ Xw (ins.drop i) (d + 1) = Xw ins (d + 1)) (fun i => [(1, .int .i64 d), (30, KE ins.length p), (31, .int .i64 (ins.length : Int)), (32, .int .i64 (i : Int))]) (fun _ => []) (fun _ _ _ => True) (fun i => ins.length - i) 0 ⟨by omega, rfl⟩ (lK rfl) (List.nil_sublist _) (fun _ _ h => h) ?_; rintro i ⟨hi1, hinv⟩; refine NK ?_; refine cD (fun g => ?_) fun g => ?_
        refine gr ?_
        obtain ⟨y, hy, hmem⟩ := QN M2
        rw [X7 hy, Xw] at hinv; refine Dq ?_; refine kQ ?_; refine LN rfl fun r3 => Hr ?_; refine NZ ?_; refine Jh m0 m0 (Jc rfl rfl rfl (enters_of Tryz.func141 m5 rfl) (ih y hmem (d + 1) m0 m0) oR (HN ?_)); refine cD (fun g => ?_) fun g => ?_
        refine Gz fun w1 hs1 => ?_
        first
          | (rw [Vp, if_pos (j4 m9)]; rfl)
          | (have hkk := Xg.1 m9
             rw [Vp, if_neg m0]
             first
             | (rw [if_pos m9]; rfl)
             | (rw [if_neg mA, if_pos m0]; rfl)
             | (rw [if_neg mA, if_neg m0, ← hinv, if_neg m9]; rfl)
             | (rw [if_neg mA, if_neg m0, ← hinv, List.drop_of_length_le m0, Xw]; rfl))
        refine GX ?_; exact Jm (i + 1) ⟨by omega, by rw [if_pos m9] at hinv; exact hinv⟩ m0 (lK rfl) (List.nil_sublist _) (fun _ _ h => h)
        · refine kT fun w1 hs1 => ?_
          (have hkk := Xg.1 m9
           rw [Vp, if_neg m0]
           first
           | (rw [if_pos m9]; rfl)
           | (rw [if_neg mA, if_pos m0]; rfl)
           | (rw [if_neg mA, if_neg m0, ← hinv, if_neg m9]; rfl)
           | (rw [if_neg mA, if_neg m0, ← hinv, List.drop_of_length_le m0, Xw]; rfl))
theorem Jb7 (ht : t.In R) : PureR Tryz.prog 93 [t.val].toArray (.int .i64 (Vp t 0)) R := by
 have h1 := Jvz ht 0 m0 m0
 obtain ⟨k, n, p, ins⟩ := t
 refine Ja Tryz.func93 rfl rfl fun w => gp fun r1 => ?_; refine Jc rfl rfl rfl (enters_of Tryz.func141 m5 rfl) h1 oR ?_; exact NS
def Jex {α : Type} (b : α → Bool) : List α → Int → Int
 | [], _ => -1
 | y :: ys, j => if b y = true then j else Jex b ys (j + 1)
theorem Jey {α : Type} {b : α → Bool} : ∀ {l : List α} {j : Int}, 0 ≤ j → decide (0 ≤ Jex b l j) = l.any b
 | [], _, _ => rfl
 | y :: ys, j, h => by
  rw [Jex, List.any_cons]
  split
  ·rename_i hb; rw [hb]; simp [h]
  ·rename_i hb; rw [Jey m0]; simp [hb]
theorem Jb8 {ins : List Ty} {p : Pl} {b : Ty → Bool} (eg : Enters Tryz.prog g) (hg : ∀ x ∈ ins, PureR Tryz.prog g [x.val].toArray (.bool (b x)) R) (hl : ins.length ≤ 9223372036854775807) (hs : Seg R ins.length (xu ins) p) :
  PureR Tryz.prog 263 [KE ins.length p, fV g].toArray (.int .i64 (Jex b ins 0)) R := by
 refine Ja Tryz.func263 rfl rfl fun w => G0 ?_; refine HU ?_; refine Js (σ := Nat) (fun i => i ≤ ins.length ∧ Jex b (ins.drop i) (i : Int) = Jex b ins 0) (fun i => [(0, KE ins.length p), (1, fV g), (7, .int .i64 (ins.length : Int)), (8, .int .i64 (i : Int))]) (fun _ => []) (fun _ _ _ => True) (fun i => ins.length - i) 0 ⟨by omega, rfl⟩ (lK rfl) (List.nil_sublist _) (fun _ _ h => h) ?_; rintro i ⟨hi1, hinv⟩; refine NK ?_; refine cD (fun h6 => ?_) fun h6 => ?_
 refine J9 11 rfl ?_
 obtain ⟨y, hy, hmem⟩ := QN M2
 rw [X7 hy, Jex] at hinv; refine GO ?_; refine kQ ?_; refine Jc rfl rfl rfl eg (hg y hmem) oR (HY ?_); refine cD (fun h10 => ?_) fun h10 => ?_
 refine Gz fun w1 hs1 => ?_; rw [← hinv, if_pos m9]; rfl
 refine GX ?_; exact Jm (i + 1) ⟨by omega, by rw [if_neg mA] at hinv; exact hinv⟩ m0 (lK rfl) (List.nil_sublist _) (fun _ _ h => h)
 ·refine kT fun w1 hs1 => ?_; rw [← hinv, List.drop_of_length_le m0, Jex]; rfl
theorem wu {ins : List Ty} {p : Pl} {b : Ty → Bool} (eg : Enters Tryz.prog g) (hg : ∀ x ∈ ins, PureR Tryz.prog g [x.val].toArray (.bool (b x)) R) (hl : ins.length ≤ 9223372036854775807) (hs : Seg R ins.length (xu ins) p) :
  PureR Tryz.prog 244 [KE ins.length p, fV g].toArray (.bool (ins.any b)) R := by
 have h := Jb8 (b := b) eg hg hl hs
 rw [← Jey (b := b) (l := ins) (Int.le_refl 0)]; refine Ja Tryz.func244 rfl rfl fun w => G0 ?_; refine Jc rfl rfl rfl (enters_of Tryz.func263 m5 rfl) h oR (gt ?_); exact Nz
theorem Jj9 : ∀ ins : List Ty, (ins.any fun x => !Wi x) = !Zf ins
 | [] => rfl
 | x :: xs => by rw [List.any_cons, Jj9 xs, Zf, Bool.not_and]
theorem Jv0 (ht : t.In R) : ∀ d : Int, Vp t d = 0 → PureR Tryz.prog 182 [t.val].toArray (.bool (Wi t)) R := by
 induction ht with
 | @mk k n p ins hk hn hl hs hi ih =>
 intro d hc
 obtain ⟨hk8, ho, h6, hci⟩ := QE hc
 have hkk := Xg.2 hk8
 have hcl : ∀ x ∈ ins, PureR Tryz.prog 245 [x.val].toArray (.bool (!Wi x)) R := fun x hx => by
  have h1 := ih x hx (d + 1) (hci x hx)
  obtain ⟨xk, xn, xp, xi⟩ := x
  refine Ja Tryz.func245 rfl rfl fun w => gp fun r1 => ?_; refine Jc rfl rfl rfl (enters_of Tryz.func182 m5 rfl) h1 oR (gt ?_); exact Nz
 have hany := wu (b := fun x => !Wi x) (enters_of Tryz.func245 m5 rfl) hcl hl hs
 rw [Jj9] at hany
 have hvb := Jj8 hkk
 rw [Wi]; refine Ja Tryz.func182 rfl rfl fun w => Nl fun r1 => ?_; refine G5 ?_
 refine JD [] [(0, .grow (KA 0 (fun r : Nat => Value.map (some r)) (fun r => [(r, Jmp)]))), (1, .pure), (4, .pure), (5, .pure), (6, .pure), (7, .pure), (10, .pure), (11, .pure), (12, .pure)] 13 [1, 2, 0, 3, 4, 5, 6, 7, 8, 9, 10, 11, 12] m5 m5 m6 ?_
 refine gS ?_; refine NP fun mr => ?_; refine Jk (k := 5) rfl rfl rfl rfl rfl (fun _ hS => (Ju rfl rfl rfl)) (Jk (k := 6) rfl rfl rfl rfl rfl (fun _ hS => (Jg rfl)) ?_)
 refine Juq 9 rfl (fun gb => ?_) (fun gb => ?_) <;> (try simp only [ZZ] at gb) <;> first | (refine Jk (k := 7) rfl rfl rfl rfl rfl (fun _ hS => (Jw rfl rfl rfl)) ?_) | (refine wH (k := 7) rfl rfl rfl rfl ?_)
 all_goals first | refine JY (k := 8) rfl rfl rfl rfl rfl (Jd rfl (kn 1 rfl) rfl rfl) ?_ | refine wH (k := 8) rfl rfl rfl rfl ?_
 all_goals first | (refine JU (k := 9) rfl rfl rfl rfl rfl (enters_of Tryz.func244 m5 rfl) hany oR ?_) | refine wH (k := 9) rfl rfl rfl rfl ?_
 all_goals first | refine Jk (k := 10) rfl rfl rfl rfl rfl (fun _ hS => (Ju rfl rfl rfl)) ?_ | refine wH (k := 10) rfl rfl rfl rfl ?_
 all_goals first | refine Jk (k := 11) rfl rfl rfl rfl rfl (fun _ hS => (Yk rfl rfl)) ?_ | refine Jk (k := 11) rfl rfl rfl rfl rfl (fun _ hS => (Yl rfl rfl)) ?_
 all_goals (
  refine Jk (k := 12) rfl rfl rfl rfl rfl (fun _ hS => (JA rfl)) (Kc (J0 1 rfl (X6 2 rfl ?_))); refine Nk fun w1 hs1 => ?_
  simp_all [J6]
  all_goals first | done | (intros; omega)
  skip)
theorem Jb9 (ht : t.In R) : PureR Tryz.prog 142 [t.val].toArray (.bool (JL t)) R := by
 have h1 := Jb7 ht
 have h2 := Jv0 ht 0
 obtain ⟨k, n, p, ins⟩ := t
 refine Ja Tryz.func142 rfl rfl fun w => gp fun r1 => ?_; refine Jc rfl rfl rfl Jzf h1 oR (NZ ?_)
 refine Jo 6 rfl (fun gb => ?_) (fun gb => ?_) <;> (try simp only [ZZ] at gb) <;> first | (refine LR rfl (Jq (vs := [_, _, _]) rfl (kn 0 rfl) rfl rfl rfl rfl) ?_) | (refine LK rfl ?_)
 all_goals first | (refine Jc rfl rfl rfl (enters_of Tryz.func182 m5 rfl) (h2 m9) oR ?_) | refine LK rfl ?_
 all_goals (
  refine kv fun w1 hs1 => ?_
  simp_all [JL, J6]
  skip)
theorem Jv1 {k n : Int} {p : Pl} {ins : List Ty} (ht : Ty.In R (.mk k n p ins)) (hsub : ∀ x ∈ ins, PureR Tryz.prog 183 [x.val].toArray (.int .i64 (JV x)) R) (hpos : ∀ x ∈ ins, 1 ≤ JV x) (hb : VL ins ≤ 2251799813685248) :
  PureR Tryz.prog 214 [Ty.val (.mk k n p ins)].toArray (.int .i64 (VL ins)) R := by
 cases ht with
 | mk hk hn hl hs hi =>
 have hdp : ∀ i, 0 ≤ VL (ins.drop i) := fun i => by
  have : ∀ l : List Ty, (∀ x ∈ l, 1 ≤ JV x) → 0 ≤ VL l := by
   intro l
   induction l with
   | nil => intro _; rw [VL]; omega
   | cons x xs ih => intro h; rw [VL]; have h1 := h x mh; have h2 := ih fun y hy => h y (by simp [hy]); omega
  exact this _ fun x hx => hpos x (List.mem_of_mem_drop hx)
 refine Ja Tryz.func214 rfl rfl fun w => Nl fun r1 => ?_; refine XO 13 [0] rfl rfl (HU ?_); refine Js (σ := Nat × Int) (fun s => s.1 ≤ ins.length ∧ 0 ≤ s.2 ∧ s.2 + VL (ins.drop s.1) = VL ins) (fun s => [(3, .int .i64 s.2), (7, KE ins.length p), (8, .int .i64 (ins.length : Int)), (9, .int .i64 (s.1 : Int))]) (fun _ => []) (fun _ _ _ => True) (fun s => ins.length - s.1) (0, 0) ⟨by omega, by omega, by simp⟩ (lK rfl) (List.nil_sublist _) (fun _ _ h => h) ?_; rintro ⟨i, m⟩ ⟨hi1, hm, hinv⟩; simp only at hinv hi1 hm; refine NK ?_; refine cD (fun g => ?_) fun g => ?_
 refine gr ?_
 obtain ⟨y, hy, hmem⟩ := QN M2
 have hdi := hdp (i + 1)
 have hyp := hpos y hmem
 rw [X7 hy, VL] at hinv; refine Dq ?_; refine kQ ?_; refine LN rfl fun r2 => Hr ?_; refine Jc rfl rfl rfl (enters_of Tryz.func183 m5 rfl) (hsub y hmem) oR (Vf rfl (Jh m0 m0 (JK 6 rfl ?_))); refine Nn ?_; exact Jm (i + 1, m + JV y) ⟨by omega, by simp only; omega, by simp only; omega⟩ ml (lK rfl) (List.nil_sublist _) (fun _ _ h => h)
 ·refine Gz fun w1 hs1 => ?_; rw [← hinv, List.drop_of_length_le m0, VL, Int.add_zero]; rfl
theorem Jq2 {k n : Int} {p : Pl} {ins : List Ty} {d : Int} (hd : 0 ≤ d) (hc : Vp (.mk k n p ins) d = 0) (hf : Wi (.mk k n p ins) = true) : (∀ x ∈ ins, 1 ≤ JV x) ∧ VL ins ≤ 2251799813685248 ∧ (k = 3 → 0 ≤ n * VL ins ∧ n * VL ins ≤ 2251799813685248) := by
 have hsz := jI _ d hd hc hf
 have hb5 := Jbf (show (5 - d).toNat ≤ 5 by omega)
 obtain ⟨hk8, ho, h6, hci⟩ := QE hc
 rw [Wi, Bool.and_eq_true] at hf
 have hfi := ZL.1 hf.2
 have hsub : ∀ x ∈ ins, 1 ≤ JV x ∧ JV x ≤ bnd (5 - (d + 1)).toNat := fun x hx => jI x (d + 1) m0 (hci x hx) (hfi x hx)
 have hL := wG hsub
 refine ⟨fun x hx => (hsub x hx).1, ?_, fun h3 => ?_⟩
 ·by_cases he : ins = []
  ·subst he; rw [VL]; omega
  ·have hd5 : d < 5 := by
    obtain ⟨x, hx⟩ := List.exists_mem_of_ne_nil _ he
    cases x with
    | mk a b c e => have := (QE (hci _ hx)).2.2.1; omega
   have hlen : ins.length ≤ 16 := by
    have h9 : k = 1 ∨ k = 2 ∨ k = 3 ∨ k = 4 ∨ k = 5 ∨ k = 6 ∨ k = 7 ∨ k = 8 := by omega
    unfold JM at ho
    rcases h9 with rfl | rfl | rfl | rfl | rfl | rfl | rfl | rfl <;> simp [he] at ho <;> omega
   have e : (5 - d).toNat = (5 - (d + 1)).toNat + 1 := by omega
   rw [e, bnd] at hb5
   have hb2 := wF (5 - (d + 1)).toNat
   generalize bnd (5 - (d + 1)).toNat = B at *
   exact EG
 ·subst h3
  have : JV (.mk 3 n p ins) = n * VL ins := by rw [JV, if_neg m7, if_neg m7, if_neg m7, if_pos rfl]
  rw [this] at hsz; omega
theorem J07 {k n : Int} {p : Pl} {ins : List Ty} {d : Int} (ht : Ty.In R (.mk k n p ins)) (hd : 0 ≤ d) (hc : Vp (.mk k n p ins) d = 0) (hf : Wi (.mk k n p ins) = true)
  (hsub : ∀ x ∈ ins, PureR Tryz.prog 183 [x.val].toArray (.int .i64 (JV x)) R) : Enters Tryz.prog (Jqz k) ∧ PureR Tryz.prog (Jqz k) [Ty.val (.mk k n p ins)].toArray (.int .i64 (JV (.mk k n p ins))) R := by
 obtain ⟨hpos, hb, h3⟩ := Jq2 hd hc hf
 have hp := Jv1 ht hsub hpos hb
 obtain ⟨hk8, ho, h6, hci⟩ := QE hc
 rw [Wi, Bool.and_eq_true] at hf
 have hne : (k ≠ 4 ∧ k ≠ 6) ∧ k ≠ 8 := by simpa using hf.1
 have h9 : k = 1 ∨ k = 2 ∨ k = 3 ∨ k = 5 ∨ k = 7 := by omega
 rcases h9 with rfl | rfl | rfl | rfl | rfl
 refine ⟨enters_of Tryz.func202 m5 rfl, ?_⟩
 show PureR Tryz.prog 202 _ _ R
 rw [JV, if_pos rfl]; refine Ja Tryz.func202 rfl rfl fun w => ?_; exact D4
 refine ⟨enters_of Tryz.func207 m5 rfl, ?_⟩
 show PureR Tryz.prog 207 _ _ R
 rw [JV, if_neg m7, if_pos rfl]; refine Ja Tryz.func207 rfl rfl fun w => Nl fun r1 => ?_; refine J0 9 rfl ?_; exact Nz
 refine ⟨enters_of Tryz.func213 m5 rfl, ?_⟩
 show PureR Tryz.prog 213 _ _ R
 have h3' := h3 rfl
 rw [JV, if_neg m7, if_neg m7, if_neg m7, if_pos rfl]; refine Ja Tryz.func213 rfl rfl fun w => Nl fun r1 => ?_; refine G5 ?_; refine JR 6 m5 m5 ?_
 refine kE ?_; refine Jb rfl rfl rfl (Jq (vs := [_, _, _]) rfl (kn 0 rfl) rfl rfl rfl rfl) (V8 rfl rfl rfl (enters_of Tryz.func214 m5 rfl) hp oR (No ?_)); refine Ww m0 m0 (ku ?_); exact DR
 refine ⟨enters_of Tryz.func220 m5 rfl, ?_⟩
 show PureR Tryz.prog 220 _ _ R
 have hbit : 1 ≤ n ∧ n ≤ 512 := by simp [JM] at ho; omega
 rw [JV, if_neg m7, if_neg m7, if_pos rfl]; refine Ja Tryz.func220 rfl rfl fun w => Nl fun r1 => ?_; refine XO 8 [0] rfl rfl (Jh m0 m0 (Vf rfl (Jh m0 m0 ?_))); refine Vf rfl (Ja0 m0 m0 m0 (J0 4 rfl ?_)); refine ke fun w1 hs1 => ?_; exact ⟨congrArg (fun z => Ending.returned (Value.int .i64 z)) m0, hs1.keep⟩
 ·refine ⟨enters_of Tryz.func225 m5 rfl, ?_⟩
  show PureR Tryz.prog 225 _ _ R
  rw [JV, if_neg m7, if_neg m7, if_neg m7, if_neg m7]; refine Ja Tryz.func225 rfl rfl fun w => gp fun r1 => ?_; refine Jc rfl rfl rfl (enters_of Tryz.func214 m5 rfl) hp oR ?_; exact NS
theorem Jzh (ht : t.In R) : ∀ d : Int, 0 ≤ d → Vp t d = 0 → Wi t = true → PureR Tryz.prog 183 [t.val].toArray (.int .i64 (JV t)) R := by
 induction ht with
 | @mk k n p ins hk hn hl hs hi ih =>
 intro d hd hc hf
 obtain ⟨hk8, ho, h6, hci⟩ := QE hc
 have hkk := Xg.2 hk8
 have hf0 := hf
 rw [Wi, Bool.and_eq_true] at hf0
 have hfi := ZL.1 hf0.2
 have hz := J07 (.mk hk hn hl hs hi : Ty.In R (.mk k n p ins)) hd hc hf fun x hx => ih x hx (d + 1) m0 (hci x hx) (hfi x hx)
 have hvb : (isK k && !Jhv k) = true := by rw [hkk, Jj8 hkk]; exact hf0.1
 refine Ja Tryz.func183 rfl rfl fun w => Nl fun r1 => ?_; refine G5 ?_
 refine JD [] [(0, .grow (KA 0 (fun r : Nat => Value.map (some r)) (fun r => [(r, Jmp)]))), (1, .pure), (4, .pure), (7, .pure)] 8 [1, 2, 5, 0, 3, 4, 6, 7] m5 m5 m6 ?_
 refine gS ?_; refine JY (k := 5) rfl rfl rfl rfl rfl (Jq (vs := [_, _, _]) rfl (kn 0 rfl) rfl rfl rfl rfl) (NP fun mr => ?_); refine Qw (Jj7 hvb) (JU (k := 6) rfl rfl rfl rfl rfl hz.1 hz.2 oR (Jk (k := 7) rfl rfl rfl rfl rfl (fun _ hS => (JA rfl)) (Kc ?_))); exact DR
theorem Jhy (ht : t.In R) : PureR Tryz.prog 143 [t.val].toArray (.int .i64 (YD t)) R := by
 have h1 := Jb9 ht
 have h2 := Jzh ht 0 m0
 obtain ⟨k, n, p, ins⟩ := t
 refine Ja Tryz.func143 rfl rfl fun w => Nl fun r1 => ?_; refine G1 ?_; refine Nu ?_; refine Jc rfl rfl rfl Jqi h1 oR (kU ?_); refine cD (fun g => ?_) fun g => ?_
 refine gZ fun w1 hs1 => ?_
 simp_all [YD, J6]
 ·refine GO ?_; refine Nu ?_; refine Jc rfl rfl rfl (enters_of Tryz.func183 m5 rfl) (h2 (W0.1 m9).1 (W0.1 m9).2) oR (DP fun w1 hs1 => ?_)
  simp_all [YD, J6]
end Go.Proofs.YteceenlfegnigaaGreatDoor
