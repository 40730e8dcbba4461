import Derived.Test.YteceenlfegnigaaGreatDoorZtPutsb
import Derived.RecoverIn
import Derived.Test.YteceenlfegnigaaGreatDoorProg
import Derived.Laws.Externs
import Derived.Shelf.Spec.BitsCarry
import Derived.Shelf.Strings.Builder1
import Derived.Shelf.Strings.Builder2
import Derived.Shelf.Strings.Trim
import Derived.Shelf.Small.Utf8
import Derived.Shelf.Small.Strs
import Derived.Shelf.Strings.BuilderF
import Derived.Shelf.Strings.BuilderK
import Derived.Shelf.Strings.Builder2Cap
import Derived.Shelf.Strings.Search1
import Derived.Shelf.Strings.Prefix
import Derived.Shelf.Unicode.Decode
import Derived.Shelf.Strings.Runes
import Derived.Shelf.Strings.AsciiSet
import Derived.Shelf.Bits.Mul64
import Derived.Shelf.Strings.Repeat
import Derived.Shelf.Unicode.DecodeSlow
import Derived.Shelf.Unicode.DecodeAny
import Derived.Shelf.Strings.BuilderCap
import Derived.Shelf.Slices.Turned
import Derived.Ground.Names2Prog
import Derived.Shelf.Slices.Clone
set_option maxRecDepth 100000
namespace Go.SL
set_option linter.all false
open Go Go.RowKit Go.Shelf
open Go.Proofs (Enters enters_of)
variable {a a' : Act} {K : Act → World → Prop} {af : Array Edge} {es : Array MapEntry} {ops : Array Oper} {args : Array Operand} {at_ : Array TypeId} {cs cs2 : Array Value} {b : Bool} {assign body code : Code} {τ : Type} {E : Code → τ → Prop} {c c3 : Cx} {R : Ending → World → Prop} {Q : Exit → Act → World → Prop} {F : Fence} {c₀ : Frame} {u' : FrameMode} {fn : Func} {g gf : FuncId} {B L L' Rl : Ji} {l' tv : Kj} {d : List Deferred} {cs' : List Frame} {pp : List Nat} {rest : List Oper} {ch : List PanicEntry} {pc : List PanicEntry → Prop} {rs : List ResultVar} {s : List UInt8} {caps vs : List Value} {α : Type} {xs : List α} {h i id j q r : Nat} {fr : Nat × Nat} {o : Oper} {f x y : Operand} {gd : Option (Nat × Bool)} {dst : Option Nat} {P : Program} {ps : String} {ι σ : Type} {e e1 e2 t tt ty : TypeId} {v v' : Value} {w w' : World} {X XF Xb : XP} {LL : α → Ji} {V : α → Value} {X' : α → XP} {p0 : ι} {nx : ι → List Value → ι → Prop} {fi fin : ι → Prop} {LI : σ → Ji} {I : σ → Prop} {XI : σ → XP}
def wP (v : Value) : List PanicEntry := [{ v, recovered := false }]
structure PureX {α : Type} (P : Program) (f : FuncId) (args : Array Value) (ok : Prop) (bad : Value → Prop) (V : α → Value) (LL : α → Ji) (Rl : Ji) : Prop where
  run : ∀ w, vk Rl w → Calls P f args w fun e w' => (ok ∧ ∃ x, e = .returned (V x) ∧ Keep [] w w' ∧ (∀ p ∈ LL x, w.heap.size ≤ p.1 ∧ w'.heap[p.1]? = some p.2) ∧ (LL x).Pairwise fun p q => p.1 ≠ q.1) ∨ (∃ v, bad v ∧ e = .panicked (wP v) ∧ Keep [] w w')
def cxX (P : Program) (w : World) (Rl : Ji) (n : Nat) : Cx := ⟨P, none, w, [], [], Rl, n⟩
theorem St.startX {n : Nat} (hR : vk Rl w) : St (cxX P w Rl n) [] (fun _ _ => True) w :=
 ⟨Keep.refl _ _, by simp, by simp, fun p hp => ⟨by simp [cxX], by simp [cxX], hR p hp⟩, by simp [cxX], ⟨[], by simp, fun _ _ => trivial⟩⟩
def Jm6 {α : Type} (c : Cx) (ok : Prop) (bad : Value → Prop) (V : α → Value) (LL : α → Ji) : Ending → World → Prop := fun e w' =>
 (ok ∧ ∃ x, e = .returned (V x) ∧ St c (LL x) (fun _ _ => True) w') ∨ (∃ v, bad v ∧ e = .panicked (wP v) ∧ Keep [] c.w1 w')
theorem XS {f : FuncId} {ok : Prop} {bad : Value → Prop} (hf : P.funcs[f]? = some fn) (hb : fn.body = some code) (hlen : Nat.ble vs.length fn.ntmps = true)
  (h : ∀ w, HC (cxX P w Rl fn.ntmps) [] (Vf 0 vs) [] (fun _ _ => True) code (bodyPostM (FW none) 0 P fn (Jm6 (cxX P w Rl fn.ntmps) ok bad V LL))) : PureX P f vs.toArray ok bad V LL Rl := ⟨fun w hR =>
 (Q0 (cxX P w Rl fn.ntmps) hf hb rfl rfl rfl hlen (St.startX hR) (h w)).mono fun _ _ h => h.imp
  (fun ⟨ho, x, he, hs⟩ => ⟨ho, x, he, by have := hs.keep; simpa [cxX] using this, fun p hp => by have := (hs.own p hp); simp only [cxX, List.not_mem_nil, false_or] at this; exact ⟨this.1, this.2.2⟩, hs.distinct⟩)
  (fun ⟨v, hv, he, hk⟩ => ⟨v, hv, he, hk⟩)⟩
theorem PureX.mono {f : FuncId} {args : Array Value} {ok ok' : Prop} {bad bad' : Value → Prop} (h : PureX P f args ok bad V LL Rl) (h1 : ok → ok') (h2 : ∀ v, bad v → bad' v) : PureX P f args ok' bad' V LL Rl :=
 ⟨fun w hR => (h.run w hR).mono fun _ _ h => h.imp (fun ⟨a, b⟩ => ⟨h1 a, b⟩) (fun ⟨v, a, b⟩ => ⟨v, h2 v a, b⟩)⟩
theorem PureX.map {β : Type} {f : FuncId} {args : Array Value} {ok : Prop} {bad : Value → Prop} {V' : β → Value} {LL' : β → Ji} (h : PureX P f args ok bad V LL Rl) (g : α → β) (hv : ∀ x, V x = V' (g x)) (hl : ∀ x, (LL' (g x)).Sublist (LL x)) : PureX P f args ok bad V' LL' Rl :=
 ⟨fun w hR => (h.run w hR).mono fun _ _ h => h.imp (fun ⟨a, x, he, hk, h1, h2⟩ => ⟨a, g x, he.trans (by rw [hv]), hk, fun p hp => h1 p ((hl x).subset hp), h2.sublist (hl x)⟩) id⟩
theorem PureX.toT {f : FuncId} {args : Array Value} {ok : Prop} {bad : Value → Prop} (h : PureX P f args ok bad V LL Rl) (hb : ∀ v, ¬ bad v) : PureT P f args V [] LL Rl :=
 ⟨fun w _ hR _ _ => (h.run w hR).mono fun _ _ h => h.elim (fun ⟨_, x, he, hk, h1, h2⟩ => ⟨x, he, hk, fun p hp => ⟨.inr (h1 p hp).1, (h1 p hp).2⟩, h2⟩) (fun ⟨v, hv, _⟩ => absurd hv (hb v))⟩
section
variable {c : Cx} {l : Kj} {L : Ji} {X : XP} {Q : Exit → Act → World → Prop} {K : Act → World → Prop} {d : List Deferred}
variable {ops : Array Oper} {rest : List Oper} {i : Nat} {v : Value} {t : TypeId} {ps : String} {af : Array Edge} {gd : Option (Nat × Bool)} {ty : TypeId}
theorem KN {ok : Prop} {bad : Value → Prop}
  (hg : Kg l ops ⟨some i, .call ⟨.value f, args, at_⟩, ty, ps, af, gd⟩ = some true) (hi : Nat.ble (i + 1) c.n = true) (hca : Kw l f args = some (g, vs)) (eg : Enters c.P g)
  (hpt : PureX c.P g vs.toArray ok bad V LL Rl) (hR : ∀ p ∈ Rl, known c L p.1 p.2) (h : ok → ∀ x, HL c d ((i, V x) :: l) (LL x ++ L) X ops rest Q) (hp : ∀ v, bad v → HQ c d l L X (Q (.panic (wP v)))) :
  HL c d l L X ops (⟨some i, .call ⟨.value f, args, at_⟩, ty, ps, af, gd⟩ :: rest) Q := fun a w hf hs => by
 refine QO (J3 hf hg) rfl ?_
 rw [V8 hf hca c.P w _ rfl eg, Oper.uponIn_enter]
 refine ⟨fun hdep => nm, ?_⟩
 have hc := callsIn_wide (n := 0) |>.2 (hpt.run w fun p hp => hs.known (hR p hp))
 refine CallsIn.mono mF ?_
 rintro e w' (⟨ho, x, rfl, hk, h1, h2⟩ | ⟨v, hv, rfl, hk⟩)
 ·exact h ho x _ w' (hf.put (Nat.le_of_ble_eq_true hi)) (hs.freshs hk h1 h2)
 ·exact hp v hv a w' hf (hs.more hk)
theorem Jm7 (hg : Kg l ops ⟨dst, .panic x, ty, ps, af, gd⟩ = some true) (hx : JZ l x = some (.iface tt v)) (h : HQ c d l L X (Q (.panic (wP (.iface tt v))))) : HL c d l L X ops (⟨dst, .panic x, ty, ps, af, gd⟩ :: rest) Q := fun a w hf hs => by
 refine QO (J3 hf hg) rfl ?_
 have hrun : (execOp a.eval ⟨dst, .panic x, ty, ps, af, gd⟩).run c.P w = .halt (.panic (.iface tt v)) w := by
  have e : (Instr.panic (.iface tt v)).run c.P w = .halt (.panic (.iface tt v)) w := rfl
  simp only [execOp, hf.eval hx]
  simp [Sem.run_bind, e, Result.andThen]
 rw [hrun, Oper.uponIn_panic]
 exact h a w hf hs
theorem Jm8 (h : HQ c d l L X (Q (.panic ch))) : HQ c d l L X (Exit.then K Q (.panic ch)) := h
theorem Jjs (h : HQ c d l L X (Q (.panic ch))) : HQ c d l L X (Exit.inBlock id Q (.panic ch)) := h
theorem Jhn (h : ∀ w, St c L X w → R (.panicked ch) w) : HQ c [] l L X (bodyPostM (FW none) 0 P fn R (.panic ch)) := fun a w hf hs => by
 show LeavesInM _ _ _ _ _ _ _ _ _
 rw [hf.defers]
 exact h w hs
theorem Qk {ok : Prop} {bad : Value → Prop} (hc1 : c.ids = []) (hc2 : c.xids = []) (h : bad v) : HQ c [] l L X (bodyPostM (FW none) 0 P fn (Jm6 c ok bad V LL) (.panic (wP v))) :=
 Jhn fun w hs => .inr ⟨v, h, rfl, by have := hs.keep; rw [hc1, hc2] at this; exact this⟩
theorem Jc4 {D k : Nat} (hk : L[k]? = some (D, .deferred (some []))) (hL : L.set k (D, .deferred none) = L')
  (h : HQ c d l L' X (bodyPostM (FW none) 0 P fn R (.panic ch))) : HQ c (QW D :: d) l L X (bodyPostM (FW none) 0 P fn R (.panic ch)) := fun a w hf hs => by
 subst hL
 have hget := hs.get hk
 have hs' := hs.set hk (Keep.putObj D (.deferred none)) (World.putObj_heap_same (Jq hget))
 have h1 := h { tmps := a.tmps, defers := d } _ ⟨hf.size, rfl, hf.slots⟩ hs'
 show LeavesInM _ _ _ _ _ _ _ _ _
 rw [hf.defers]
 exact ⟨by simp, .inl ⟨D, _, rfl, run_takeDeferred hget, h1⟩⟩
end
def ZW (P : Program) (l : Nat) (R : Ending → World → Prop) : Exit → Act → World → Prop
 | .panic ch, a, w => a.defers = [] ∧ R (.panicked ch) w
 | e, a, w => roundPost P l R e a w
theorem qz {n : Nat} {l : Nat} {f : FuncId} {tmps : Array Value} (hF : F.fn f) (hfn : P.funcs[f]? = some fn)
  (h : assign.wpIn (F.inRound l) n P (Exit.then (fun a₁ w₁ => ∃ w₂, (Instr.beginRound l).run P w₁ = .ok () w₂ ∧ body.wpIn (F.inRound l) n P (ZW P l R) a₁ w₂) (fun _ _ _ => False))
   { tmps := tmps, defers := [] } w) :
  RoundIn F n P l f tmps assign body w R := by
 refine ⟨hF, fun c cs hr => ?_⟩
 let b : Frame := { (default : Frame) with fn := f, kind := .normal, roundOf := some l }
 have hb0 : Frame.round l f tmps assign body .normal = b.atR { tmps := tmps, defers := [] } [.code assign, .beginRound, .code body] := by
  simp [Frame.round, Frame.atR, b]
 have hr' : (F.inRound l).room ((c :: cs).length + 1 + n) := hr
 have hF' : (F.inRound l).fn b.fn := hF
 obtain ⟨e, a₁, w₁, hq, harr⟩ := h b [.beginRound, .code body] (c :: cs) rfl hF' hr'
 rw [← hb0] at harr
 cases e with
 | normal =>
  obtain ⟨w₂, hbr, hbody⟩ := hq
  have s1 : StepsIn (Machine.fenced P (F.inRound l)) P (lone (b.atR a₁ [.beginRound, .code body]) (c :: cs) w₁) (lone (b.atR a₁ [.code body]) (c :: cs) w₂) :=
   .one (fenced_calm (fr := b.atR a₁ [.beginRound, .code body]) hF' hr' rfl) (stepR_beginRound rfl hbr)
  obtain ⟨e₂, a₂, w₃, hq₂, harr₂⟩ := hbody b [] (c :: cs) rfl hF' hr'
  cases e₂ with
  | normal =>
   obtain ⟨v, w₄, hend, hR⟩ := hq₂
   exact ⟨.returned v, w₄, hR, (StepsIn.trans harr s1).trans (StepsIn.trans harr₂ (.one (fenced_calm (fr := b.atR a₂ []) hF' hr' rfl) (stepR_round_end rfl rfl hend)))⟩
  | ret =>
   obtain ⟨v, w₄, hend, hR⟩ := hq₂
   obtain ⟨k₁, hs⟩ := harr₂.2 rfl
   exact ⟨.returned v, w₄, hR, (StepsIn.trans harr s1).trans (StepsIn.trans hs (.one (fenced_calm (fr := b.atR a₂ (.code .ret :: k₁)) hF' hr' rfl) (stepR_round_ret rfl rfl hend)))⟩
  | exit id =>
   obtain ⟨v, w₄, hend, hR⟩ := hq₂
   obtain ⟨k₁, hk, hs⟩ := harr₂.2 rfl rfl
   exact ⟨.returned v, w₄, hR, (StepsIn.trans harr s1).trans (StepsIn.trans hs (.one (fenced_calm (fr := b.atR a₂ (.code (.exit id) :: k₁)) hF' hr' rfl) (stepR_round_exit rfl rfl hk hend)))⟩
  | goto t =>
   obtain ⟨v, w₄, hend, hR⟩ := hq₂
   obtain ⟨k₁, hk, hs⟩ := harr₂.2 rfl rfl
   exact ⟨.returned v, w₄, hR, (StepsIn.trans harr s1).trans (StepsIn.trans hs (.one (fenced_calm (fr := b.atR a₂ (.code (.goto t) :: k₁)) hF' hr' rfl) (stepR_round_goto rfl rfl hk hend)))⟩
  | panic chain =>
   obtain ⟨hd, hR⟩ := hq₂
   obtain ⟨todo, hs⟩ := harr₂
   have hl : ({ b.atR a₂ todo with mode := .panicking chain } : Frame).leaving P w₃ (.panicked chain) := ⟨rfl, hd, fn, hfn⟩
   have hfe : (lone ({ b.atR a₂ todo with mode := .panicking chain } : Frame) (c :: cs) w₃).fenced P (F.inRound l) := fenced_leaving (F := F.inRound l) hF' hr' hl
   exact ⟨.panicked chain, w₃, hR, (StepsIn.trans harr s1).trans (StepsIn.trans hs (.one hfe (step_leave_panicked hl)))⟩
  | outgrown => exact hq₂.elim
 | exit id => exact hq.elim
 | goto t => exact hq.elim
 | ret => exact hq.elim
 | panic chain => exact hq.elim
 | outgrown => exact hq.elim
def YSX (P : Program) (q : Nat) (vals : Array Value) (xs : List Nat) (w : World) (XT XF : XP) (pc : List PanicEntry → Prop) : Prop :=
 YieldAt (FW none) 0 P q vals w fun e w' => (∃ b xs', e = .returned (.bool b) ∧ (∀ k ∈ xs', k < w'.heap.size ∧ (k ∈ xs ∨ w.heap.size ≤ k)) ∧ Keep xs w w' ∧ YN xs' (if b = true then XT else XF) w') ∨ (∃ ch, e = .panicked ch ∧ pc ch ∧ Keep xs w w')
def Jm9 {ι : Type} (P : Program) (gf : FuncId) (caps : List Value) (Rl : Ji) (p0 : ι) (nx : ι → List Value → ι → Prop) (fin : ι → Prop) : Prop :=
 ∀ (q : Nat) (xids : List Nat) (w2 : World) (XI : ι → XP) (XF : XP) (pc : List PanicEntry → Prop),
  (∀ p ∈ Rl, p.1 ∉ xids ∧ w2.heap[p.1]? = some p.2) → (∀ k ∈ xids, k < w2.heap.size) → YN xids (XI p0) w2 →
  (∀ i v i', nx i v i' → ∀ xs w, (∀ k ∈ xs, k < w.heap.size ∧ (k ∈ xids ∨ w2.heap.size ≤ k)) → Keep xids w2 w → YN xs (XI i) w → YSX P q v.toArray xs w (XI i') XF pc) →
  Calls P gf (.func (.yield q) #[] #[] :: caps).toArray w2 fun e w' => ((∃ v, e = .returned v) ∧ Keep xids w2 w' ∧ ((∃ i xs, fin i ∧ XI i xs w') ∨ ∃ xs, XF xs w')) ∨ (∃ ch, e = .panicked ch ∧ pc ch ∧ Keep xids w2 w')
theorem Jc5 {f : FuncId} (hf : P.funcs[f]? = some fn) (hb : fn.body = some code) (hlen : Nat.ble (caps.length + 1) fn.ntmps = true)
  (h : ∀ (q : Nat) (xids : List Nat) (w2 : World) (XI : ι → XP) (XF : XP) (pc : List PanicEntry → Prop),
   (∀ i v i', nx i v i' → ∀ xs w, (∀ k ∈ xs, k < w.heap.size ∧ (k ∈ xids ∨ w2.heap.size ≤ k)) → Keep ([] ++ xids) w2 w → YN xs (XI i) w → YSX P q v.toArray xs w (XI i') XF pc) →
   HC ⟨P, none, w2, [], xids, Rl, fn.ntmps⟩ [] (Vf 0 (.func (.yield q) #[] #[] :: caps)) [] (XI p0) code
    (bodyPostM (FW none) 0 P fn (fun e w' => ((∃ v, e = .returned v) ∧ Keep ([] ++ xids) w2 w' ∧ ((∃ i xs, fin i ∧ XI i xs w') ∨ ∃ xs, XF xs w')) ∨ (∃ ch, e = .panicked ch ∧ pc ch ∧ Keep ([] ++ xids) w2 w')))) : Jm9 P f caps Rl p0 nx fin :=
 fun q xids w2 XI XF pc hR hlt h0 hY =>
  Q0 ⟨P, none, w2, [], xids, Rl, fn.ntmps⟩ hf hb rfl rfl rfl hlen
   ⟨Keep.refl _ _, by simp, by simp, fun p hp => ⟨by simp, (hR p hp).1, (hR p hp).2⟩, hlt, xids, fun k hk => ⟨.inl hk, hlt k hk, by simp⟩, h0⟩ (h q xids w2 XI XF pc hY)
section
variable {c : Cx} {l : Kj} {L : Ji} {X : XP} {Q : Exit → Act → World → Prop} {d : List Deferred}
variable {ops : Array Oper} {rest : List Oper} {i : Nat} {v : Value} {t : TypeId} {ps : String} {af : Array Edge} {gd : Option (Nat × Bool)} {ty : TypeId}
theorem Jjt  {XT : XP}
  (hg : Kg l ops ⟨some i, .call ⟨.value f, args, at_⟩, ty, ps, af, gd⟩ = some true) (hi : Nat.ble (i + 1) c.n = true)
  (hf : JZ l f = some (.func (.yield q) #[] #[])) (ha : evs l args.toList = some vs)
  (hY : ∀ xs w, (∀ k ∈ xs, k < w.heap.size ∧ (k ∈ c.xids ∨ c.w1.heap.size ≤ k)) → Keep (c.ids ++ c.xids) c.w1 w → YN xs X w → YSX c.P q vs.toArray xs w XT XF pc)
  (h1 : HL c d ((i, .bool true) :: l) L XT ops rest Q) (h0 : HL c d ((i, .bool false) :: l) L XF ops rest Q) (hp : ∀ ch, pc ch → HQ c d l L (fun _ _ => True) (Q (.panic ch))) : HL c d l L X ops (⟨some i, .call ⟨.value f, args, at_⟩, ty, ps, af, gd⟩ :: rest) Q := fun a w hfr hs => by
 refine QO (J3 hfr hg) rfl ?_
 obtain ⟨xs, hx1, hx2⟩ := hs.x
 obtain ⟨fn, tmps, assign, body, hy, hR⟩ := hY xs w (fun k hk => ⟨(hx1 k hk).2.1, (hx1 k hk).1⟩) hs.keep hx2
 have h2 := hfr.evals ha
 have h3 : args.map a.eval = vs.toArray := by apply Array.toList_inj.1; rw [Array.toList_map]; simpa using h2
 have h4 : a.eval f = .func (.yield q) #[] #[] := hfr.eval hf
 have hrun : (execOp a.eval ⟨some i, .call ⟨.value f, args, at_⟩, ty, ps, af, gd⟩).run c.P w = .ok (.round q fn tmps assign body) w := by
  refine gu ?_
  simp [resolve, h3, h4, Deferred.ofValue, Result.andThen, invoke, hy]
 rw [hrun, Oper.uponIn_round]
 refine ⟨fun hdep => nm, ?_⟩
 refine RoundIn.mono nO ?_
 have base : ∀ xs' w' X', Keep xs w w' → (∀ k ∈ xs', k < w'.heap.size ∧ (k ∈ xs ∨ w.heap.size ≤ k)) → YN xs' X' w' → St c L X' w' := fun xs' w' X' hk hxs hx => by
  refine ⟨hs.keep.glue hk fun k hm => ?_, fun p hp => ?_, hs.distinct, hs.ext, hs.xlt, xs', fun k hm => ?_, hx⟩
  ·rcases (hx1 k hm).1 with g | g
   ·exact .inl (List.mem_append_right _ g)
   ·exact .inr g
  ·exact gX
  ·obtain ⟨g1, g2⟩ := hxs k hm
   refine ⟨g2.elim (fun g => (hx1 k g).1) fun g => .inr (Nat.le_trans hs.keep.size g), g1, fun p hp => ?_⟩
   rcases g2 with g | g
   ·exact (hx1 k g).2.2 p hp
   ·have := Jq (hs.own p hp).2.2; omega
 rintro e w' (⟨b, xs', rfl, hxs, hk, hb⟩ | ⟨ch, rfl, hpc, hk⟩)
 ·cases b with
  | true => exact h1 _ w' (hfr.put (Nat.le_of_ble_eq_true hi)) (base xs' w' XT hk hxs nX)
  | false => exact h0 _ w' (hfr.put (Nat.le_of_ble_eq_true hi)) (base xs' w' XF hk hxs nX)
 ·exact hp ch hpc a w' hfr (base [] w' _ hk me fun _ _ => trivial)
end
def wpE (F : Fence) (n : Nat) (P : Program) (c : Code) (Q : Exit → Act → World → Prop) (a : Act) (w : World) : Prop :=
 ∀ (b : Frame) (k : List Item) (cs : List Frame), b.roundOf = F.round → F.fn b.fn → (∃ fn, P.funcs[b.fn]? = some fn) → F.room (cs.length + 1 + n) →
  ∃ e a' w', Q e a' w' ∧ ArrivesIn (Machine.fenced P F) P (lone (b.atR a (.code c :: k)) cs w) b k cs e a' w'
theorem Jvv {n : Nat} {c : Code} (h : c.wpIn F n P Q a w) : wpE F n P c Q a w := fun b k cs h1 h2 _ h4 => h b k cs h1 h2 h4
theorem Jr3 {n : Nat} {x y : Code} (h : wpE F n P x (Exit.then (wpE F n P y Q) Q) a w) : wpE F n P (.seq x y) Q a w := by
 intro b k cs hro hb hfn hr
 have h0 : (lone (b.atR a (.code (.seq x y) :: k)) cs w).fenced P F := fenced_calm hb hr rfl
 obtain ⟨e, a₁, w₁, hq, harr⟩ := h b (.code y :: k) cs hro hb hfn hr
 cases e with
 | normal =>
  obtain ⟨e₂, a₂, w₂, hq₂, harr₂⟩ := hq b k cs hro hb hfn hr
  exact ⟨e₂, a₂, w₂, hq₂, .of_steps (.head h0 stepR_seq harr) harr₂⟩
 | exit id => exact ⟨_, a₁, w₁, hq, .of_steps (.one h0 stepR_seq) (.pass (x := .code y) rfl (fun _ _ => .inl me) harr)⟩
 | goto l => exact ⟨_, a₁, w₁, hq, .of_steps (.one h0 stepR_seq) (.pass (x := .code y) rfl (fun _ _ => .inl me) harr)⟩
 | ret => exact ⟨_, a₁, w₁, hq, .of_steps (.one h0 stepR_seq) (.pass (x := .code y) rfl (fun _ _ => .inl me) harr)⟩
 | panic ch => exact ⟨_, a₁, w₁, hq, .of_steps (.one h0 stepR_seq) (.pass (x := .code y) rfl (fun _ _ => .inl me) harr)⟩
 | outgrown => exact ⟨_, a₁, w₁, hq, .of_steps (.one h0 stepR_seq) (.pass (x := .code y) rfl (fun _ _ => .inl me) harr)⟩
theorem Jju {n : Nat} {c : Code} (h : wpE F n P c (Exit.inBlock id Q) a w) : wpE F n P (.block id c) Q a w := by
 intro b k cs hro hb hfn hr
 have h0 : (lone (b.atR a (.code (.block id c) :: k)) cs w).fenced P F := fenced_calm hb hr rfl
 obtain ⟨e, a₁, w₁, hq, harr⟩ := h b (.inBlock id :: k) cs hro hb hfn hr
 cases e with
 | normal => exact ⟨.normal, a₁, w₁, hq, .head h0 stepR_block (StepsIn.trans harr (.one (fenced_calm hb hr rfl) stepR_inBlock))⟩
 | exit id' =>
  by_cases hid : id' = id
  ·simp only [Exit.inBlock, hid, if_true] at hq
   exact ⟨.normal, a₁, w₁, hq, .head h0 stepR_block (harr.1 k (by simp [exitTo, hid]))⟩
  ·simp only [Exit.inBlock, hid, if_false] at hq
   have this : (id == id') = false := by simp; exact fun h => hid h.symm
   have hx : exitTo id' (.inBlock id :: k) = exitTo id' k := by simp [exitTo, this]
   exact ⟨.exit id', a₁, w₁, hq, fun k' hk => .head h0 stepR_block (harr.1 k' Mo),
    fun hr' hk => let ⟨k₁, h1, h2⟩ := harr.2 hr' Mo; ⟨k₁, h1, .head h0 stepR_block h2⟩⟩
 | goto l =>
  have hx : gotoIn l (.inBlock id :: k) = gotoIn l k := by simp [gotoIn]
  exact ⟨_, a₁, w₁, hq, fun k' hk => .head h0 stepR_block (harr.1 k' Mo),
   fun hr' hk => let ⟨k₁, h1, h2⟩ := harr.2 hr' Mo; ⟨k₁, h1, .head h0 stepR_block h2⟩⟩
 | ret => exact ⟨_, a₁, w₁, hq, .of_steps (.one h0 stepR_block) harr⟩
 | panic ch => exact ⟨_, a₁, w₁, hq, .of_steps (.one h0 stepR_block) harr⟩
 | outgrown => exact ⟨_, a₁, w₁, hq, .of_steps (.one h0 stepR_block) harr⟩
theorem Jvw {n : Nat} {f : FuncId} {c : Code} {args : Array Value}
  (hf : P.funcs[f]? = some fn) (hb : fn.body = some c) (hF : F.fn f)
  (h : wpE F n P c (bodyPostM F n P fn R) { tmps := args ++ Array.replicate (fn.ntmps - args.size) undef, defers := [] } w) (hro : F.round = none := by rfl) : CallsIn F n P f args w R := by
 refine ⟨hF, fun cs hr => ?_⟩
 let b : Frame := { (default : Frame) with fn := f, kind := .normal, roundOf := none }
 have henter : Frame.enter P f args .normal =
   b.atR { tmps := args ++ Array.replicate (fn.ntmps - args.size) undef, defers := [] } [.code c] := by
  simp [Frame.enter, Frame.atR, hf, hb, b]
 obtain ⟨e, a', w', hq, harr⟩ := h b [] cs hro.symm hF ⟨fn, hf⟩ hr
 rw [← henter] at harr
 cases e with
 | normal =>
  obtain ⟨e', w'', fr', hR, hs, hfn, hl⟩ := leaves_stepsInM a'.defers .returning w' { b.atR a' [] with mode := .returning } cs rfl rfl rfl hf rfl hF hr hq
  exact ⟨e', w'', fr', hR, ComesIn.of_steps (StepsIn.trans harr (.one (fenced_calm (fr := b.atR a' []) hF hr rfl) (stepR_end rfl))) hs, hfn, hl⟩
 | ret =>
  obtain ⟨todo, hs₀⟩ := harr.1 rfl
  obtain ⟨e', w'', fr', hR, hs, hfn, hl⟩ := leaves_stepsInM a'.defers .returning w' { b.atR a' todo with mode := .returning } cs rfl rfl rfl hf rfl hF hr hq
  exact ⟨e', w'', fr', hR, ComesIn.of_steps hs₀ hs, hfn, hl⟩
 | panic chain =>
  obtain ⟨todo, hs₀⟩ := harr
  obtain ⟨e', w'', fr', hR, hs, hfn, hl⟩ := leaves_stepsInM a'.defers (.panicking chain) w' { b.atR a' todo with mode := .panicking chain } cs rfl rfl rfl hf rfl hF hr hq
  exact ⟨e', w'', fr', hR, ComesIn.of_steps hs₀ hs, hfn, hl⟩
 | exit id => exact hq.elim
 | goto l => exact hq.elim
 | outgrown => exact ⟨.outgrown, w', b, hq, harr.resolve_left (by simp [b]), rfl, trivial⟩
theorem yR {n : Nat} {g : Operand} {ps : Array Tmp}
  (h : ∀ fn, F.fn fn → (∃ fd, P.funcs[fn]? = some fd) → ∃ (l : Nat) (mark : List Deferred) (w₁ : World) (d : Deferred) (w₁' : World) (f : FuncId) (args : Array Value) (w₂ : World),
   (Instr.enterLoop fn a.tmps ps assign body F.round).run P w = .ok (l, mark) w₁ ∧
   (resolve a.eval (rangeCall g l) 0).run P w₁ = .ok d w₁' ∧
   (∀ f', Target.leads P w₁' d.target d.args = some f' → F.fn f') ∧
   (invoke d.target d.args).run P w₁' = .ok (.enter f args) w₂ ∧
   (F.depth.isSome = true → 1 ≤ n) ∧
   CallsIn F (n - 1) P f args w₂ (rangePost F n P l Q { a with defers := mark ++ a.defers })) :
  wpE F n P (.rangeFunc g ps assign body) Q a w := by
 intro b k cs hro hb hfn hr
 have h2 := h b.fn hb hfn
 have h3 : (Code.rangeFunc g ps assign body).wpIn { F with fn := fun f => F.fn f } n P Q a w → True := fun _ => trivial
 obtain ⟨l, mark, w₁, d, w₁', f, args, w₂, he, hres, hlead, hinv, hn, hF, hcall⟩ := h2
 rw [← hro] at he
 have h0 : (lone (b.atR a (.code (.rangeFunc g ps assign body) :: k)) cs w).fenced P F := by
  refine fenced_lone (.inl hb) (fun f' hf' => hlead f' ?_) (Fence.room_le hr m0)
  have hev := Frame.eval_atR b a (.code (.rangeFunc g ps assign body) :: k)
  simp only [Frame.atR] at hev
  simp only [Frame.about, Frame.atR, he, hev, hres] at hf'
  exact hf'
 have henter := stepR_rangeFunc (P := P) (b := b) (a := a) (k := k) (cs := cs) (w := w) he hres hinv
 have hroom : F.room ((b.atR { a with defers := mark ++ a.defers } (.inRangeFunc l :: k) :: cs).length + 1 + (n - 1)) := Fence.room_enter hr hn
 obtain ⟨e, w₃, fr, hR, hsteps, hfn', hleave⟩ := hcall (b.atR { a with defers := mark ++ a.defers } (.inRangeFunc l :: k) :: cs) hroom
 cases e with
 | outgrown =>
  obtain ⟨a₀, w₀, hq⟩ := hR
  exact ⟨.outgrown, a₀, w₀, hq, .inr (Outgrown.of_steps (.one henter) hsteps)⟩
 | returned v =>
  have hl : (lone fr (b.atR { a with defers := mark ++ a.defers } (.inRangeFunc l :: k) :: cs) w₃).fenced P F := fenced_leaving (hfn' ▸ hF) hroom hleave
  obtain ⟨jump, w₄, hend, hj⟩ := hR
  have sback : StepsIn (Machine.fenced P F) P (lone (b.atR a (.code (.rangeFunc g ps assign body) :: k)) cs w) (lone (b.atR { a with defers := mark ++ a.defers } ((jump.map Item.code).toList ++ k)) cs w₄) := by
   refine .head h0 henter (StepsIn.trans hsteps (.head hl ?_ (.one (fenced_calm (fr := b.atR { a with defers := mark ++ a.defers } (.endRangeFunc l :: k)) hb hr rfl) (stepR_endRangeFunc hend))))
   rw [← finish_atR_inRangeFunc l v]; exact step_leave_returned hleave
  cases jump with
  | none => exact ⟨.normal, _, w₄, hj, sback⟩
  | some c =>
   obtain ⟨e', a'', w₅, hq, harr⟩ := hj b k cs hro hb hr
   exact ⟨e', a'', w₅, hq, .of_steps sback harr⟩
 | panicked chain =>
  have hl : (lone fr (b.atR { a with defers := mark ++ a.defers } (.inRangeFunc l :: k) :: cs) w₃).fenced P F := fenced_leaving (hfn' ▸ hF) hroom hleave
  refine ⟨.panic chain, _, w₃, hR, .inRangeFunc l :: k, .head h0 henter (StepsIn.trans hsteps (.one hl ?_))⟩
  rw [← Frame.raise_atR]; exact step_leave_panicked hleave
def vM {σ τ : Type} (c3 : Cx) (Xb : XP) (I : σ → Prop) (LI : σ → Ji) (E : Code → τ → Prop) (LE : τ → Ji) (pc : List PanicEntry → Prop) : Exit → Act → World → Prop
 | .normal, _, w => ∃ s, I s ∧ St c3 (LI s) Xb w
 | .ret, _, w => ∃ s, E .ret s ∧ St c3 (LE s) Xb w
 | .exit id, _, w => ∃ s, E (.exit id) s ∧ St c3 (LE s) Xb w
 | .panic ch, a, w => a.defers = [] ∧ pc ch ∧ ∃ LL, St c3 LL Xb w
 | _, _, _ => False
theorem Jah {r : Loop} {LE : τ → Ji}
  (h1 : ∀ s w, I s → St c3 (LI s) (WV q { r with state := .busy }) w → R (.returned (.bool true)) (w.putObj q (.loop { r with state := .ready, pending := none })))
  (h2 : ∀ j s w, E j s → St c3 (LE s) (WV q { r with state := .busy }) w → R (.returned (.bool false)) (w.putObj q (.loop { r with state := .done, pending := some j })))
  (h3 : ∀ ch LL w, pc ch → St c3 LL (WV q { r with state := .busy }) w → R (.panicked ch) w)
  (e : Exit) (a : Act) (w : World) (h : vM c3 (WV q { r with state := .busy }) I LI E LE pc e a w) : ZW c3.P q R e a w := by
 have hend : ∀ (w : World) (jump : Option Code), w.heap[q]? = some (.loop { r with state := .busy }) → (Instr.endRound q jump).run c3.P w = .ok (.bool jump.isNone) (w.putObj q (.loop { r with state := if jump.isNone then .ready else .done, pending := jump })) := fun w jump hw => run_endRound (r := { r with state := .busy }) jump hw
 cases e with
 | normal => obtain ⟨s, hs, hst⟩ := h; exact ⟨_, _, hend w none hst.recd, h1 s w hs hst⟩
 | ret => obtain ⟨s, hs, hst⟩ := h; exact ⟨_, _, hend w (some .ret) hst.recd, h2 _ s w hs hst⟩
 | exit id => obtain ⟨s, hs, hst⟩ := h; exact ⟨_, _, hend w (some (.exit id)) hst.recd, h2 _ s w hs hst⟩
 | goto t => exact h.elim
 | panic ch => obtain ⟨hd, hpc, LL, hst⟩ := h; exact ⟨hd, h3 ch LL w hpc hst⟩
 | outgrown => exact h.elim
theorem Jjv {l : Kj} {LE : τ → Ji} (h : pc ch) : HQ c3 [] l L Xb (vM c3 Xb I LI E LE pc (.panic ch)) := fun a w hf hs => ⟨hf.defers, h, L, hs⟩
def HCE (c : Cx) (d : List Deferred) (l : Kj) (L : Ji) (X : XP) (code : Code) (Q : Exit → Act → World → Prop) : Prop :=
 ∀ a w, Fr c.n d l a → St c L X w → wpE (FW c.ro) 0 c.P code Q a w
section
variable {c : Cx} {l : Kj} {L : Ji} {X : XP} {Q : Exit → Act → World → Prop} {d : List Deferred}
theorem Jna (h : HC c d l L X code Q) : HCE c d l L X code Q := fun a w hf hs => Jvv (h a w hf hs)
theorem Jho {x y : Code} (h : ∀ K, (∀ d l L X, HCE c d l L X y Q → HQ c d l L X K) → HCE c d l L X x (Exit.then K Q)) : HCE c d l L X (x.seq y) Q :=
 fun a w hf hs => Jr3 (h (fun a w => wpE (FW c.ro) 0 c.P y Q a w) (fun _ _ _ _ hy a w hf hs => hy a w hf hs) a w hf hs)
theorem Jjx {b : Code} (h : HCE c d l L X b (Exit.inBlock id Q)) : HCE c d l L X (.block id b) Q := fun a w hf hs => Jju (h a w hf hs)
theorem Wf {x y : Code} (h : ∀ K, (∀ d l L X, HCE c d l L X y Q → HQ c d l L X K) → HC c d l L X x (Exit.then K Q)) : HCE c d l L X (x.seq y) Q := Jho fun K hK => Jna (h K hK)
theorem Jjy
  (pc : List PanicEntry → Prop) (I : ι → σ → Prop) (LI : σ → Ji) (E : Code → τ → Prop) (LE : τ → Ji) (Lk : Ji) (s0 : σ)
  (hro : c.ro = none) (hf : JZ l f = some (.func (.func gf) #[] caps.toArray)) (eg : Enters c.P gf) (hit : Jm9 c.P gf caps Rl p0 nx fi) (hlen : ∀ i v i', nx i v i' → v.length = pp.length) (hpp : pp.all (Nat.blt · c.n) = true)
  (hRl : ∀ p ∈ Rl, p ∈ Lk ∨ p ∈ c.R) (hL : L = LI s0 ++ Lk) (h0 : I p0 s0)
  (hround : ∀ (q : Nat) (Xr Xb : XP) (w3 : World) (i : ι) (v : List Value) (i' : ι) (s : σ), nx i v i' → I i s → ∀ K, Jgj (yN c q w3 (QA (LI s)) Lk) Xr Xb body (vM (yN c q w3 (QA (LI s)) Lk) Xb (I i') LI E LE pc) K →
   HC (yN c q w3 (QA (LI s)) Lk) [] (wi pp v l) (LI s) Xr assign (Exit.then K fun _ _ _ => False))
  (hdone : ∀ D i s, fi i → I i s → HQ c (QW D :: d) l ((D, .deferred (some [])) :: (LI s ++ Lk)) X (Q .normal))
  (hstop : ∀ D j s, E j s → HC c (QW D :: d) l ((D, .deferred (some [])) :: (LE s ++ Lk)) X j Q)
  (hpan : ∀ D ch, pc ch → HQ c (QW D :: d) l ((D, .deferred (some [])) :: Lk) X (Q (.panic ch))) :
  HCE c d l L X (.rangeFunc f pp.toArray assign body) Q := fun a w hfr hs => by
 subst hL
 refine yR ?_
 intro fn _ hfdE
 obtain ⟨fd, hfd⟩ := hfdE
 have e0 : (FW c.ro).round = none := by rw [hro]; rfl
 rw [e0]
 obtain ⟨r, hr⟩ : ∃ r : Loop, r = { state := .ready, pending := none, fn, tmps := a.tmps, params := pp.toArray, assign, body, defers := w.heap.size } := ⟨_, rfl⟩
 obtain ⟨w2, hw2⟩ : ∃ w2, (w.alloc (.deferred (some []))).alloc (.loop r) = w2 := ⟨_, rfl⟩
 have hq : (w.alloc (.deferred (some []))).heap.size = w.heap.size + 1 := World.size_alloc _ _
 have hs2 : St c ((w.heap.size + 1, .loop r) :: (w.heap.size, .deferred (some [])) :: (LI s0 ++ Lk)) X w2 := by
  have := (hs.alloc (.deferred (some []))).alloc (.loop r)
  rw [hq, hw2] at this
  exact this
 have hq2 : w2.heap[w.heap.size + 1]? = some (.loop r) := (hs2.own _ List.mem_cons_self).2.2
 have hrr : ({ r with state := .ready, pending := none } : Loop) = r := by rw [hr]
 obtain ⟨M, hM⟩ : ∃ M, QA (LI s0) = M := ⟨_, rfl⟩
 refine ⟨w.heap.size + 1, [QW w.heap.size], w2, { target := .fn (.func gf) caps.toArray, args := #[.func (.yield (w.heap.size + 1)) #[] #[]] }, w2, gf, (.func (.yield (w.heap.size + 1)) #[] #[] :: caps).toArray, w2, ?_, ?_, fun _ _ => trivial, ?_, fun hdep => nm, ?_⟩
 rw [← hw2, hr]; exact run_enterLoop_outer _ _ _ _ _
 have := hfr.eval hf
 simp only [resolve, this]
 simp [Deferred.ofValue]
 rfl
 have := eg (#[.func (.yield (w.heap.size + 1)) #[] #[]] ++ caps.toArray) w2
 have e1 : (#[Value.func (.yield (w.heap.size + 1)) #[] #[]] ++ caps.toArray) = (Value.func (.yield (w.heap.size + 1)) #[] #[] :: caps).toArray := by apply Array.toList_inj.1; simp
 rw [e1] at this
 simpa [invoke] using this
 ·-- the iterator's contract at our invariant
  have hown := hs2.distinct
  have hMown : ∀ k ∈ M, ∃ o, (k, o) ∈ LI s0 := fun k hk => by
   rw [← hM] at hk
   obtain ⟨p, hp, rfl⟩ := List.mem_map.1 hk
   exact ⟨p.2, hp⟩
  have hpw := List.pairwise_cons.1 hown
  have hpw2 := List.pairwise_cons.1 hpw.2
  have hpw3 := List.pairwise_append.1 hpw2.2
  have hsz2 : w2.heap.size = w.heap.size + 2 := by rw [← hw2, World.size_alloc, World.size_alloc]
  have hLk2 : ∀ p ∈ Lk, p.1 < w2.heap.size := fun p hp => Jq (hs2.own p (List.mem_cons_of_mem _ (List.mem_cons_of_mem _ (List.mem_append_right _ hp)))).2.2
  have hMk : ∀ p ∈ Lk, p.1 ∉ M ∧ p.1 ≠ w.heap.size + 1 := fun p hp => ⟨fun hm => by
   obtain ⟨o, ho⟩ := hMown _ hm
   exact hpw3.2.2 _ ho _ hp rfl, fun e => hpw.1 p (List.mem_cons_of_mem _ (List.mem_append_right _ hp)) e.symm⟩
  have hMq : w.heap.size + 1 ∉ M := fun hm => by
   obtain ⟨o, ho⟩ := hMown _ hm
   exact hpw.1 _ (List.mem_cons_of_mem _ (List.mem_append_left _ ho)) rfl
  have hMD : w.heap.size ∉ M := fun hm => by
   obtain ⟨o, ho⟩ := hMown _ hm
   exact hpw2.1 _ (List.mem_append_left _ ho) rfl
  have hMlt : ∀ k ∈ M, k < w2.heap.size := fun k hk => by
   obtain ⟨o, ho⟩ := hMown _ hk
   exact Jq (hs2.own _ (List.mem_cons_of_mem _ (List.mem_cons_of_mem _ (List.mem_append_left _ ho)))).2.2
  -- what a place of one's own is apart from
  have apart : ∀ {k : Nat}, (k ∈ M ∨ w2.heap.size ≤ k) → k ≠ w.heap.size + 1 ∧ k ≠ w.heap.size ∧ (∀ p ∈ Lk, p.1 ≠ k) := fun {k} hk => by
   rcases hk with hk | hk
   exact ⟨fun e => hMq (e ▸ hk), fun e => hMD (e ▸ hk), fun p hp e => (hMk p hp).1 (e ▸ hk)⟩
   exact ⟨by omega, by omega, fun p hp e => by have := hLk2 p hp; omega⟩
  have apartR : ∀ {k : Nat}, (k ∈ M ∨ w2.heap.size ≤ k) → ∀ p ∈ c.R, p.1 ≠ k := fun {k} hk p hp e => by
   obtain ⟨e1, _, e3⟩ := hs2.ext p hp
   have h1 := Jq e3
   have h2 := hs.keep.size
   rcases hk with hk | hk
   obtain ⟨o, ho⟩ := hMown _ hk
   rcases (hs2.own _ (List.mem_cons_of_mem _ (List.mem_cons_of_mem _ (List.mem_append_left _ ho)))).1 with g | g
   exact e1 (e ▸ g)
   simp only at g; omega
   omega
  have hcalls := hit (w.heap.size + 1) ((w.heap.size + 1) :: M) w2 (fun i => Jbw (w.heap.size + 1) w2.heap.size M r (I i) LI)
   (fun xs w' => ∃ j, Jbw (w.heap.size + 1) w2.heap.size M { r with state := .done, pending := some j } (E j) LE xs w') pc
   (fun p hp => by
    rcases hRl p hp with hL | hR
    refine ⟨fun hm => ?_, (hs2.own p (List.mem_cons_of_mem _ (List.mem_cons_of_mem _ (List.mem_append_right _ hL)))).2.2⟩
    obtain ⟨h1, h2⟩ := hMk p hL
    rcases List.mem_cons.1 hm with hm | hm
    exact h2 hm
    exact h1 hm
    refine ⟨fun hm => ?_, hs2.readR hR⟩
    rcases List.mem_cons.1 hm with hm | hm
    have h1 := Jq (hs2.ext p hR).2.2
    have h2 := hs.keep.size
    omega
    exact apartR (.inl hm) p hR rfl)
   (fun k hk => by
    rcases List.mem_cons.1 hk with rfl | hk
    exact Jq hq2
    exact hMlt k hk)
   (by
    have := Wq (q := w.heap.size + 1) (B := w2.heap.size) (M := M) (rec := r) (I := I p0) (LI := LI) s0 h0 hpw3.1 (fun p hp => .inl (by rw [← hM]; exact List.mem_map_of_mem (f := (·.1)) hp)) (fun p hp => (hs2.own _ (List.mem_cons_of_mem _ (List.mem_cons_of_mem _ (List.mem_append_left _ hp)))).2.2) hq2
    rw [hM] at this
    exact this)
   ?_
  ·refine CallsIn.mono nq ?_
   rintro e w' (⟨⟨v, rfl⟩, hk, hfin⟩ | ⟨ch, rfl, hpc, hk⟩)
   rotate_left
   refine hpan w.heap.size ch hpc _ w' ⟨hfr.size, by simp [hfr.defers], hfr.slots⟩ ?_
   refine hs2.jump hk (fun k hm => ?_) (List.pairwise_cons.2 ⟨fun p hp => hpw2.1 p (List.mem_append_right _ hp), hpw3.2.1⟩) (fun p hp => ?_)
   rcases List.mem_cons.1 hm with rfl | hm
   exact ⟨_, List.mem_cons_self⟩
   obtain ⟨o, ho⟩ := hMown k hm
   exact ⟨o, List.mem_cons_of_mem _ (List.mem_cons_of_mem _ (List.mem_append_left _ ho))⟩
   rcases List.mem_cons.1 hp with rfl | hp
   refine ⟨.inl ⟨_, List.mem_cons_of_mem _ List.mem_cons_self⟩, ?_⟩
   refine (hk.block w.heap.size (Jq (hs2.own _ (List.mem_cons_of_mem _ List.mem_cons_self)).2.2) ?_).trans (hs2.own _ (List.mem_cons_of_mem _ List.mem_cons_self)).2.2
   simp only [List.mem_cons, not_or]; exact ⟨by omega, hMD⟩
   have hmem := List.mem_cons_of_mem (w.heap.size + 1, Obj.loop r) (List.mem_cons_of_mem (w.heap.size, Obj.deferred (some [])) (List.mem_append_right (LI s0) hp))
   refine ⟨.inl ⟨p.2, hmem⟩, ?_⟩
   obtain ⟨g1, g2⟩ := hMk p hp
   refine (hk.block p.1 (Jq (hs2.own _ hmem).2.2) ?_).trans (hs2.own _ hmem).2.2
   simp only [List.mem_cons, not_or]; exact ⟨g2, g1⟩
   have fin : ∀ (st : LoopState) (pe : Option Code) (LL : Ji), st ≠ .busy → LL.Pairwise (fun p q => p.1 ≠ q.1) → (∀ p ∈ LL, p.1 ∈ M ∨ w2.heap.size ≤ p.1) → vk LL w' → w'.heap[w.heap.size + 1]? = some (.loop { r with state := st, pending := pe }) →
     (Instr.endLoop (w.heap.size + 1)).run c.P w' = .ok pe (w'.putObj (w.heap.size + 1) (.loop { r with state := .exhausted, pending := pe })) ∧
     St c ((w.heap.size, .deferred (some [])) :: (LL ++ Lk)) X (w'.putObj (w.heap.size + 1) (.loop { r with state := .exhausted, pending := pe })) := by
    intro st pe LL hst hpwL hLM hLL hl
    refine ⟨run_endLoop hl hst, ?_⟩
    have hk2 : Keep ((w.heap.size + 1) :: M) w2 (w'.putObj (w.heap.size + 1) (.loop { r with state := .exhausted, pending := pe })) :=
     hk.trans ((Keep.putObj _ _).weak fun k hm => by simp at hm; subst hm; exact List.mem_cons_self)
    have hput : ∀ k, k ≠ w.heap.size + 1 → (w'.putObj (w.heap.size + 1) (.loop { r with state := .exhausted, pending := pe })).heap[k]? = w'.heap[k]? := fun k hne => World.putObj_heap_other hne
    refine hs2.jump hk2 (fun k hm => ?_) ?_ (fun p hp => ?_)
    rcases List.mem_cons.1 hm with rfl | hm
    exact ⟨_, List.mem_cons_self⟩
    obtain ⟨o, ho⟩ := hMown k hm
    exact ⟨o, List.mem_cons_of_mem _ (List.mem_cons_of_mem _ (List.mem_append_left _ ho))⟩
    refine List.pairwise_cons.2 ⟨fun p hp => ?_, List.pairwise_append.2 ⟨hpwL, hpw3.2.1, fun p hp p' hp' => ?_⟩⟩
    rcases List.mem_append.1 hp with hp | hp
    exact fun e => (apart (hLM p hp)).2.1 e.symm
    exact hpw2.1 p (List.mem_append_right _ hp)
    exact fun e => (apart (hLM p hp)).2.2 p' hp' e.symm
    rcases List.mem_cons.1 hp with rfl | hp
    refine ⟨.inl ⟨_, List.mem_cons_of_mem _ List.mem_cons_self⟩, ?_⟩
    rw [hput _ me]
    refine (hk.block w.heap.size (Jq (hs2.own _ (List.mem_cons_of_mem _ List.mem_cons_self)).2.2) ?_).trans (hs2.own _ (List.mem_cons_of_mem _ List.mem_cons_self)).2.2
    simp only [List.mem_cons, not_or]; exact ⟨by omega, hMD⟩
    rcases List.mem_append.1 hp with hp | hp
    refine ⟨?_, ?_⟩
    rcases hLM p hp with g | g
    obtain ⟨o, ho⟩ := hMown _ g
    exact .inl ⟨o, List.mem_cons_of_mem _ (List.mem_cons_of_mem _ (List.mem_append_left _ ho))⟩
    exact .inr g
    rw [hput _ (apart (hLM p hp)).1]
    exact hLL p hp
    have hmem := List.mem_cons_of_mem (w.heap.size + 1, Obj.loop r) (List.mem_cons_of_mem (w.heap.size, Obj.deferred (some [])) (List.mem_append_right (LI s0) hp))
    refine ⟨.inl ⟨p.2, hmem⟩, ?_⟩
    obtain ⟨g1, g2⟩ := hMk p hp
    rw [hput _ g2]
    refine (hk.block p.1 (Jq (hs2.own _ hmem).2.2) ?_).trans (hs2.own _ hmem).2.2
    simp only [List.mem_cons, not_or]; exact ⟨g2, g1⟩
   have hfr2 : Fr c.n (QW w.heap.size :: d) l { tmps := a.tmps, defers := [QW w.heap.size] ++ a.defers } := ⟨hfr.size, by simp [hfr.defers], hfr.slots⟩
   rcases hfin with ⟨i, xs, hi, ⟨s, h1, h2, h3, h4, _⟩, h5⟩ | ⟨xs, j, ⟨s, h1, h2, h3, h4, _⟩, h5⟩
   obtain ⟨g1, g2⟩ := fin .ready none (LI s) me h2 h3 h4 (by rw [hrr]; exact h5)
   exact ⟨none, _, g1, hdone _ i s hi h1 _ _ hfr2 g2⟩
   ·obtain ⟨g1, g2⟩ := fin .done (some j) (LE s) me h2 h3 h4 h5
    exact ⟨some j, _, g1, hstop _ j s h1 _ _ hfr2 g2⟩
  ·-- a round
   rintro i v i' hi xs w3 hxs hk3 hfoot
   obtain ⟨⟨s, h1, hpwS, hMS, h2, rfl⟩, h3⟩ := hfoot w3 fun _ _ => rfl
   have hargs : v.toArray.size = r.params.size := by rw [hr]; simpa using hlen i v i' hi
   have hy := run_yield (P := c.P) (args := v.toArray) h3 hargs
   refine ⟨_, _, _, _, hy, ?_⟩
   obtain ⟨c3, hc3⟩ : ∃ c3, yN c (w.heap.size + 1) w3 (QA (LI s)) Lk = c3 := ⟨_, rfl⟩
   have hc3x : c3.xids = [w.heap.size + 1] := by rw [← hc3]; rfl
   have hc3i : c3.ids = QA (LI s) := by rw [← hc3]; rfl
   have hc3w : c3.w1 = w3 := by rw [← hc3]; rfl
   have hmemS : ∀ p ∈ LI s, p.1 ∈ QA (LI s) := fun p hp => List.mem_map_of_mem (f := (·.1)) hp
   have hidS : ∀ {k : Nat}, k ∈ QA (LI s) → k ∈ M ∨ w2.heap.size ≤ k := fun {k} hk => by
    obtain ⟨p, hp, rfl⟩ := List.mem_map.1 hk
    exact hMS p hp
   have hst3 : St c3 (LI s) (WV (w.heap.size + 1) r) w3 := by
    subst hc3
    refine ⟨Keep.refl _ _, fun p hp => ⟨.inl (hmemS p hp), ?_, h2 p hp⟩, hpwS, ?_, ?_, [w.heap.size + 1], fun k hk => ?_, fun w' hw' => (hw' _ me).trans h3⟩
    simp only [yN, List.mem_singleton]; exact (apart (hMS p hp)).1
    intro p hp
    simp only [yN] at hp ⊢
    rcases List.mem_append.1 hp with hp | hp
    obtain ⟨g1, g2⟩ := hMk p hp
    refine ⟨fun hm => (apart (hidS hm)).2.2 p hp rfl, by simpa using g2, ?_⟩
    have hmem := List.mem_cons_of_mem (w.heap.size + 1, Obj.loop r) (List.mem_cons_of_mem (w.heap.size, Obj.deferred (some [])) (List.mem_append_right (LI s0) hp))
    exact (hk3.block p.1 (Jq (hs2.own _ hmem).2.2) M7).trans (hs2.own _ hmem).2.2
    have e3 := hs2.readR hp
    have hlt := Jq (hs2.ext p hp).2.2
    have hsz := hs.keep.size
    have hnq : p.1 ≠ w.heap.size + 1 := fun e => by omega
    refine ⟨fun hm => apartR (hidS hm) p hp rfl, by simpa using hnq, ?_⟩
    exact (hk3.block p.1 (Jq e3) nl).trans e3
    intro k hk; simp only [yN, List.mem_singleton] at hk; subst hk; exact Jq h3
    simp only [List.mem_singleton] at hk
    subst hk
    exact ⟨.inl (by simp [yN]), Jq h3, fun p hp => (apart (hMS p hp)).1⟩
   have hbusy : ∀ {LL : Ji} {w' : World}, St c3 LL (WV (w.heap.size + 1) r) w' →
     St c3 LL (WV (w.heap.size + 1) { r with state := .busy, pending := none }) (w'.putObj (w.heap.size + 1) (.loop { r with state := .busy, pending := none })) := by
    intro LL w' hst
    have hlt : w.heap.size + 1 < w'.heap.size := Jq hst.recd
    refine ⟨hst.keep.trans ((Keep.putObj _ _).weak fun k hm => by simp at hm; subst hm; rw [hc3x]; simp), fun p hp => ?_, hst.distinct, hst.ext, hst.xlt, [w.heap.size + 1], fun k hk => ?_, fun w'' hw'' => (hw'' _ me).trans (World.putObj_heap_same hlt)⟩
    obtain ⟨g1, g2, g3⟩ := hst.own p hp
    refine ⟨g1, g2, (World.putObj_heap_other ?_).trans g3⟩
    intro e; exact g2 (by rw [e, hc3x]; simp)
    simp only [List.mem_singleton] at hk
    subst hk
    exact ⟨.inl (by rw [hc3x]; simp), Nat.lt_of_lt_of_le hlt (Keep.putObj _ _).size, fun p hp e => (hst.own p hp).2.1 (by rw [hc3x, e]; simp)⟩
   have hfr3 : Fr c3.n [] (wi pp v l) { tmps := (r.params.zip v.toArray).foldl (fun (t : Array Value) (pv : Nat × Value) => t.setIfInBounds pv.1 pv.2) r.tmps, defers := [] } := by
    have h5 := Je0 (n := c.n) pp v l a.tmps (fun p hp => by have := List.all_eq_true.1 hpp p hp; simpa using this) ⟨hfr.size, rfl, hfr.slots⟩
    rw [hr, ← hc3]
    simp only [List.zip_toArray, List.foldl_toArray']
    exact h5
   have key : ∀ RR : Ending → World → Prop,
     (∀ s' w', I i' s' → St c3 (LI s') (WV (w.heap.size + 1) { r with state := .busy, pending := none }) w' → RR (.returned (.bool true)) (w'.putObj (w.heap.size + 1) (.loop { r with state := .ready, pending := none }))) →
     (∀ j s' w', E j s' → St c3 (LE s') (WV (w.heap.size + 1) { r with state := .busy, pending := none }) w' → RR (.returned (.bool false)) (w'.putObj (w.heap.size + 1) (.loop { r with state := .done, pending := some j }))) →
     (∀ ch LL w', pc ch → St c3 LL (WV (w.heap.size + 1) { r with state := .busy, pending := none }) w' → RR (.panicked ch) w') →
     RoundIn (FW none) 0 c.P (w.heap.size + 1) r.fn ((r.params.zip v.toArray).foldl (fun (t : Array Value) (pv : Nat × Value) => t.setIfInBounds pv.1 pv.2) r.tmps) r.assign r.body w3 RR := by
    intro RR g1 g2 g3
    refine qz (F := FW none) (fn := fd) trivial (by rw [hr]; exact hfd) ?_
    have hround' := hround (w.heap.size + 1) (WV (w.heap.size + 1) r) (WV (w.heap.size + 1) { r with state := .busy, pending := none }) w3 i v i' s hi h1
     (fun a₁ w₁ => ∃ w₂, (Instr.beginRound (w.heap.size + 1)).run c.P w₁ = .ok () w₂ ∧ body.wpIn ((FW none).inRound (w.heap.size + 1)) 0 c.P (ZW c.P (w.heap.size + 1) RR) a₁ w₂)
    rw [hc3] at hround'
    have hround'' := hround' (fun l' L' hb a₁ w₁ hf₁ hs₁ => ?_) _ w3 hfr3 hst3
    have e1 : r.assign = assign := by rw [hr]
    have e2 : r.body = body := by rw [hr]
    have e3 : c3.P = c.P := by rw [← hc3]; rfl
    have e4 : c3.ro = some (w.heap.size + 1) := by rw [← hc3]; rfl
    rw [e3, e4] at hround''
    rw [e1, e2]
    exact hround''
    have hx1 : w₁.heap[w.heap.size + 1]? = some (.loop r) := hs₁.recd
    refine ⟨_, run_beginRound hx1 (by rw [hr]), ?_⟩
    have hb2 := hb a₁ _ hf₁ (hbusy hs₁)
    have hb3 : ({ r with state := .busy } : Loop) = { r with state := .busy, pending := none } := by rw [hr]
    rw [hb3]
    have e3 : c3.P = c.P := by rw [← hc3]; rfl
    have e4 : c3.ro = some (w.heap.size + 1) := by rw [← hc3]; rfl
    rw [e3, e4] at hb2
    refine wpIn_mono nE ?_
    have := Jah (c3 := c3) (q := w.heap.size + 1) (r := { r with pending := none }) (R := RR) g1 g2 g3
    rw [e3] at this
    exact this
   have turn : ∀ (st : LoopState) (pe : Option Code) (LL : Ji) (w' : World), St c3 LL (WV (w.heap.size + 1) { r with state := .busy, pending := none }) w' →
     (∀ k ∈ (w.heap.size + 1) :: QA LL, k < (w'.putObj (w.heap.size + 1) (.loop { r with state := st, pending := pe })).heap.size ∧ (k ∈ (w.heap.size + 1) :: QA (LI s) ∨ w3.heap.size ≤ k)) ∧
     Keep ((w.heap.size + 1) :: QA (LI s)) w3 (w'.putObj (w.heap.size + 1) (.loop { r with state := st, pending := pe })) ∧ (∀ p ∈ LL, p.1 ∈ M ∨ w2.heap.size ≤ p.1) ∧ vk LL (w'.putObj (w.heap.size + 1) (.loop { r with state := st, pending := pe })) ∧
     (w'.putObj (w.heap.size + 1) (.loop { r with state := st, pending := pe })).heap[w.heap.size + 1]? = some (.loop { r with state := st, pending := pe }) := by
    intro st pe LL w' hst'
    have hlt : w.heap.size + 1 < w'.heap.size := Jq hst'.recd
    have hk' := hst'.keep
    rw [hc3x, hc3i, hc3w] at hk'
    have hown' : ∀ p ∈ LL, (p.1 ∈ QA (LI s) ∨ w3.heap.size ≤ p.1) ∧ p.1 ≠ w.heap.size + 1 ∧ w'.heap[p.1]? = some p.2 := fun p hp => by
     have := hst'.own p hp
     rw [hc3x, hc3i, hc3w] at this
     simpa using this
    refine ⟨fun k hk => ?_, ?_, fun p hp => ?_, fun p hp => (World.putObj_heap_other (hown' p hp).2.1).trans (hown' p hp).2.2, World.putObj_heap_same hlt⟩
    rcases List.mem_cons.1 hk with rfl | hk
    exact ⟨Nat.lt_of_lt_of_le hlt (Keep.putObj _ _).size, .inl List.mem_cons_self⟩
    obtain ⟨p, hp, rfl⟩ := List.mem_map.1 hk
    obtain ⟨e1, e2, e3⟩ := hown' p hp
    exact ⟨Nat.lt_of_lt_of_le (Jq e3) (Keep.putObj _ _).size, e1.imp (List.mem_cons_of_mem _) id⟩
    refine (hk'.weak fun k hm => ?_).trans ((Keep.putObj _ _).weak fun k hm => by simp at hm; subst hm; exact List.mem_cons_self)
    rcases List.mem_append.1 hm with hm | hm
    exact List.mem_cons_of_mem _ hm
    simp only [List.mem_singleton] at hm; subst hm; exact List.mem_cons_self
    rcases (hown' p hp).1 with g | g
    exact hidS g
    exact .inr (Nat.le_trans hk3.size g)
   refine key _ ?_ ?_ ?_
   intro s' w' hI' hst'
   obtain ⟨t1, t2, t3, t4, t5⟩ := turn .ready none (LI s') w' hst'
   refine .inl ⟨true, _, rfl, t1, t2, ?_⟩
   rw [if_pos rfl]
   exact Wq s' hI' hst'.distinct t3 t4 (by rw [hrr] at t5 ⊢; exact t5)
   ·intro j s' w' hE' hst'
    obtain ⟨t1, t2, t3, t4, t5⟩ := turn .done (some j) (LE s') w' hst'
    refine .inl ⟨false, _, rfl, t1, t2, ?_⟩
    rw [if_neg me]
    exact fun w'' hw'' => ⟨j, Wq s' hE' hst'.distinct t3 t4 t5 w'' hw''⟩
   ·intro ch LL w' hpc hst'
    have hk' := hst'.keep
    rw [hc3x, hc3i, hc3w] at hk'
    refine .inr ⟨ch, rfl, hpc, hk'.weak fun k hm => ?_⟩
    rcases List.mem_append.1 hm with hm | hm
    exact List.mem_cons_of_mem _ hm
    ·simp only [List.mem_singleton] at hm; subst hm; exact List.mem_cons_self
end
theorem Jai {f : FuncId} (c : Cx) (hf : P.funcs[f]? = some fn) (hb : fn.body = some code) (hc : c.P = P) (hro : c.ro = none) (hn : c.n = fn.ntmps)
  (hlen : Nat.ble vs.length fn.ntmps = true) (hs : St c L X w) (h : HCE c [] (Vf 0 vs) L X code (bodyPostM (FW none) 0 P fn R)) : Calls P f vs.toArray w R := by
 refine callsIn_wide (n := 0) |>.1 (Jvw hf hb trivial ?_)
 exact Hq
theorem Jaj {f : FuncId} {ok : Prop} {bad : Value → Prop} (hf : P.funcs[f]? = some fn) (hb : fn.body = some code) (hlen : Nat.ble vs.length fn.ntmps = true)
  (h : ∀ w, HCE (cxX P w Rl fn.ntmps) [] (Vf 0 vs) [] (fun _ _ => True) code (bodyPostM (FW none) 0 P fn (Jm6 (cxX P w Rl fn.ntmps) ok bad V LL))) : PureX P f vs.toArray ok bad V LL Rl := ⟨fun w hR =>
 (Jai (cxX P w Rl fn.ntmps) hf hb rfl rfl rfl hlen (St.startX hR) (h w)).mono fun _ _ h => h.imp
  (fun ⟨ho, x, he, hs⟩ => ⟨ho, x, he, by have := hs.keep; simpa [cxX] using this, fun p hp => by have := (hs.own p hp); simp only [cxX, List.not_mem_nil, false_or] at this; exact ⟨this.1, this.2.2⟩, hs.distinct⟩)
  (fun ⟨v, hv, he, hk⟩ => ⟨v, hv, he, hk⟩)⟩
def dF (g : FuncId) (caps : List Value) : Deferred := { target := .fn (.func g) caps.toArray, args := #[] }
def Juq (c : Cx) (L' : Ji) (X : XP) : Ending → FrameMode → World → Prop := fun e u' w' => (∃ x, e = .returned x) ∧ settle u' = .returning ∧ St c L' X w'
section
variable {c : Cx} {l : Kj} {L : Ji} {X : XP} {Q : Exit → Act → World → Prop} {K : Act → World → Prop} {d : List Deferred}
variable {ops : Array Oper} {rest : List Oper} {i : Nat} {v : Value} {t : TypeId} {ps : String} {af : Array Edge} {gd : Option (Nat × Bool)} {ty : TypeId}
theorem Jnb (hro : c.ro = none) (hg : Kg l ops ⟨dst, .defer ⟨.value f, #[], at_⟩, ty, ps, af, gd⟩ = some true) (hf : JZ l f = some (.func (.func g) #[] caps.toArray))
  (h : HL c (dF g caps :: d) l L X ops rest Q) (hdst : dst = none) : HL c d l L X ops (⟨dst, .defer ⟨.value f, #[], at_⟩, ty, ps, af, gd⟩ :: rest) Q := fun a w hfr hs => by
 subst hdst
 unfold wpListIn
 rw [if_pos (J3 hfr hg)]
 refine ⟨KQ, ?_⟩
 have e0 : (FW c.ro).round = none := by rw [hro]; rfl
 rw [e0, Oper.semAt_none]
 have h4 := hfr.eval hf
 have hrun : (execOp a.eval ⟨none, .defer ⟨.value f, #[], at_⟩, ty, ps, af, gd⟩).run c.P w = .ok (.defer (dF g caps)) w := by
  refine gu ?_
  simp [resolve, h4, Deferred.ofValue, Result.andThen, dF]
 rw [hrun, Oper.uponIn_defer]
 exact h _ w ⟨hfr.size, by simp [Act.put, hfr.defers], hfr.slots⟩ hs
theorem Jnc (eg : Enters P g) (caps : List Value) (w : World) : (invoke (dF g caps).target (dF g caps).args).run P w = .ok (.enter g caps.toArray) w := by
 have := eg (#[] ++ caps.toArray) w
 have e1 : (#[] ++ caps.toArray : Array Value) = caps.toArray := by simp
 rw [e1] at this
 simpa [invoke, dF] using this
theorem Jvx (eg : Enters P g)
  (hD : ∀ w, St c L X w → CallsDIn (FW none) 0 P g caps.toArray .returning w (Juq c L' X)) (h : HQ c d l L' X (bodyPostM (FW none) 0 P fn R .ret)) : HQ c (dF g caps :: d) l L X (bodyPostM (FW none) 0 P fn R .ret) := fun a w hf hs => by
 show LeavesInM _ _ _ _ _ _ _ _ _
 rw [hf.defers]
 refine ⟨by simp, .inr ⟨fun hdep => nm, _, _, g, caps.toArray, rfl, Jnc eg caps w, fun _ _ => trivial, ?_⟩⟩
 refine CallsDIn.mono (hD w hs) ?_
 rintro e u' w' ⟨⟨x, rfl⟩, hu, hs'⟩
 have h1 := h { tmps := a.tmps, defers := d } w' ⟨hf.size, rfl, hf.slots⟩ hs'
 simp only [hu]
 exact h1
theorem Jr4 (eg : Enters P g)
  (hD : ∀ w, St c L X w → CallsDIn (FW none) 0 P g caps.toArray (.panicking ch) w (Juq c L' X)) (h : HQ c d l L' X (bodyPostM (FW none) 0 P fn R .ret)) : HQ c (dF g caps :: d) l L X (bodyPostM (FW none) 0 P fn R (.panic ch)) := fun a w hf hs => by
 show LeavesInM _ _ _ _ _ _ _ _ _
 rw [hf.defers]
 refine ⟨by simp, .inr ⟨fun hdep => nm, _, _, g, caps.toArray, rfl, Jnc eg caps w, fun _ _ => trivial, ?_⟩⟩
 refine CallsDIn.mono (hD w hs) ?_
 rintro e u' w' ⟨⟨x, rfl⟩, hu, hs'⟩
 have h1 := h { tmps := a.tmps, defers := d } w' ⟨hf.size, rfl, hf.slots⟩ hs'
 simp only [hu]
 exact h1
end
def HCS (c : Cx) (d : List Deferred) (l : Kj) (L : Ji) (X : XP) (code : Code) (cs : List Frame) (Q : Exit → Act → List Frame → World → Prop) : Prop :=
 ∀ a w, Fr c.n d l a → St c L X w → code.wpSIn (FW none) 0 c.P Q a cs w
def HS (c : Cx) (d : List Deferred) (l : Kj) (L : Ji) (X : XP) (ops : Array Oper) (rest : List Nat) (cs : List Frame) (Q : Exit → Act → List Frame → World → Prop) : Prop :=
 ∀ a w, Fr c.n d l a → St c L X w → wpOpsSIn (FW none) 0 c.P ops Q rest a cs w
section
variable {c : Cx} {l : Kj} {L : Ji} {X : XP} {Q : Exit → Act → List Frame → World → Prop} {d : List Deferred} {cs : List Frame}
variable {ops : Array Oper} {rest : List Nat} {i k : Nat} {v : Value} {o : Oper}
theorem Jnd (hro : c.ro = none) (h : HC c d l L X code (fun e a w => Q e a cs w)) : HCS c d l L X code cs Q := fun a w hf hs => by
 have h1 := h a w hf hs
 rw [hro] at h1
 exact wpSIn_of_wpIn rfl h1
theorem Jhp {x y : Code} (h : ∀ K, (∀ d l L X cs, HCS c d l L X y cs Q → HQ c d l L X (fun a w => K a cs w)) → HCS c d l L X x cs (Exit.thenS K Q)) : HCS c d l L X (x.seq y) cs Q :=
 fun a w hf hs => wpSIn_seq (h (fun a cs w => y.wpSIn (FW none) 0 c.P Q a cs w) (fun _ _ _ _ _ hy a w hf hs => hy a w hf hs) a w hf hs)
theorem wQ (h : HS c d l L X ops (List.range ops.size) cs Q) : HCS c d l L X (.region id ops false) cs Q := fun a w hf hs => wpSIn_region (h a w hf hs)
theorem Jne (h : HQ c d l L X (fun a w => Q .normal a cs w)) : HS c d l L X ops [] cs Q := h
theorem yS (ho : Wl ops.toList k = some o) (hg : Kg l ops o = some true) (hd : o.dst = some i) (hi : Nat.ble (i + 1) c.n = true) (hr : Jz c d l L X o v) (h : HS c d ((i, v) :: l) L X ops rest cs Q) : HS c d l L X ops (k :: rest) cs Q := fun a w hf hs => by
 have hk : ops[k]? = some o := by rw [← QJ ho]
 simp only [wpOpsSIn, hk]
 refine ⟨KQ, ?_⟩
 rw [if_pos (J3 hf hg), hr a w hf hs]
 rw [hd]
 exact h _ w (hf.put (Nat.le_of_ble_eq_true hi)) hs
def Jjz (cs : List Frame) : Value := match recoverD cs with | some (v, _) => v | none => .nilIface
def Jj0 (cs : List Frame) : List Frame := match recoverD cs with | some (_, cs') => cs' | none => cs
theorem wR (ho : Wl ops.toList k = some o) (hg : Kg l ops o = some true) (hd : o.dst = some i) (hi : Nat.ble (i + 1) c.n = true) (hr : ∀ a w, Fr c.n d l a → (execOp a.eval o).run c.P w = .ok .recover w) (hv : Jjz cs = v) (hc : Jj0 cs = cs') (h : HS c d ((i, v) :: l) L X ops rest cs' Q) : HS c d l L X ops (k :: rest) cs Q := fun a w hf hs => by
 have hk : ops[k]? = some o := by rw [← QJ ho]
 simp only [wpOpsSIn, hk]
 refine ⟨KQ, ?_⟩
 rw [if_pos (J3 hf hg), hr a w hf, hd]
 have h1 := h _ w (hf.put (Nat.le_of_ble_eq_true hi)) hs
 subst hv hc
 unfold Jjz Jj0 at h1
 cases e : recoverD cs with
 | none => rw [e] at h1; exact h1
 | some q => obtain ⟨u, cs2⟩ := q; rw [e] at h1; exact h1
theorem Jnf {R : Ending → FrameMode → World → Prop} {cs : List Frame} (hP : c.P = P) (hcs : cs' = { c₀ with mode := u' } :: cs) (hr : fn.results = rs.toArray) (h : ResAll c l L rs vs) (hR : ∀ w, St c L X w → R (.returned (JK vs)) u' w) :
  HQ c [] l L X (fun a w => bodyPostS P fn c₀ cs R .ret a cs' w) := fun a w hf hs => ⟨hf.defers, u', hcs, _, hP ▸ qJ hf hs h hr, hR w hs⟩
theorem zA {R : Ending → FrameMode → World → Prop} {cs : List Frame} (hP : c.P = P) (hcs : cs' = { c₀ with mode := u' } :: cs) (hr : fn.results = rs.toArray) (h : ResAll c l L rs vs) (hR : ∀ w, St c L X w → R (.returned (JK vs)) u' w) :
  HQ c [] l L X (fun a w => bodyPostS P fn c₀ cs R .normal a cs' w) := Jnf (R := R) (fn := fn) hP hcs hr h hR
end
theorem jJ {f : FuncId} {u : FrameMode} {R : Ending → FrameMode → World → Prop} (c : Cx) (hf : P.funcs[f]? = some fn) (hb : fn.body = some code) (hc : c.P = P) (hn : c.n = fn.ntmps)
  (hlen : Nat.ble vs.length fn.ntmps = true) (hs : St c L X w) (h : ∀ c₀ cs, c₀.mode = u → HCS c [] (Vf 0 vs) L X code (c₀ :: cs) (bodyPostS P fn c₀ cs R)) : CallsDIn (FW none) 0 P f vs.toArray u w R := by
 refine callsDIn_of_wpSIn hf hb trivial fun c₀ cs hu => ?_
 have h1 := h c₀ cs hu _ w (qj (n := c.n) nS) hs
 rw [hc, hn] at h1
 exact h1
theorem Jng {cs : List Frame} (h : c₀.mode = .panicking (wP v)) : Jjz (c₀ :: cs) = v ∧ Jj0 (c₀ :: cs) = { c₀ with mode := .panicking [{ v, recovered := true }] } :: cs := by
 have e : recoverD (c₀ :: cs) = some (v, { c₀ with mode := .panicking [{ v, recovered := true }] } :: cs) := by simp only [recoverD, h, wP]
 unfold Jjz Jj0
 rw [e]
 exact ⟨rfl, rfl⟩
theorem Jnh {cs : List Frame} (h : c₀.mode = .returning) : Jjz (c₀ :: cs) = .nilIface ∧ Jj0 (c₀ :: cs) = { c₀ with mode := .returning } :: cs := by
 have e : recoverD (c₀ :: cs) = none := by simp only [recoverD, h]
 unfold Jjz Jj0
 rw [e]
 refine ⟨rfl, ?_⟩
 cases c₀
 simp only at h
 rw [h]
def Jak : Kj → Nat → Option Value
 | [], _ => none
 | (j, v) :: l, i => match Nat.beq i j with | true => some v | false => Jak l i
def Zd (ops : List Oper) (j : Nat) : Option Nat := match Wl ops j with | some o => o.dst | none => none
def wS (ops : List Oper) (tv : Kj) : List Edge → Kj
 | [] => []
 | e :: es => match Zd ops e.on, Jak tv e.on with | some i, some v => (i, v) :: wS ops tv es | _, _ => wS ops tv es
def Jc6 (ops : List Oper) (tv : Kj) (j : Nat) : Kj := match Wl ops j with | some o => wS ops tv (o.after.toList.filter fun e => Region.binds .any e) | none => []
def Jur (ops : List Oper) (P : List Nat) (k : Nat) : Bool :=
 (P.all fun j => Nat.blt j ops.length) && Nat.blt k ops.length && !P.contains k && Nat.blt P.length ops.length &&
 ((k :: P).all fun j => match Wl ops j with | some o => Kn o.op && o.guard.isNone && (o.after.all fun e => !Region.binds .any e || (P.contains e.on && Nat.blt e.on j)) | none => false) &&
 ((List.range ops.length).all fun j => P.contains j || Nat.beq j k || (match Wl ops j with | some o => o.after.any fun e => Region.binds .any e && !P.contains e.on | none => false))
def Ze (n : Nat) (l : Kj) (ops : List Oper) : List Nat → Bool
 | [] => true
 | j :: r => (match Zd ops j with | some i => Nat.blt i n && (match Vm l i with | some _ => false | none => true) && (r.all fun j' => match Zd ops j' with | some i' => !Nat.beq i i' | none => false) | none => false) && Ze n l ops r
inductive BoomOk (c : Cx) (d : List Deferred) (l : Kj) (L : Ji) (X : XP) (ops : List Oper) (tv : Kj) : Kj → Prop
  | nil : BoomOk c d l L X ops tv []
  | cons {j : Nat} {v : Value} {o : Oper} {ds rest : Kj} (h1 : Wl ops j = some o) (h2 : Jc6 ops tv j = ds) (h3 : Jz c d (ds ++ l) L X o v) (h : BoomOk c d l L X ops tv rest) : BoomOk c d l L X ops tv ((j, v) :: rest)
theorem BoomOk.get {l : Kj} {ops : List Oper} : ∀ {tw : Kj}, BoomOk c d l L X ops tv tw → ∀ p ∈ tw, ∃ o, Wl ops p.1 = some o ∧ Jz c d (Jc6 ops tv p.1 ++ l) L X o p.2
 | _, .nil, p, h => by cases h
 | _, .cons h1 h2 h3 h, p, hp => by
  rcases List.mem_cons.1 hp with rfl | hp
  ·exact ⟨_, h1, h2 ▸ h3⟩
  ·exact h.get p hp
theorem wT : ∀ {tv : Kj} {i : Nat} {v : Value}, Jak tv i = some v → (i, v) ∈ tv
 | [], _, _, h => by cases h
 | (j, u) :: l, i, v, h => by
  rw [Jak] at h
  split at h
  ·rename_i e
   obtain rfl := Nat.eq_of_beq_eq_true e
   cases h; exact List.mem_cons_self
  ·exact List.mem_cons_of_mem _ (wT h)
theorem Jni {d l : Kj} (h : Vm (d ++ l) i = some v) : (i, v) ∈ d ∨ Vm l i = some v := by
 induction d with
 | nil => exact .inr h
 | cons x xs ih =>
  obtain ⟨j, u⟩ := x
  rw [List.cons_append, Vm] at h
  split at h
  ·rename_i e
   obtain rfl := Nat.eq_of_beq_eq_true e
   cases h; exact .inl List.mem_cons_self
  ·exact (ih h).imp (List.mem_cons_of_mem _) id
theorem ZX {ops : List Oper} {tv : Kj} : ∀ {es : List Edge} {i : Nat} {v : Value}, (i, v) ∈ wS ops tv es → ∃ e ∈ es, Zd ops e.on = some i ∧ (e.on, v) ∈ tv
 | [], _, _, h => by cases h
 | e :: es, i, v, h => by
  rw [wS] at h
  split at h
  ·rename_i i' v' h1 h2
   rcases List.mem_cons.1 h with e1 | h
   ·cases e1; exact ⟨e, List.mem_cons_self, h1, wT h2⟩
   ·obtain ⟨e', h3, h4⟩ := ZX h; exact ⟨e', List.mem_cons_of_mem _ h3, h4⟩
  ·obtain ⟨e', h3, h4⟩ := ZX h; exact ⟨e', List.mem_cons_of_mem _ h3, h4⟩
theorem wU {n : Nat} {l : Kj} {ops : List Oper} : ∀ {P : List Nat}, Ze n l ops P = true → ∀ j ∈ P, ∃ i, Zd ops j = some i ∧ i < n ∧ Vm l i = none
 | [], _, j, h => by cases h
 | k :: r, h, j, hj => by
  rw [Ze, Bool.and_eq_true] at h
  rcases List.mem_cons.1 hj with rfl | hj
  ·have h1 := h.1
   split at h1
   ·rename_i i hi
    simp only [Bool.and_eq_true] at h1
    have h2 := h1.1.2
    split at h2
    ·cases h2
    ·rename_i h3
     exact ⟨i, hi, by have := h1.1.1; simpa using this, h3⟩
   ·cases h1
  ·exact wU h.2 j hj
theorem zB {n : Nat} {l : Kj} {ops : List Oper} : ∀ {P : List Nat}, Ze n l ops P = true → ∀ j ∈ P, ∀ j' ∈ P, j ≠ j' → ∀ i i', Zd ops j = some i → Zd ops j' = some i' → i ≠ i'
 | [], _, j, h, _, _, _, _, _, _, _ => by cases h
 | k :: r, h, j, hj, j', hj', hne, i, i', hi, hi' => by
  rw [Ze, Bool.and_eq_true] at h
  have key : ∀ x ∈ r, ∀ i i', Zd ops k = some i → Zd ops x = some i' → i ≠ i' := fun x hx i i' hi hi' => by
   have h1 := h.1
   rw [hi] at h1
   simp only [Bool.and_eq_true] at h1
   have h2 := List.all_eq_true.1 h1.2 x hx
   rw [hi'] at h2
   simp only [Bool.not_eq_true'] at h2
   intro e
   rw [e, Nat.beq_refl] at h2
   cases h2
  rcases List.mem_cons.1 hj with rfl | hjr
  ·rcases List.mem_cons.1 hj' with rfl | hjs
   ·exact absurd rfl hne
   ·exact key j' hjs i i' hi hi'
  ·rcases List.mem_cons.1 hj' with rfl | hjs
   ·exact fun e => key j hjr i' i hi' hi e.symm
   ·exact zB h.2 j hjr j' hjs hne i i' hi hi'
theorem jK {n : Nat} {l : Kj} {ops : List Oper} : ∀ {P : List Nat}, Ze n l ops P = true → P.Nodup
 | [], _ => List.nodup_nil
 | k :: r, h => by
  rw [Ze, Bool.and_eq_true] at h
  refine List.nodup_cons.2 ⟨fun hm => ?_, jK h.2⟩
  have h1 := h.1
  split at h1
  ·rename_i i hi
   simp only [Bool.and_eq_true] at h1
   have h2 := List.all_eq_true.1 h1.2 k hm
   rw [hi] at h2
   simp at h2
  ·cases h1
theorem Jnj (h : (tv.map (·.1)).Nodup) {p q : Nat × Value} (hp : p ∈ tv) (hq : q ∈ tv) (e : q.1 = p.1) : q.2 = p.2 := by
 induction tv with
 | nil => cases hp
 | cons x xs ih =>
  rw [List.map_cons, List.nodup_cons] at h
  rcases List.mem_cons.1 hp with rfl | hpr
  ·rcases List.mem_cons.1 hq with rfl | hqr
   ·rfl
   ·exact absurd (List.mem_map.2 ⟨q, hqr, e⟩) h.1
  ·rcases List.mem_cons.1 hq with rfl | hqr
   ·exact absurd (List.mem_map.2 ⟨p, hpr, e.symm⟩) h.1
   ·exact ih h.2 hpr hqr
theorem wW {f g : Nat → Bool} (hfg : ∀ j, g j = true → f j = true) : ∀ P : List Nat, (P.filter g).length ≤ (P.filter f).length
 | [] => Nat.le_refl _
 | x :: xs => by
  have := wW hfg xs
  by_cases hg : g x = true
  ·rw [List.filter_cons_of_pos hg, List.filter_cons_of_pos (hfg x hg)]; simpa using this
  ·rw [List.filter_cons_of_neg hg]
   by_cases hf : f x = true
   ·rw [List.filter_cons_of_pos hf]; simp; omega
   ·rw [List.filter_cons_of_neg hf]; exact this
theorem wX {f g : Nat → Bool} (hfg : ∀ j, g j = true → f j = true) {i : Nat} (h1 : f i = true) (h2 : g i = false) : ∀ {P : List Nat}, i ∈ P → (P.filter g).length < (P.filter f).length
 | [], h => by cases h
 | x :: xs, h => by
  by_cases hx : x = i
  ·subst hx
   rw [List.filter_cons_of_neg (by rw [h2]; simp), List.filter_cons_of_pos h1]
   have := wW hfg xs
   simp; omega
  ·have ih := wX hfg h1 h2 (P := xs) (by rcases List.mem_cons.1 h with e | h; exact absurd e.symm hx; exact h)
   by_cases hg : g x = true
   ·rw [List.filter_cons_of_pos hg, List.filter_cons_of_pos (hfg x hg)]; simpa using ih
   ·rw [List.filter_cons_of_neg hg]
    by_cases hf : f x = true
    ·rw [List.filter_cons_of_pos hf]; simp; omega
    ·rw [List.filter_cons_of_neg hf]; exact ih
theorem Jhq {l : Kj} {ops : List Oper} (tv : Kj) (k : Nat) {ok : Oper} {P : List Nat} {dk : Kj} (hm : c.P.follows .mixedOrders = true) (hP : tv.map (·.1) = P) (hB : Jur ops P k = true)
  (hf : Ze c.n l ops P = true) (hr : BoomOk c d l L X ops tv tv) (hk : Wl ops k = some ok) (hdk : Jc6 ops tv k = dk)
  (hp : ∀ (next : Act → World → Prop) a w, Fr c.n d (dk ++ l) a → St c L X w → ok.uponIn (FW c.ro) 0 c.P a next Q ((execOp a.eval ok).run c.P w)) : HC c d l L X (.region id ops.toArray true) Q := fun a w hfr hs => by
 subst hdk
 simp only [Jur, Bool.and_eq_true] at hB
 obtain ⟨⟨⟨⟨⟨b1, b2⟩, b3⟩, b4⟩, b5⟩, b6⟩ := hB
 have b2' : k < ops.length := by simpa using b2
 have b3' : k ∉ P := by simpa using b3
 have b4' : P.length < ops.length := by simpa using b4
 have toArr : ∀ {j : Nat} {o : Oper}, Wl ops j = some o → ops.toArray[j]? = some o := fun {j o} h => by rw [Ve] at h; simpa using h
 have op5 : ∀ j, j = k ∨ j ∈ P → ∃ o, Wl ops j = some o ∧ Kn o.op = true ∧ o.guard = none ∧ ∀ e ∈ o.after, Region.binds .any e = true → e.on ∈ P ∧ e.on < j := fun j hj => by
  have h1 := List.all_eq_true.1 b5 j (by rcases hj with rfl | hj; exact List.mem_cons_self; exact List.mem_cons_of_mem _ hj)
  split at h1
  rename_i o ho
  simp only [Bool.and_eq_true] at h1
  refine ⟨o, ho, h1.1.1, by simpa using h1.1.2, fun e he hb => ?_⟩
  have h2 := h1.2
  rw [Array.all_eq_true_iff_forall_mem] at h2
  have h3 := h2 e he
  rw [hb] at h3
  simpa using h3
  cases h1
 have op6 : ∀ j o, Wl ops j = some o → j ∉ P → j ≠ k → ∃ e ∈ o.after, Region.binds .any e = true ∧ e.on ∉ P := fun j o ho hj hjk => by
  have hjl : j < ops.length := by rw [Ve] at ho; exact (List.getElem?_eq_some_iff.1 ho).1
  have h1 := List.all_eq_true.1 b6 j (List.mem_range.2 hjl)
  rw [ho] at h1
  have e1 : P.contains j = false := by simpa using hj
  have e2 : Nat.beq j k = false := by rw [Bool.eq_false_iff]; exact fun h => hjk (Nat.eq_of_beq_eq_true h)
  rw [e1, e2] at h1
  simp only [Bool.false_or] at h1
  obtain ⟨q, hq, h2⟩ := Array.any_eq_true.1 h1
  have he := Array.getElem_mem hq
  generalize o.after[q] = e at he h2
  simp only [Bool.and_eq_true, Bool.not_eq_true'] at h2
  exact ⟨e, he, h2.1, by simpa using h2.2⟩
 -- what holds on the way
 let Inv : Array Bool → Act → Prop := fun listed a => listed.size = ops.length ∧ (∀ j, listed.getD j false = true → j ∈ P) ∧ Fr c.n d l a ∧ ∀ p ∈ tv, listed.getD p.1 false = true → ∀ i, Zd ops p.1 = some i → a.tmps[i]? = some p.2
 have both : ∀ {listed : Array Bool} {j : Nat}, listed.size = ops.length → j < ops.length → listed.getD j true = listed.getD j false := fun {listed j} h1 h2 => by
  simp [Array.getD, h1, h2]
 have rdy : ∀ {listed : Array Bool} {a : Act}, Inv listed a → ∀ N j, j ≤ N → (j = k ∨ j ∈ P) → listed.getD j false = false → ∃ i, i ∈ Region.ready .any ops.toArray listed := fun {listed a} hi N => by
  induction N with
  | zero =>
   intro j hj hjP hun
   obtain ⟨o, ho, _, _, hdep⟩ := op5 j hjP
   have hjl : j < ops.length := by rw [Ve] at ho; exact (List.getElem?_eq_some_iff.1 ho).1
   exact ⟨j, mem_ready.2 ⟨by rw [both hi.1 hjl]; exact hun, o, toArr ho, fun e he hb => by have := (hdep e he hb).2; omega⟩⟩
  | succ N ih =>
   intro j hj hjP hun
   obtain ⟨o, ho, _, _, hdep⟩ := op5 j hjP
   have hjl : j < ops.length := by rw [Ve] at ho; exact (List.getElem?_eq_some_iff.1 ho).1
   by_cases hall : ∀ e ∈ o.after, Region.binds .any e = true → listed.getD e.on false = true
   exact ⟨j, mem_ready.2 ⟨by rw [both hi.1 hjl]; exact hun, o, toArr ho, hall⟩⟩
   obtain ⟨e, he⟩ := Classical.not_forall.1 hall
   obtain ⟨he, h2⟩ := Classical.not_imp.1 he
   obtain ⟨hb, h3⟩ := Classical.not_imp.1 h2
   obtain ⟨h4, h5⟩ := hdep e he hb
   exact ih e.on m0 (.inr h4) (by simpa using h3)
 have frd : ∀ {listed : Array Bool} {a : Act} {j : Nat} {o : Oper}, Inv listed a → Wl ops j = some o → (∀ e ∈ o.after, Region.binds .any e = true → listed.getD e.on false = true) → Fr c.n d (Jc6 ops tv j ++ l) a := fun {listed a j o} hi ho hall => by
  refine ⟨hi.2.2.1.size, hi.2.2.1.defers, fun i v hv => ?_⟩
  rcases Jni hv with h | h
  unfold Jc6 at h
  rw [ho] at h
  obtain ⟨e, he, h1, h2⟩ := ZX h
  rw [List.mem_filter] at he
  exact hi.2.2.2 (e.on, v) h2 (hall e (by simpa using he.1) he.2) i h1
  exact hi.2.2.1.slots i v h
 have main : ∀ (f : Nat) (listed : Array Bool) (a : Act) (w : World), Inv listed a → St c L X w → (P.filter fun j => !listed.getD j false).length ≤ f → wpAnyIn (FW c.ro) 0 c.P .any ops.toArray Q (f + 1) listed a w := by
  intro f
  induction f with
  | zero =>
   intro listed a w hi hs hcnt
   have hku : listed.getD k false = false := by
    cases h : listed.getD k false with
    | false => rfl
    | true => exact absurd (hi.2.1 k h) b3'
   refine ⟨fun h0 => ?_, fun i hir => ?_⟩
   obtain ⟨i, hir⟩ := rdy hi k k (Nat.le_refl _) (.inl rfl) hku
   rw [h0] at hir; cases hir
   obtain ⟨hun, o, ho, hall⟩ := mem_ready.1 hir
   have hil : i < ops.length := by have := (Array.getElem?_eq_some_iff.1 ho).1; simpa using this
   have ho' : Wl ops i = some o := by rw [Ve]; simpa using ho
   by_cases hik : i = k
   subst hik
   rw [hk] at ho'
   cases ho'
   obtain ⟨o2, g1, g2, g3, _⟩ := op5 i (.inl rfl)
   rw [hk] at g1; cases g1
   exact gc
   by_cases hiP : i ∈ P
   have h1 : listed.getD i false = false := by rw [← both hi.1 hil]; exact hun
   have : i ∈ P.filter fun j => !listed.getD j false := List.mem_filter.2 ⟨hiP, by rw [h1]; rfl⟩
   rw [List.length_eq_zero_iff.1 (Nat.le_zero.1 hcnt)] at this
   cases this
   exact GO
  | succ f ih =>
   intro listed a w hi hs hcnt
   have hku : listed.getD k false = false := by
    cases h : listed.getD k false with
    | false => rfl
    | true => exact absurd (hi.2.1 k h) b3'
   refine ⟨fun h0 => ?_, fun i hir => ?_⟩
   obtain ⟨i, hir⟩ := rdy hi k k (Nat.le_refl _) (.inl rfl) hku
   rw [h0] at hir; cases hir
   ·obtain ⟨hun, o, ho, hall⟩ := mem_ready.1 hir
    have hil : i < ops.length := by have := (Array.getElem?_eq_some_iff.1 ho).1; simpa using this
    have ho' : Wl ops i = some o := by rw [Ve]; simpa using ho
    by_cases hik : i = k
    subst hik
    rw [hk] at ho'
    cases ho'
    obtain ⟨o2, g1, g2, g3, _⟩ := op5 i (.inl rfl)
    rw [hk] at g1; cases g1
    exact gc
    ·by_cases hiP : i ∈ P
     ·have h1 : listed.getD i false = false := by rw [← both hi.1 hil]; exact hun
      rw [← hP] at hiP
      obtain ⟨p, hpm, rfl⟩ := List.mem_map.1 hiP
      rw [hP] at hiP
      obtain ⟨o2, g1, hrun⟩ := hr.get p hpm
      rw [ho'] at g1; cases g1
      obtain ⟨o3, g2, g3, g4, _⟩ := op5 p.1 (.inr hiP)
      rw [ho'] at g2; cases g2
      obtain ⟨dst, f1, f2, f3⟩ := wU hf p.1 hiP
      have f1' : o.dst = some dst := by unfold Zd at f1; rw [ho'] at f1; exact f1
      unfold wpOpIn
      simp only [ho]
      rw [if_pos (by unfold Region.wanted; rw [g4])]
      refine ⟨KQ, ?_⟩
      rw [Oper.semAt_eq _ _ _ (Wn g3), hrun a w (frd hi ho' hall) hs, Oper.uponIn_value, f1']
      refine ih _ _ w ⟨by simp [hi.1], fun j hj => ?_, ?_, fun q hq hlq i' hi' => ?_⟩ hs ?_
      by_cases hjp : j = p.1
      rw [hjp]; exact hiP
      refine hi.2.1 j ?_
      have e1 : (listed.setIfInBounds p.1 true).getD j false = listed.getD j false := getD_set_ne false (fun e => hjp e.symm)
      rw [← e1]; exact hj
      refine ⟨by simp [Act.put, hi.2.2.1.size], by simp [Act.put, hi.2.2.1.defers], fun i2 v2 hv2 => ?_⟩
      have hne : dst ≠ i2 := fun e => by rw [e, hv2] at f3; cases f3
      simp only [Act.put, Array.getElem?_setIfInBounds, if_neg hne]
      exact hi.2.2.1.slots i2 v2 hv2
      ·by_cases hqp : q.1 = p.1
       have e1 : i' = dst := by rw [hqp, f1] at hi'; exact (Option.some.inj hi').symm
       subst e1
       have e2 : q.2 = p.2 := by
        exact Jnj (by rw [hP]; exact jK hf) hpm hq hqp
       simp only [Act.put, Array.getElem?_setIfInBounds, if_true, hi.2.2.1.size, f2, e2]
       ·have e1 : (listed.setIfInBounds p.1 true).getD q.1 false = listed.getD q.1 false := getD_set_ne false (fun e => hqp e.symm)
        rw [e1] at hlq
        have hne : dst ≠ i' := zB hf p.1 hiP q.1 (by rw [← hP]; exact List.mem_map_of_mem (f := (·.1)) hq) (fun e => hqp e.symm) _ _ f1 hi'
        simp only [Act.put, Array.getElem?_setIfInBounds, if_neg hne]
        exact hi.2.2.2 q hq hlq i' hi'
      have hlt := wX (f := fun j => !listed.getD j false) (g := fun j => !(listed.setIfInBounds p.1 true).getD j false) (fun j hj => by
       by_cases hjp : j = p.1
       subst hjp
       simp [Array.getD, hi.1, hil] at hj
       rw [getD_set_ne false (fun e => hjp e.symm)] at hj; exact hj) (i := p.1) (by rw [h1]; rfl) (by simp [Array.getD, hi.1, hil]) hiP
      omega
     exact GO
 refine wpIn_region_any hm ?_
 have hsz : ops.toArray.size = (ops.length - 1) + 1 := by simp; omega
 rw [hsz]
 refine main _ _ a _ ⟨by simp; omega, fun j hj => ?_, hfr, fun p _ hlp => ?_⟩ Mf ?_
 rw [getD_replicate_false] at hj; cases hj
 rw [getD_replicate_false] at hlp; cases hlp
 ·have := List.length_filter_le (fun j => !(Array.replicate ((ops.length - 1) + 1) false).getD j false) P
  omega
end Go.SL
namespace Go.Proofs.YteceenlfegnigaaGreatDoor
set_option linter.all false
open Go.SL Go.RowKit Go.Shelf
variable {a : AcL} {cs : Array Value} {s : BS} {g : FuncId} {L' : Ji} {xs : List (BS × BS)} {l' : List Bool} {vs : List Value} {m' : List Vl} {α : Type} {ys : List α} {b c d e i j m r : Nat} {pb pi : Pl} {t x : Ty} {q : Ty × Nat × Nat} {row : Vk} {y z : Vl} {w : World} {f : α → List Value}
theorem Jvy : Go.Proofs.Enters Tryz.prog 13 := Go.Proofs.enters_of Tryz.func13 m5 rfl
theorem Jr5 : Go.Proofs.Enters Tryz.prog 16 := Go.Proofs.enters_of Tryz.func16 m5 rfl
theorem Jj1 : Go.Proofs.Enters Tryz.prog 19 := Go.Proofs.enters_of Tryz.func19 m5 rfl
theorem Jvz : Go.Proofs.Enters Tryz.prog 25 := Go.Proofs.enters_of Tryz.func25 m5 rfl
theorem Jv0 : Go.Proofs.Enters Tryz.prog 37 := Go.Proofs.enters_of Tryz.func37 m5 rfl
theorem Jr6 : Go.Proofs.Enters Tryz.prog 39 := Go.Proofs.enters_of Tryz.func39 m5 rfl
theorem Jv1 : Go.Proofs.Enters Tryz.prog 40 := Go.Proofs.enters_of Tryz.func40 m5 rfl
theorem Jv2 : Go.Proofs.Enters Tryz.prog 42 := Go.Proofs.enters_of Tryz.func42 m5 rfl
theorem Jr7 : Go.Proofs.Enters Tryz.prog 48 := Go.Proofs.enters_of Tryz.func48 m5 rfl
theorem Jv3 : Go.Proofs.Enters Tryz.prog 53 := Go.Proofs.enters_of Tryz.func53 m5 rfl
theorem Jr8 : Go.Proofs.Enters Tryz.prog 62 := Go.Proofs.enters_of Tryz.func62 m5 rfl
theorem Jv4 : Go.Proofs.Enters Tryz.prog 69 := Go.Proofs.enters_of Tryz.func69 m5 rfl
theorem Jv5 : Go.Proofs.Enters Tryz.prog 77 := Go.Proofs.enters_of Tryz.func77 m5 rfl
theorem Jv6 : Go.Proofs.Enters Tryz.prog 78 := Go.Proofs.enters_of Tryz.func78 m5 rfl
theorem Jr9 : Go.Proofs.Enters Tryz.prog 79 := Go.Proofs.enters_of Tryz.func79 m5 rfl
theorem Jnk : Go.Proofs.Enters Tryz.prog 80 := Go.Proofs.enters_of Tryz.func80 m5 rfl
theorem Jsa : Go.Proofs.Enters Tryz.prog 85 := Go.Proofs.enters_of Tryz.func85 m5 rfl
theorem Jv7 : Go.Proofs.Enters Tryz.prog 93 := Go.Proofs.enters_of Tryz.func93 m5 rfl
theorem ZP : Go.Proofs.Enters Tryz.prog 94 := Go.Proofs.enters_of Tryz.func94 m5 rfl
theorem Jnl : Go.Proofs.Enters Tryz.prog 95 := Go.Proofs.enters_of Tryz.func95 m5 rfl
theorem Jhr : Go.Proofs.Enters Tryz.prog 101 := Go.Proofs.enters_of Tryz.func101 m5 rfl
theorem Jnm : Go.Proofs.Enters Tryz.prog 103 := Go.Proofs.enters_of Tryz.func103 m5 rfl
theorem Jnn : Go.Proofs.Enters Tryz.prog 113 := Go.Proofs.enters_of Tryz.func113 m5 rfl
theorem Jno : Go.Proofs.Enters Tryz.prog 114 := Go.Proofs.enters_of Tryz.func114 m5 rfl
theorem Jhs : Go.Proofs.Enters Tryz.prog 115 := Go.Proofs.enters_of Tryz.func115 m5 rfl
theorem Jnp : Go.Proofs.Enters Tryz.prog 129 := Go.Proofs.enters_of Tryz.func129 m5 rfl
theorem Jht : Go.Proofs.Enters Tryz.prog 134 := Go.Proofs.enters_of Tryz.func134 m5 rfl
theorem Jnq : Go.Proofs.Enters Tryz.prog 142 := Go.Proofs.enters_of Tryz.func142 m5 rfl
theorem Jnr : Go.Proofs.Enters Tryz.prog 143 := Go.Proofs.enters_of Tryz.func143 m5 rfl
theorem Jc7 : Go.Proofs.Enters Tryz.prog 161 := Go.Proofs.enters_of Tryz.func161 m5 rfl
theorem Jns : Go.Proofs.Enters Tryz.prog 164 := Go.Proofs.enters_of Tryz.func164 m5 rfl
theorem Jhu : Go.Proofs.Enters Tryz.prog 165 := Go.Proofs.enters_of Tryz.func165 m5 rfl
theorem Jc8 : Go.Proofs.Enters Tryz.prog 174 := Go.Proofs.enters_of Tryz.func174 m5 rfl
theorem Jnt : Go.Proofs.Enters Tryz.prog 175 := Go.Proofs.enters_of Tryz.func175 m5 rfl
theorem Jnu : Go.Proofs.Enters Tryz.prog 186 := Go.Proofs.enters_of Tryz.func186 m5 rfl
theorem Jhv : Go.Proofs.Enters Tryz.prog 197 := Go.Proofs.enters_of Tryz.func197 m5 rfl
theorem Jnv : Go.Proofs.Enters Tryz.prog 204 := Go.Proofs.enters_of Tryz.func204 m5 rfl
theorem Jhw : Go.Proofs.Enters Tryz.prog 209 := Go.Proofs.enters_of Tryz.func209 m5 rfl
theorem Jhx : Go.Proofs.Enters Tryz.prog 210 := Go.Proofs.enters_of Tryz.func210 m5 rfl
theorem Jnw : Go.Proofs.Enters Tryz.prog 212 := Go.Proofs.enters_of Tryz.func212 m5 rfl
theorem Jnx : Go.Proofs.Enters Tryz.prog 230 := Go.Proofs.enters_of Tryz.func230 m5 rfl
theorem Jhy : Go.Proofs.Enters Tryz.prog 250 := Go.Proofs.enters_of Tryz.func250 m5 rfl
theorem Jhz : Go.Proofs.Enters Tryz.prog 273 := Go.Proofs.enters_of Tryz.func273 m5 rfl
theorem Jh0 : Go.Proofs.Enters Tryz.prog 282 := Go.Proofs.enters_of Tryz.func282 m5 rfl
theorem Xm : JC t = true ↔ V7 t 0 = 0 ∧ WD t = true := by unfold JC; simp
theorem Zf {a a' b' c' d' : Nat} {l : List Bool} {pb' pi' : Pl} {m : List Vl} {k k' : Int} : Xz (.mk a b c d l pb m pi k) (.mk a' b' c' d' l' pb' m' pi' k') = (decide ([a, b, c, d] = [a', b', c', d']) && decide (k = k') && decide (l = l') && VT m m') := by
 rw [Xz]; rfl
theorem Jsb {l : List Bool} {x y : Bool} (h1 : l[i]? = some x) (h2 : l'[i]? = some y) (h : x ≠ y) : l ≠ l' := fun e => by subst e; rw [h1] at h2; exact h (Option.some.inj h2)
theorem Jsc {l : List Bool} (hl : l.length = l'.length) (hi : l.length ≤ i) (h : ∀ j, j < i → l[j]? = l'[j]?) : l = l' := by
 apply List.ext_getElem?
 intro j
 by_cases hj : j < i
 ·exact h j hj
 ·rw [List.getElem?_eq_none m0, List.getElem?_eq_none m0]
theorem Jsd {m : List Vl} {x : Vl} (h1 : m[i]? = some x) (h2 : m'[i]? = some y) (h : Xz x y = false) : VT m m' = false := by
 cases hs : VT m m' with
 | false => rfl
 | true => rw [(Wu.1 hs).2 i x y h1 h2] at h; cases h
theorem Jse {m : List Vl} (h : m.length ≠ m'.length) : VT m m' = false := by
 cases hs : VT m m' with
 | false => rfl
 | true => exact absurd (Wu.1 hs).1 h
theorem Ys (n : Nat) : Pure Tryz.prog 80 [uV n].toArray (wV [n, 0, 0, 0]) := by
 refine J5 Tryz.func80 rfl rfl fun w => Mw fun r1 => ?_; refine N5 ?_; refine Nn ?_
 refine Ng ?_; refine Jy 3 rfl (Jj rfl rfl (.cons (Jt (vs := [_, _, _, _]) rfl (kn 0 rfl) rfl rfl) .nil) (fun w1 hs1 => ?_)); exact MA
theorem Jny {l : List Nat} (hi : i < 32) : ((List.replicate (32 - i) (0 : UInt8) ++ Zz l i).map bV).set (31 - i) (bV (UInt8.ofNat (dg l i))) = (List.replicate (32 - (i + 1)) 0 ++ Zz l (i + 1)).map bV := by
 rw [← List.map_set, show 32 - i = (31 - i) + 1 from by omega, Jrf, show 32 - (i + 1) = 31 - i from by omega]
 rfl
theorem YB {l : List Nat} (hl : WOk l) : Pure Tryz.prog 115 [wV l].toArray (.string (bs (Zz l 32))) := by
 refine J5 Tryz.func115 rfl rfl fun w => gz ?_; refine KO (cs := (l.map uV).toArray) rfl rfl rfl rfl fun r1 => N5 ?_; refine W1 (n := 32) (b := 1) rfl rfl rfl rfl rfl rfl rfl rfl rfl m6 m6 fun r2 => JR 10 rfl (Jw (σ := Nat) (fun i => i ≤ 32) (fun i => [(1, .pointer (some ⟨r1, 0, none⟩)), (3, .slice (some ⟨r2, 0, none⟩) 32 32), (6, .int .i64 (i : Int))]) (fun i => [(r2, .cells ((List.replicate (32 - i) (0 : UInt8) ++ Zz l i).map bV).toArray 5 (0, 0)), (r1, .cells (l.map uV).toArray 31 (0, 0))]) (fun _ _ _ => True) (fun i => 32 - i) 0 (Nat.zero_le _) (lK rfl) (List.Sublist.refl _) (fun _ _ h => h) ?_); intro i hi; refine Nd ?_; refine cD (fun g => ?_) fun g => ?_
 refine Jr 14 rfl (Jh m0 m0 (ko ?_)); refine Jlf m0 m0 m0 (LR rfl (JL (j := i / 8) (m := 1) (off' := i / 8) rfl rfl rfl rfl m0 m0 m0) (LR rfl (KG rfl (kn 1 rfl) rfl (KT (by rw [hl.1]; omega))) (ko ?_))); refine Jvd m0 (WR rfl (Jh m0 m0 (LR rfl (wl (n := i % 8 * 8) rfl rfl m0 mY m0 (vC _ _)) ?_))); refine WR rfl (Jn (show _ = bV (UInt8.ofNat (dg l i)) from jz _) (LR rfl (Ki (j := 31 - i) (m := 1) (off' := 31 - i) rfl rfl rfl rfl m0 m0 m0) ?_)); refine KR (k := 0) (off := 31 - i) (xs := (List.replicate (32 - i) (0 : UInt8) ++ Zz l i).map bV) (ys := (List.replicate (32 - (i + 1)) 0 ++ Zz l (i + 1)).map bV) rfl rfl rfl rfl rfl rfl (by simp [VM]; omega) (Jny m0) rfl ?_; exact G5
 ·refine kF ?_
  have hi32 : i = 32 := by omega
  subst hi32; refine G3 ?_; refine LR rfl (QG (b := Zz l 32) (row := some (r2, 32, [])) (e := 5) rfl ⟨rfl, rfl⟩ (fun p hp => .inl nn) rfl rfl rfl) ?_; exact MY
theorem wY (s : List UInt8) : Pure Tryz.prog 184 [.string (bs s)].toArray (Jrg (vm s)) := by
 refine J5 Tryz.func184 rfl rfl fun w => JT ?_
 obtain ⟨f, hf⟩ : ∃ f : Nat → Nat, f = fun t => (s.getD (31 - t) 0).toNat := ⟨_, rfl⟩
 have hfl : ∀ i, f i < 256 := fun i => by rw [hf]; exact Vs _
 have hfu : jl f 32 = yO s := by rw [hf]; rfl
 refine N6 ?_; refine LN rfl fun r1 => GT ?_; refine g6 ?_; refine Nw ?_; refine cD (fun g => ?_) fun g => ?_
 refine N6 ?_; refine Nn ?_
 refine Gs ?_; refine Jj rfl rfl (.cons (Jt (vs := [_, _, _, _]) rfl (kn 0 rfl) rfl rfl) (.cons (Jp rfl) .nil)) (fun w1 hs1 => ?_); refine ⟨?_, hs1.keep⟩; rw [show vm s = (zW, 2) from by unfold vm; rw [if_neg m0]]; rfl
 ·refine gD ?_; refine LN rfl fun r2 => He ?_; refine Jw (σ := Nat) (fun i => i ≤ 32) (fun i => [(0, .string (bs s)), (2, .pointer (some ⟨r1, 0, none⟩)), (4, .pointer (some ⟨r2, 0, none⟩)), (10, .int .i64 (i : Int))]) (fun i => [(r2, .cells ((jl f i).map uV).toArray 31 (0, 0)), (r1, .cells (zW.map uV).toArray 31 (0, 0))]) (fun _ _ _ => True) (fun i => 32 - i) 0 (Nat.zero_le _) (lK rfl) (List.Sublist.refl _) (fun _ _ h => h) ?_; intro i hi; refine Nd ?_; refine cD (fun g => ?_) fun g => ?_
  refine JS 10 rfl (JI 15 m5 m5 (NZ ?_)); refine Jvc m0 m0 m0 (kC ?_); refine Jb rfl rfl rfl (KG rfl (kn 0 rfl) rfl (KT (by rw [Jgr]; omega))) (Mx ?_); refine NZ ?_; refine VS m0 m0 (Jb rfl rfl rfl (Ws (j := 31 - i) rfl rfl rfl m0 m0 rfl) (Mz ?_)); refine Qe (show _ = Value.int .u64 ((f i : Nat) : Int) from by rw [hf]; exact congrArg (Value.int .u64) (wrap_u64 m0 (by have := Vs (s.getD (31 - i) 0); omega))) (NZ ?_); refine Jve m0 (Mz ?_); refine VS m0 m0 (Jb rfl rfl rfl (zf (n := i % 8 * 8) rfl rfl m0 mY (xC (wp (hfl i) m0))) (Jb rfl rfl rfl (Vx (op := .or) (b := (((jl f i).getD (i / 8) 0 + f i * 2 ^ (i % 8 * 8) : Nat) : Int)) rfl rfl rfl ((Je5 hfl i).get _) (wp (hfl i) m0) (congrArg (fun z : Nat => (z : Int)) (by rw [Jgq f m0]; exact Jlw (Jlu hfl _ _)))) (kC ?_))); refine JY (KR (k := 0) (off := i / 8) (xs := (jl f i).map uV) (ys := (jl f (i + 1)).map uV) rfl rfl rfl rfl rfl rfl (by simp [Jgr]; omega) (WB (Jlv f m0)) rfl ?_); exact G5
  ·refine Nd ?_
   have hi32 : i = 32 := by omega
   subst hi32; refine Hf ?_; refine LR rfl (Jg (xs := (jl f 32).map uV) rfl (kn 0 rfl) rfl rfl rfl) (Jk (k := 1) (n := 4) (ys := (jl f 32).map uV) rfl rfl rfl rfl rfl rfl rfl rfl rfl (gA ?_)); refine Jj rfl rfl (.cons (Jt (vs := [_, _, _, _]) rfl (kn 1 rfl) rfl rfl) (.cons (Jp rfl) .nil)) (fun w1 hs1 => ?_); refine ⟨?_, hs1.keep⟩; rw [show vm s = (yO s, 0) from by unfold vm; rw [if_pos m0], ← hfu]; rfl
theorem Jsf {a b : List Nat} (ha : a.length = 4) (hb : b.length = 4) : PureE (α := Nat × Nat) Tryz.prog 281 [wV a, wV b].toArray (fun p => .func (.func 287) #[] #[.pointer (some ⟨p.1, 0, none⟩), .pointer (some ⟨p.2, 0, none⟩)])
  (fun p => [(p.2, .cells (b.map uV).toArray 31 (0, 0)), (p.1, .cells (a.map uV).toArray 31 (0, 0))]) := by
 refine Vw Tryz.func281 rfl rfl fun w => NE fun r1 r2 => ?_; refine N5 ?_; exact Nl
def Jnz (a b : List Nat) (i : Nat) : List Value := [.int .i64 (i : Int), .agg [.int .u64 ((a.getD i 0 : Nat) : Int), .int .u64 ((b.getD i 0 : Nat) : Int)].toArray]
theorem Jsg {a b : List Nat} (ha : a.length = 4) (hb : b.length = 4) (p1 p2 : Nat) : xl Tryz.prog 287 [.pointer (some ⟨p1, 0, none⟩), .pointer (some ⟨p2, 0, none⟩)]
    [(p2, .cells (b.map uV).toArray 31 (0, 0)), (p1, .cells (a.map uV).toArray 31 (0, 0))] 0 (nxN (Jnz a b) 4) (Jez 4) := by
  refine Wr Tryz.func287 rfl rfl fun q xids w2 XI XF hY => JT (Nd ?_); refine Jw (σ := Nat) (fun i => i ≤ 4) (fun i => [(0, .func (.yield q) #[] #[]), (1, .pointer (some ⟨p1, 0, none⟩)), (2, .pointer (some ⟨p2, 0, none⟩)), (5, .int .i64 (i : Int))]) (fun _ => []) (fun i => XI i) (fun i => 4 - i) 0 (Nat.zero_le _) (lK rfl) (List.nil_sublist _) (fun _ _ h => h) ?_; intro i hi; refine Nd ?_; refine cD (fun g => ?_) fun g => ?_
  · refine JS 11 rfl (JI 9 m5 m5 (N8 ?_)); refine Mx ?_; refine Jb rfl rfl rfl (JL (j := i) (m := 1) (off' := i) rfl rfl rfl rfl rfl m0 m0) (Jb rfl rfl rfl (KG rfl (J2 (k := 1) rfl) rfl (KT m0)) (Mx ?_)); refine Jb rfl rfl rfl (JL (j := i) (m := 1) (off' := i) rfl rfl rfl rfl rfl m0 m0) (Jb rfl rfl rfl (KG rfl (J2 (k := 0) rfl) rfl (KT m0)) (Jb rfl rfl rfl (J8 (r := [_, _]) rfl rfl) (JY (W9 (XT := XI (i + 1)) (XF := XF) rfl rfl rfl rfl (hY i (Jnz a b i) (i + 1) ⟨by omega, rfl, rfl⟩) ?_ ?_))))
    all_goals (
     refine G0 ?_; refine JA rfl (fun g => ?_) (fun g => ?_)
     · try exact Bool.noConfusion g
       all_goals try simp only [ZZ] at g
       all_goals (
        exact MB
        skip)
     · try exact Bool.noConfusion g
       all_goals try simp only [ZZ] at g
       all_goals (
        refine NT ?_; exact Na
        skip)
     skip)
  · refine kv fun w1 hs1 => ?_
    obtain ⟨xs1, hx1⟩ := hs1.now
    exact ⟨⟨_, rfl⟩, hs1.keep, .inl ⟨i, _, (by show i = 4; omega), hx1⟩⟩
theorem Jsh {F G : Nat → Nat → Nat → Nat} (C : Car Tryz.prog g F G) {a b : List Nat} (ha : WOk a) (hb : WOk b) : Pure Tryz.prog 270 [wV a, wV b, .func (.func g) #[] #[]].toArray (Jrg (crR F G a b)) := by
 refine J5 Tryz.func270 rfl rfl fun w => NE fun r1 r2 => ?_; refine LN rfl fun r3 => QD (cs := (zW.map uV).toArray) rfl rfl rfl rfl fun r4 => N5 ?_; refine QD (cs := (zW.map uV).toArray) rfl rfl rfl rfl fun r5 => GS ?_; refine LN rfl fun r6 => ?_
 refine Ng ?_; refine N5 ?_; refine LR rfl (Jg (xs := a.map uV) (n := 4) rfl (kn 5 rfl) rfl rfl nH) (LR rfl (Jg (xs := b.map uV) (n := 4) rfl (kn 4 rfl) rfl rfl nI) (Vp rfl rfl rfl (enters_of Tryz.func281 m5 rfl) (Jsf ha.1 hb.1) fun pp => ?_))
 obtain ⟨p1, p2⟩ := pp
 change HL _ _ _ [(p2, _), (p1, _), (r6, _), (r5, _), (r4, _), (r3, _), (r2, _), (r1, _)] _ _ _ _; refine Nw ?_; refine Wp [3, 2, 0, 1, 4, 5, 6, 7] m6 rfl (Yj (τ := Unit) (fun i (s : List Nat × Nat) => s = yP F G a b i ∧ i ≤ 4) (fun s => [(r5, .cells (s.1.map uV).toArray 31 (0, 0)), (r6, .cells #[uV s.2] 29 (0, 0))]) (fun _ _ => False) (fun _ => []) [(p2, _), (p1, _), (r4, _), (r3, _), (r2, _), (r1, _)] (zW, 0) rfl rfl (enters_of Tryz.func287 m5 rfl) (Jsg ha.1 hb.1 p1 p2) mw rfl me rfl ⟨rfl, by decide⟩ ?_ ?_ ?_)
 rintro q Xr Xb w3 i _ _ s ⟨hi, rfl, rfl⟩ ⟨hs, -⟩ Kr hKr; refine inR ?_
 have hs4 : s.1.length = 4 := by rw [hs]; exact Z0 F G a b i
 have hs1 : s.2 ≤ 1 := by rw [hs]; exact (Jly C ha hb i).2
 refine gU ?_; refine LN rfl fun r1 => ?_
 refine Ng ?_; refine kS ?_; clear hKr; refine G3 ?_; refine LR rfl (Jd rfl (J2 (k := 3) rfl) rfl rfl) ?_
 refine GB ?_; refine LR rfl (Jd rfl (kn 0 rfl) rfl rfl) ?_
 refine LR rfl (JL (j := 1) rfl rfl rfl rfl rfl mC ma) (LS 2 [0, 2] rfl rfl (LR rfl (Jra rfl rfl (fun w => C.run (a.getD i 0) (b.getD i 0) s.2 w hs1)) (kz ?_))); refine LR rfl (JL (j := i) (m := 1) (off' := i) rfl rfl rfl rfl rfl m0 m0) (KR (k := 1) (off := i) (xs := s.1.map uV) (ys := (s.1.set i (F (a.getD i 0) (b.getD i 0) s.2)).map uV) rfl rfl rfl rfl rfl rfl (by rw [List.length_map, hs4]; omega) (WB rfl) rfl ?_)
 refine LT 2 rfl rfl (Jy 2 rfl (QE [1, 2] (L' := [_, _]) m6 rfl (QQ (yP F G a b (i + 1)) ⟨rfl, by omega⟩ ?_))); simp only [yP, ← hs]
 rintro D i s hfi ⟨hs, -⟩
 have hi4 : i = 4 := hfi
 subst hi4
 have hs4 : s.1.length = 4 := by rw [hs]; exact Z0 F G a b 4
 have hcr : crR F G a b = if s.2 = 0 then (s.1, 0) else (zW, 6) := by rw [hs]; rfl
 refine Gqc 9 [2] rfl rfl (cD (fun h9 => ?_) fun h9 => ?_)
 refine N6 ?_; refine Nn ?_
 refine LT 5 rfl rfl (kj ?_); refine H2 ?_
 (refine Jj rfl rfl (.cons (Jt (vs := [_, _, _, _]) rfl (kn 5 rfl) rfl rfl) (.cons (Jp rfl) .nil)) (fun w1 hs1 => ?_)
  exact ⟨by rw [hcr, if_neg m0]; rfl, hs1.keep⟩)
 refine gD ?_; refine LR rfl (Jg (xs := s.1.map uV) (n := 4) rfl (kn 1 rfl) rfl rfl (by rw [List.length_map, hs4])) (Jk (k := 5) (n := 4) (ys := s.1.map uV) rfl rfl rfl rfl rfl (by rw [List.length_map, hs4]) rfl (by simp [uV, QL, List.all_map, List.all_eq_true]) rfl (gA ?_)); refine H2 ?_
 (refine Jj rfl rfl (.cons (Jt (vs := s.1.map uV) rfl (kn 5 rfl) rfl (by rw [List.length_map, hs4]; rfl)) (.cons (Jp rfl) .nil)) (fun w1 hs1 => ?_)
  exact ⟨by rw [hcr, if_pos m0]; rfl, hs1.keep⟩)
 ·exact kw
theorem Jsi : Car Tryz.prog 271 j0 ZN := by
 refine ⟨fun x y c w hc => ?_, fun x y c => Nat.mod_lt _ m6, fun x y c hx hy hc => ?_⟩
 ·show (callFunc _ #[.int .u64 (x : Int), .int .u64 (y : Int), .int .u64 (c : Int)]).run _ _ = _
  rw [run_callFunc_extern Tryz.func271 m5 m5 m5 (e := sub64Entry) m5, run_sub64 x y c hc]
  rfl
 ·unfold ZN; split <;> omega
theorem Jfv {a b : List Nat} (ha : WOk a) (hb : WOk b) : Pure Tryz.prog 253 [wV a, wV b].toArray (Jrg (yQ a b)) := by
 refine J5 Tryz.func253 rfl rfl fun w => NE fun r1 r2 => ?_; refine QD (cs := (zW.map uV).toArray) rfl rfl rfl rfl fun r3 => N5 ?_; refine LR rfl (Jg (xs := a.map uV) (n := 4) rfl (kn 2 rfl) rfl rfl nH) (LR rfl (Jg (xs := b.map uV) (n := 4) rfl (kn 1 rfl) rfl rfl nI) (J6 rfl rfl rfl (enters_of Tryz.func270 m5 rfl) (Jsh Jsi ha hb) (ko ?_))); refine H8 ?_; refine gA ?_; refine Jj rfl rfl (.cons (Jt (vs := (yQ a b).1.map uV) rfl (kn 0 rfl) rfl (by rw [List.length_map, show (yQ a b).1.length = 4 from xD]; rfl)) (.cons (Jp rfl) .nil)) (fun w1 hs1 => ?_); exact MA
theorem Jc9 {a b : List Nat} (ha : WOk a) (hb : WOk b) : Pure Tryz.prog 206 [wV a, wV b].toArray (.bool (zi a b)) := by
 refine J5 Tryz.func206 rfl rfl fun w => NE fun r1 r2 => ?_; refine gB ?_; refine Gx ?_; refine LR rfl (xu (xs := a.map uV) (ys := b.map uV) (n := 4) rfl rfl rfl rfl rfl m5 nH nI (ZA rfl a) (ZA rfl b)) (Jn (congrArg Value.bool (vD (ha.1.trans hb.1.symm))) (gM ?_)); refine cD (fun g => ?_) fun g => ?_
 ·refine NW fun w1 hs1 => ?_
  (have hab : a = b := by assumption
   unfold zi; simp [JK, hab]; done)
 ·refine gD ?_; refine Gx ?_; refine J6 rfl rfl rfl (enters_of Tryz.func253 m5 rfl) (Jfv ha hb) (kz ?_); refine QD (cs := (zW.map uV).toArray) rfl rfl rfl rfl fun r3 => H8 ?_; refine Jy 11 rfl (Mv fun w1 hs1 => ?_)
  (have hab : ¬ a = b := by assumption
   unfold zi; simp [JK, hab])
theorem Jal {l : List Nat} (hl : WOk l) : Pure Tryz.prog 61 [wV l].toArray (wq l) := by
 refine J5 Tryz.func61 rfl rfl fun w => gz ?_; refine KO (cs := (l.map uV).toArray) rfl rfl rfl rfl fun r1 => JR 6 rfl (JI 5 m5 m5 (Jb rfl rfl rfl (Jg (xs := l.map uV) (n := 4) rfl (kn 0 rfl) rfl rfl Ml) ?_))
 refine Hn ?_; refine Jb rfl rfl rfl (KG rfl (kn 0 rfl) rfl (KT (by rw [hl.1]; omega))) (Qd rfl rfl rfl Jnk (Ys (l.getD 0 0)) (Jb rfl rfl rfl (Jgl (xs := l.map uV) (ys := [l.getD 0 0, 0, 0, 0].map uV) (n := 4) rfl rfl rfl rfl rfl m5 Ml rfl (ZA rfl _) (ZA rfl _)) (Qe (show _ = Value.bool (!Xx l) from congrArg (fun z => Value.bool (!z)) (vD (by rw [hl.1]; rfl))) (D4 ?_)))); refine cD (fun g => ?_) fun g => ?_
 refine KS 8 rfl (Nc fun w1 hs1 => ?_)
 (have hsm : Xx l = false := by assumption
  unfold wq; simp [JK, hsm, uV])
 ·refine gD ?_
  refine GB ?_; refine LR rfl (KG rfl (kn 0 rfl) rfl (KT (by rw [hl.1]; omega))) (kj ?_); refine Nc fun w1 hs1 => ?_
  (have hsm : Xx l = true := by assumption
   unfold wq; simp [JK, hsm, uV]; done)
end Go.Proofs.YteceenlfegnigaaGreatDoor
namespace Go.Proofs
open Go.Shelf
def Tryz.lays161_ren : Go.Shelf.Ren := ⟨fun | 161 => 252 | 231 => 266 | 227 => 267 | 233 => 268 | 235 => 269 | 228 => 278 | 197 => 279 | 151 => 280 | 260 => 285 | 152 => 286 | 137 => 288 | 119 => 289 | 224 => 290 | 225 => 291 | 217 => 292 | 266 => 293 | n => n, fun | 9 => 9 | 4 => 4 | 3 => 3 | 5 => 5 | 117 => 241 | 116 => 240 | 0 => 0 | 124 => 244 | 105 => 255 | 21 => 21 | 119 => 264 | 46 => 121 | 139 => 267 | 138 => 266 | n => n, fun | 3 => 1 | 4 => 2 | n => n⟩
theorem Tryz.lays161 : Go.Proofs.Lays.n161 Tryz.prog Tryz.lays161_ren := {
 mixed := by kernel_rfl
 f119 := Tryz.func289.trans (congrArg some (by kernel_rfl))
 f137 := Tryz.func288.trans (congrArg some (by kernel_rfl))
 f151 := Tryz.func280.trans (congrArg some (by kernel_rfl))
 f152 := Tryz.func286.trans (congrArg some (by kernel_rfl))
 f161 := Tryz.func252.trans (congrArg some (by kernel_rfl))
 f197 := Tryz.func279.trans (congrArg some (by kernel_rfl))
 f217 := Tryz.func292.trans (congrArg some (by kernel_rfl))
 f224 := Tryz.func290.trans (congrArg some (by kernel_rfl))
 f225 := Tryz.func291.trans (congrArg some (by kernel_rfl))
 f227 := Tryz.func267.trans (congrArg some (by kernel_rfl))
 f228 := Tryz.func278.trans (congrArg some (by kernel_rfl))
 f231 := Tryz.func266.trans (congrArg some (by kernel_rfl))
 f233 := Tryz.func268.trans (congrArg some (by kernel_rfl))
 f235 := Tryz.func269.trans (congrArg some (by kernel_rfl))
 f260 := Tryz.func285.trans (congrArg some (by kernel_rfl))
 f266 := Tryz.func293.trans (congrArg some (by kernel_rfl))
 t0 := Tryz.underlying0
 a0 := Tryz.isAgg0
 z0 := Tryz.sizeOf0
 v0 := Tryz.zeroValue0
 t3 := Tryz.underlying3
 a3 := Tryz.isAgg3
 z3 := Tryz.sizeOf3
 v3 := Tryz.zeroValue3
 t4 := Tryz.underlying4
 a4 := Tryz.isAgg4
 z4 := Tryz.sizeOf4
 v4 := Tryz.zeroValue4
 t5 := Tryz.underlying5
 a5 := Tryz.isAgg5
 z5 := Tryz.sizeOf5
 v5 := Tryz.zeroValue5
 t9 := Tryz.underlying9
 a9 := Tryz.isAgg9
 z9 := Tryz.sizeOf9
 v9 := Tryz.zeroValue9
 t21 := Tryz.underlying21
 a21 := Tryz.isAgg21
 z21 := Tryz.sizeOf21
 v21 := Tryz.zeroValue21
 t46 := Tryz.underlying121
 a46 := Tryz.isAgg121
 z46 := Tryz.sizeOf121
 v46 := Tryz.zeroValue121
 t105 := Tryz.underlying255
 a105 := Tryz.isAgg255
 z105 := Tryz.sizeOf255
 v105 := Tryz.zeroValue255
 t116 := Tryz.underlying240
 a116 := Tryz.isAgg240
 z116 := Tryz.sizeOf240
 t117 := Tryz.underlying241
 a117 := Tryz.isAgg241
 z117 := Tryz.sizeOf241
 v117 := Tryz.zeroValue241
 t119 := Tryz.underlying264
 a119 := Tryz.isAgg264
 z119 := Tryz.sizeOf264
 t124 := Tryz.underlying244
 a124 := Tryz.isAgg244
 z124 := Tryz.sizeOf244
 v124 := Tryz.zeroValue244
 t138 := Tryz.underlying266
 a138 := Tryz.isAgg266
 z138 := Tryz.sizeOf266
 v138 := Tryz.zeroValue266
 t139 := Tryz.underlying267
 a139 := Tryz.isAgg267
 z139 := Tryz.sizeOf267
 v139 := Tryz.zeroValue267
 g3 := by kernel_rfl
 g4 := by kernel_rfl }
open Go.RowKit in
theorem Tryz.strings_TrimLeft_one (s : ByteArray) (c : UInt8) (hc : c.toNat < 128) (w : World) :
  Calls Tryz.prog 252 #[.string s, .string ⟨#[c]⟩] w fun e w' => e = .returned (.string ⟨(Lib.trimLeftB s.data.toList c).toArray⟩) ∧ w' = w := Any.strings_TrimLeft_one Tryz.lays161 s c hc w
def Tryz.lays105_ren : Go.Shelf.Ren := ⟨fun | 105 => 69 | 212 => 98 | 99 => 99 | 165 => 100 | 166 => 101 | 170 => 102 | 169 => 103 | 263 => 153 | 264 => 154 | 206 => 155 | 240 => 156 | 241 => 157 | 276 => 192 | 277 => 193 | n => n, fun | 9 => 9 | 3 => 3 | 4 => 4 | 20 => 20 | 0 => 0 | 46 => 121 | 109 => 122 | 5 => 5 | 72 => 127 | 76 => 131 | 51 => 163 | 146 => 164 | 53 => 29 | 148 => 166 | 70 => 125 | 37 => 55 | 75 => 130 | 127 => 168 | 164 => 200 | 80 => 60 | n => n, fun | n => n⟩
theorem Tryz.lays105 : Go.Proofs.Lays.n105 Tryz.prog Tryz.lays105_ren := {
 mixed := by kernel_rfl
 f99 := Tryz.func99.trans (congrArg some (by kernel_rfl))
 f105 := Tryz.func69.trans (congrArg some (by kernel_rfl))
 f165 := Tryz.func100.trans (congrArg some (by kernel_rfl))
 f166 := Tryz.func101.trans (congrArg some (by kernel_rfl))
 f169 := Tryz.func103.trans (congrArg some (by kernel_rfl))
 f170 := Tryz.func102.trans (congrArg some (by kernel_rfl))
 f206 := Tryz.func155.trans (congrArg some (by kernel_rfl))
 f212 := Tryz.func98.trans (congrArg some (by kernel_rfl))
 f240 := Tryz.func156.trans (congrArg some (by kernel_rfl))
 f241 := Tryz.func157.trans (congrArg some (by kernel_rfl))
 f263 := Tryz.func153.trans (congrArg some (by kernel_rfl))
 f264 := Tryz.func154.trans (congrArg some (by kernel_rfl))
 f276 := Tryz.func192.trans (congrArg some (by kernel_rfl))
 f277 := Tryz.func193.trans (congrArg some (by kernel_rfl))
 t0 := Tryz.underlying0
 a0 := Tryz.isAgg0
 z0 := Tryz.sizeOf0
 v0 := Tryz.zeroValue0
 t3 := Tryz.underlying3
 a3 := Tryz.isAgg3
 z3 := Tryz.sizeOf3
 v3 := Tryz.zeroValue3
 t4 := Tryz.underlying4
 a4 := Tryz.isAgg4
 z4 := Tryz.sizeOf4
 v4 := Tryz.zeroValue4
 t5 := Tryz.underlying5
 a5 := Tryz.isAgg5
 z5 := Tryz.sizeOf5
 v5 := Tryz.zeroValue5
 t9 := Tryz.underlying9
 a9 := Tryz.isAgg9
 z9 := Tryz.sizeOf9
 v9 := Tryz.zeroValue9
 t20 := Tryz.underlying20
 a20 := Tryz.isAgg20
 z20 := Tryz.sizeOf20
 v20 := Tryz.zeroValue20
 t37 := Tryz.underlying55
 a37 := Tryz.isAgg55
 z37 := Tryz.sizeOf55
 v37 := Tryz.zeroValue55
 t46 := Tryz.underlying121
 a46 := Tryz.isAgg121
 z46 := Tryz.sizeOf121
 v46 := Tryz.zeroValue121
 t51 := Tryz.underlying163
 a51 := Tryz.isAgg163
 z51 := Tryz.sizeOf163
 v51 := Tryz.zeroValue163
 t53 := Tryz.underlying29
 a53 := Tryz.isAgg29
 z53 := Tryz.sizeOf29
 v53 := Tryz.zeroValue29
 t70 := Tryz.underlying125
 a70 := Tryz.isAgg125
 z70 := Tryz.sizeOf125
 v70 := Tryz.zeroValue125
 t72 := Tryz.underlying127
 a72 := Tryz.isAgg127
 z72 := Tryz.sizeOf127
 v72 := Tryz.zeroValue127
 t75 := Tryz.underlying130
 a75 := Tryz.isAgg130
 z75 := Tryz.sizeOf130
 v75 := Tryz.zeroValue130
 t76 := Tryz.underlying131
 a76 := Tryz.isAgg131
 z76 := Tryz.sizeOf131
 v76 := Tryz.zeroValue131
 t109 := Tryz.underlying122
 a109 := Tryz.isAgg122
 z109 := Tryz.sizeOf122
 v109 := Tryz.zeroValue122
 t127 := Tryz.underlying168
 a127 := Tryz.isAgg168
 z127 := Tryz.sizeOf168
 v127 := Tryz.zeroValue168
 t146 := Tryz.underlying164
 a146 := Tryz.isAgg164
 z146 := Tryz.sizeOf164
 v146 := Tryz.zeroValue164
 t148 := Tryz.underlying166
 a148 := Tryz.isAgg166
 z148 := Tryz.sizeOf166
 v148 := Tryz.zeroValue166
 t164 := Tryz.underlying200
 a164 := Tryz.isAgg200
 z164 := Tryz.sizeOf200
 v164 := Tryz.zeroValue200 }
theorem Tryz.Builder_Extra_105 : Builder.Extra Tryz.prog Tryz.lays105_ren := {
 sizeBuilder := by kernel_rfl
 liesBuilder := by kernel_rfl
 t5 := Tryz.underlying5
 a5 := Tryz.isAgg5
 z5 := Tryz.sizeOf5
 v5 := Tryz.zeroValue5
 infoByte := by kernel_rfl
 cellsByte := by kernel_rfl
 sizeByte := by kernel_rfl
 neB5 := by decide }
open Go.RowKit Go.Lib in
theorem Tryz.strings_Repeat (s : ByteArray) (c : Nat) (w : World) (hc : c ≤ 9223372036854775807) (hlen : s.size * c ≤ 140737488355328) :
  Calls Tryz.prog 69 #[.string s, .int .i64 c] w fun e w' => e = .returned (.string ⟨(Lib.repeatL s.data.toList c).toArray⟩) ∧ Below w.heap.size w w' := Any.strings_Repeat Tryz.lays105 Tryz.Builder_Extra_105 s c w hc hlen
end Go.Proofs
namespace Go.Proofs.YteceenlfegnigaaGreatDoor
set_option linter.all false
open Go.SL Go.RowKit Go.Shelf
variable {a : AcL} {cs : Array Value} {s : BS} {g : FuncId} {dp : Int} {L' R Rl : Ji} {xs : List (BS × BS)} {vs : List Value} {α : Type} {ys : List α} {B b c d e i j m r rv : Nat} {pb pi : Pl} {t x : Ty} {q : Ty × Nat × Nat} {row : Vk} {v y z : Vl} {w : World} {f : α → List Value}
theorem Jda (s : List UInt8) : Pure Tryz.prog 252 [.string (bs s), .string ⟨#[0]⟩].toArray (.string (bs (Lib.trimLeftB s 0))) := ⟨fun w => by
 have h := Tryz.strings_TrimLeft_one (bs s) 0 m6 w
 refine h.mono fun e w' ⟨h1, h2⟩ => ⟨?_, h2 ▸ Keep.refl _ _⟩
 rw [h1]; simp [bs]⟩
theorem q4 {n : Nat} (hn : n ≤ 32) : Pure Tryz.prog 69 [.string ⟨#[0]⟩, .int .i64 (n : Int)].toArray (.string (bs (Lib.repeatL [0] n))) := ⟨fun w => by
 have hs : (ByteArray.mk #[0]).size = 1 := rfl
 have h := Tryz.strings_Repeat ⟨#[0]⟩ n w m0 (by rw [hs]; omega)
 refine h.mono fun e w' ⟨h1, h2⟩ => ⟨?_, Keep.of_below h2⟩
 rw [h1]; rfl⟩
def Ww (l : List Nat) : List UInt8 := Lib.trimLeftB (Zz l 32) 0
theorem jL {l : List Nat} (hl : WOk l) : Pure Tryz.prog 201 [wV l].toArray (.string (bs (Ww l))) := by
 refine J5 Tryz.func201 rfl rfl fun w => gz ?_; refine KO (cs := (l.map uV).toArray) rfl rfl rfl rfl fun r1 => N5 ?_; refine LR rfl (Jg (xs := l.map uV) (n := 4) rfl (kn 0 rfl) rfl rfl Ml) (J6 rfl rfl rfl Jhs (YB hl) (J6 rfl rfl rfl (enters_of Tryz.func252 m5 rfl) (Jda (Zz l 32)) ?_)); exact MY
def Vd (v : Vl) (num bits items pick : Bool) : Bool := (num || decide (v.num = [0, 0, 0, 0])) && (bits || decide (v.bits.length = 0)) && (items || decide (v.items.length = 0)) && (pick || decide (v.pick = 0))
def zC (k n : Int) (m : Nat) (v : Vl) : Bool :=
 if k = 1 then Vd v true false false false && decide (((Ww v.num).length : Int) ≤ n)
 else if k = 2 then Vd v true false false false && (decide (v.num = [0, 0, 0, 0]) || decide (v.num = [1, 0, 0, 0]))
 else if k = 3 then Vd v false false true false && decide ((v.items.length : Int) = n)
 else if k = 4 then Vd v false false true false
 else if k = 5 then Vd v false true false false && decide ((v.bits.length : Int) = n)
 else if k = 6 then Vd v false true false false
 else if k = 7 then Vd v false false true false && decide (v.items.length = m)
 else Vd v false false true true && decide (v.items.length = 1) && decide (0 ≤ v.pick) && decide (v.pick < m)
instance : Inhabited Ty := ⟨.mk 0 0 none []⟩
def VX (k pick : Int) (i : Nat) : Nat := if k = 7 then i else if k = 8 then pick.toNat else 0
def JE (k pick : Int) (ins : List Ty) (i : Nat) : Ty := ins.getD (VX k pick i) default
mutual
def Ko : Vl → Ty → Int
 | .mk a b c d bits pb items pi pick, .mk k n p ins => if (k = 4 ∧ n < items.length) ∨ (k = 6 ∧ n < bits.length) then 5 else if zC k n ins.length (.mk a b c d bits pb items pi pick) = false then 2 else Qr items k pick ins 0
def Qr : List Vl → Int → Int → List Ty → Nat → Int
 | [], _, _, _, _ => 0
 | x :: xs, k, pick, ins, i => if Ko x (JE k pick ins i) = 0 then Qr xs k pick ins (i + 1) else Ko x (JE k pick ins i)
end
theorem q5 {k n : Int} {p : Pl} {ins : List Ty} (hc : V7 (.mk k n p ins) dp = 0) (ho : zC k n ins.length v = true) (hi : i < v.items.length) : VX k v.pick i < ins.length := by
 obtain ⟨hk, hf, _, _⟩ := QT hc
 unfold zC Vd at ho
 unfold Kk at hf
 unfold VX
 have h9 : k = 1 ∨ k = 2 ∨ k = 3 ∨ k = 4 ∨ k = 5 ∨ k = 6 ∨ k = 7 ∨ k = 8 := by omega
 have hl : ¬ v.items = [] := fun h => by rw [h] at hi; simp at hi
 rcases h9 with rfl | rfl | rfl | rfl | rfl | rfl | rfl | rfl
 all_goals simp [hl] at ho hf ⊢
 all_goals omega
theorem Qp {k pick : Int} {ins : List Ty} (h : VX k pick i < ins.length) : ins[VX k pick i]? = some (JE k pick ins i) ∧ JE k pick ins i ∈ ins := by
 unfold JE
 exact GL
theorem Qg (a b c d : Nat) (bits : List Bool) (pb : Pl) (items : List Vl) (pi : Pl) (pick : Int) (h1 h2 h3 h4 : Bool) : Vd (.mk a b c d bits pb items pi pick) h1 h2 h3 h4 = ((h1 || decide ([a, b, c, d] = [0, 0, 0, 0])) && (h2 || decide (bits.length = 0)) && (h3 || decide (items.length = 0)) && (h4 || decide (pick = 0))) := rfl
theorem Qq (k n : Int) (m a b c d : Nat) (bits : List Bool) (pb : Pl) (items : List Vl) (pi : Pl) (pick : Int) (v : Vl) (hv : v = .mk a b c d bits pb items pi pick) : zC k n m v =
 if k = 1 then Vd v true false false false && decide (((Ww [a, b, c, d]).length : Int) ≤ n)
 else if k = 2 then Vd v true false false false && (decide ([a, b, c, d] = [0, 0, 0, 0]) || decide ([a, b, c, d] = [1, 0, 0, 0]))
 else if k = 3 then Vd v false false true false && decide ((items.length : Int) = n)
 else if k = 4 then Vd v false false true false
 else if k = 5 then Vd v false true false false && decide ((bits.length : Int) = n)
 else if k = 6 then Vd v false true false false
 else if k = 7 then Vd v false false true false && decide (items.length = m)
 else Vd v false false true true && decide (items.length = 1) && decide (0 ≤ pick) && decide (pick < m) := by subst hv; rfl
theorem Jus {n : Int} (h : zC 8 n m v = true) : 0 ≤ v.pick := by
 unfold zC at h
 simp at h; omega
def Vt (t : Ty) (v : Vl) : Int := if V7 t 0 = 0 then Ko v t else V7 t 0
theorem Jsj (x y : Bool) : Pure Tryz.prog 275 [.bool x, .bool y].toArray (.bool (x == y)) := by
 refine J5 Tryz.func275 rfl rfl fun w => JT (KS 14 rfl ?_); exact MK
def fV (f : FuncId) : Value := .func (.func f) #[] #[]
theorem Jn0 {bits bits' : List Bool} {p p' : Pl} (hl : bits.length ≤ 9223372036854775807) (hl' : bits'.length ≤ 9223372036854775807) (hs : Seg R bits.length (Qx bits) p) (hs' : Seg R bits'.length (Qx bits') p') :
  PureR Tryz.prog 283 [KB bits.length p, KB bits'.length p', fV 275].toArray (.bool (decide (bits = bits'))) R := by
 refine Ja Tryz.func283 rfl rfl fun w => Gu ?_; refine cD (fun g => ?_) fun g => ?_
 ·refine NW fun w1 hs1 => ?_
  (have hse : bits ≠ bits' := fun e => by subst e; omega
   simp [JK, hse]; done)
 ·refine gU ?_; refine gY ?_
  have hlb2 : bits.length = bits'.length := by omega
  refine Jw (σ := Nat) (fun i => i ≤ bits.length ∧ ∀ j, j < i → bits[j]? = bits'[j]?) (fun i => [(1, KB bits'.length p'), (2, fV 275), (15, KB bits.length p), (16, .int .i64 (bits.length : Int)), (17, .int .i64 (i : Int))]) (fun _ => []) (fun _ _ _ => True) (fun i => bits.length - i) 0 ⟨by omega, fun j hj => absurd hj m0⟩ (lK rfl) (List.nil_sublist _) (fun _ _ h => h) ?_; rintro i ⟨hi1, hinv⟩; refine Nd ?_; refine cD (fun g => ?_) fun g => ?_
  ·refine kF ?_
   obtain ⟨x, hx, hmx⟩ := Qz (show i < bits.length by omega)
   obtain ⟨y, hy, hmy⟩ := Qz (show i < bits'.length by omega)
   refine N6 ?_; refine kc ?_; refine LR rfl (Ym oR rfl hs hx rfl) (JM 8 rfl (LR rfl (Jf (j := i) rfl hs' rfl rfl rfl rfl m0) (LR rfl (Ym oR rfl hs' hy rfl) (JM 8 rfl (J6 rfl rfl rfl (enters_of Tryz.func275 m5 rfl) (Jsj x y) (Nw ?_)))))); refine cD (fun g => ?_) fun g => ?_
   ·refine Nm fun w1 hs1 => ?_
    (have hse : bits ≠ bits' := Jsb hx hy my
     simp [JK, hse]; done)
   refine NT ?_
   exact Jo (i + 1) ⟨by omega, fun j hj => by
    rcases Nat.lt_succ_iff_lt_or_eq.1 hj with hj | rfl
    exact hinv j hj
    rw [hx, hy]; simp_all⟩ m0 (lK rfl) (List.nil_sublist _) (fun _ _ h => h)
  ·refine Nm fun w1 hs1 => ?_
   (have hse : bits = bits' := Jsc hlb2 m0 hinv
    simp [JK, hse]; done)
theorem Jn1 {items items' : List Vl} {p p' : Pl} (eg : Enters Tryz.prog g) (hg : ∀ x ∈ items, ∀ y ∈ items', PureR Tryz.prog g [x.val, y.val].toArray (.bool (Xz x y)) R) (hl : items.length ≤ 9223372036854775807) (hl' : items'.length ≤ 9223372036854775807) (hs : Seg R items.length (Qi items) p) (hs' : Seg R items'.length (Qi items') p') :
  PureR Tryz.prog 284 [KB items.length p, KB items'.length p', fV g].toArray (.bool (VT items items')) R := by
 refine Ja Tryz.func284 rfl rfl fun w => Gu ?_; refine cD (fun h4 => ?_) fun h4 => ?_
 ·refine NW fun w1 hs1 => ?_
  (have hse : VT items items' = false := Jse m0
   simp [JK, hse]; done)
 ·refine gU ?_; refine gY ?_
  have hl2 : items.length = items'.length := by omega
  refine Jw (σ := Nat) (fun i => i ≤ items.length ∧ ∀ q, q < i → ∀ x y, items[q]? = some x → items'[q]? = some y → Xz x y = true) (fun i => [(1, KB items'.length p'), (2, fV g), (15, KB items.length p), (16, .int .i64 (items.length : Int)), (17, .int .i64 (i : Int))]) (fun _ => []) (fun _ _ _ => True) (fun i => items.length - i) 0 ⟨by omega, fun j hj => absurd hj m0⟩ (lK rfl) (List.nil_sublist _) (fun _ _ h => h) ?_; rintro i ⟨hi1, hinv⟩; refine Nd ?_; refine cD (fun h10 => ?_) fun h10 => ?_
  ·refine kF ?_
   obtain ⟨x, hx, hmx⟩ := Qz (show i < items.length by omega)
   obtain ⟨y, hy, hmy⟩ := Qz (show i < items'.length by omega)
   refine N6 ?_; refine kc ?_; refine LR rfl (QH oR rfl hs hx rfl rfl) (LN rfl fun r1 => QV rfl (Jk (k := 0) (n := 7) (ys := x.cells) rfl rfl rfl rfl rfl x.len rfl x.one rfl (JM 6 rfl ?_))); refine LR rfl (Jf (j := i) rfl hs' rfl rfl rfl rfl m0) (LR rfl (QH oR rfl hs' hy rfl rfl) (LN rfl fun r2 => Jk (k := 0) (n := 7) (ys := y.cells) rfl rfl rfl rfl rfl y.len rfl y.one rfl (N5 ?_))); refine LR rfl (Jg (xs := x.cells) (n := 7) rfl (kn 1 rfl) rfl rfl x.len) (LR rfl (Jg (xs := y.cells) (n := 7) rfl (kn 0 rfl) rfl rfl y.len) (Jc rfl rfl rfl eg (hg x hmx y hmy) oR (Nw ?_))); refine cD (fun h15 => ?_) fun h15 => ?_
   ·refine Nm fun w1 hs1 => ?_
    (have hse : VT items items' = false := Jsd hx hy m8
     simp [JK, hse]; done)
   refine NT ?_
   exact Jo (i + 1) ⟨by omega, fun q hq u v hu hv => by
    rcases Nat.lt_succ_iff_lt_or_eq.1 hq with hq | rfl
    exact hinv q hq u v hu hv
    rw [hx] at hu; rw [hy] at hv; cases hu; cases hv; assumption⟩ m0 (lK rfl) (List.nil_sublist _) (fun _ _ h => h)
  ·refine Nm fun w1 hs1 => ?_
   (have hse : VT items items' = true := Wu.2 ⟨hl2, fun q x y hx hy => hinv q (by have := (List.getElem?_eq_some_iff.1 hx).1; omega) x y hx hy⟩
    simp [JK, hse]; done)
theorem Jsk {v0 v1 v2 v : Value} (h : PureR Tryz.prog 283 [v0, v1, v2].toArray v R) : PureR Tryz.prog 276 [v0, v1, v2].toArray v R := by
 refine Ja Tryz.func276 rfl rfl fun w => JT (Jr 10 rfl (Jc rfl rfl rfl (enters_of Tryz.func283 m5 rfl) h oR ?_)); exact MY
theorem Jsl {v0 v1 v2 v : Value} (h : PureR Tryz.prog 284 [v0, v1, v2].toArray v R) : PureR Tryz.prog 277 [v0, v1, v2].toArray v R := by
 refine Ja Tryz.func277 rfl rfl fun w => JT (Jr 10 rfl (Jc rfl rfl rfl (enters_of Tryz.func284 m5 rfl) h oR ?_)); exact MY
theorem Jv8 {u : Vl} (hu : u.In R) : ∀ v : Vl, v.In R → PureR Tryz.prog 265 [u.val, v.val].toArray (.bool (Xz u v)) R := by
 induction hu with
 | @mk a b c d bits pb items pi pick ha hb hc hd hlb hsb hl hs hp hi ih =>
 intro v hv
 cases hv with
 | @mk a' b' c' d' bits' pb' items' pi' pick' ha' hb' hc' hd' hlb' hsb' hl' hs' hp' hi' =>
 rw [Zf]
 have h1 := Jsk (Jn0 hlb hlb' hsb hsb')
 have h2 := Jsl (Jn1 (enters_of Tryz.func265 m5 rfl) (fun x hx y hy => ih x hx y (hi' y hy)) hl hl' hs hs')
 refine Ja Tryz.func265 rfl rfl fun w => ML fun r1 r2 => ?_; refine XN 14 [1, 0] rfl rfl (LR rfl (xu rfl rfl rfl rfl rfl m5 rfl rfl rfl rfl) ?_)
 first | (refine Jn (congrArg Value.bool (vD (a := [a, b, c, d]) (b := [a', b', c', d']) rfl)) ?_) | skip
 refine QV rfl ?_
 refine J0 11 rfl (fun gb => ?_) (fun gb => ?_) <;> (try simp only [ZZ] at gb) <;> first | (refine LR rfl (J7 rfl rfl rfl) ?_) | (refine LK rfl ?_)
 all_goals refine ku ?_
 all_goals refine LW 4 [0] rfl rfl ?_
 all_goals first | refine LK rfl ?_ | (refine J0 18 rfl (fun gb => ?_) (fun gb => ?_) <;> (try simp only [ZZ] at gb) <;> first | (refine LR rfl (J7 rfl rfl rfl) ?_) | (refine LK rfl ?_))
 all_goals refine ku ?_
 all_goals refine LW 2 [0] rfl rfl ?_
 all_goals first | (refine Jc rfl rfl rfl (enters_of Tryz.func276 m5 rfl) h1 oR ?_) | refine LK rfl ?_
 all_goals refine gr ?_
 all_goals first | refine LK rfl ?_ | (refine J0 26 rfl (fun gb => ?_) (fun gb => ?_) <;> (try simp only [ZZ] at gb) <;> first | (refine LR rfl (J7 rfl rfl rfl) ?_) | (refine LK rfl ?_))
 all_goals refine ku ?_
 all_goals refine NU ?_
 all_goals first | (refine Jc rfl rfl rfl (enters_of Tryz.func277 m5 rfl) h2 oR ?_) | refine LK rfl ?_
 all_goals (
  refine Nb fun w1 hs1 => ?_
  simp_all [JK]
  skip)
def kfs : List (Nat × Nat × Nat × Bool) := [(196, 199, 202, false), (203, 205, 207, false), (208, 211, 213, false), (215, 216, 0, true),
 (217, 218, 220, false), (221, 222, 0, true), (223, 224, 225, false), (226, 227, 0, true)]
def kAt (k : Int) : Nat × Nat × Nat × Bool := kfs.getD (k - 1).toNat (0, 0, 0, false)
def isK (k : Int) : Bool := decide (1 ≤ k) && decide (k ≤ 8)
def Jn2 (k : Int) : FuncId := (kAt k).1
def ofF (k : Int) : FuncId := (kAt k).2.1
def Jn3 (k : Int) : FuncId := (kAt k).2.2.1
def Jfw (k : Int) : Bool := (kAt k).2.2.2
def fnV (b : Bool) (f : FuncId) : Value := if b then fV f else .nilFunc
def Zg (k : Int) : List Value := [fnV (isK k) (Jn2 k), fnV (isK k) (ofF k), fnV (isK k && !Jfw k) (Jn3 k), .bool (Jfw k)]
def Jan (j : Nat) : MapEntry := { key := .int .i64 ((j : Int) + 1), val := .agg (Zg ((j : Int) + 1)).toArray, born := j }
def kMap : Array MapEntry := #[Jan 0, Jan 1, Jan 2, Jan 3, Jan 4, Jan 5, Jan 6, Jan 7]
def Jj2 : Obj := .map kMap 8
theorem Zh : ∀ e ∈ kMap.toList, isI e.key := by
 intro e he; simp only [kMap, List.mem_cons, List.not_mem_nil, or_false] at he
 rcases he with rfl | rfl | rfl | rfl | rfl | rfl | rfl | rfl <;> exact ⟨_, rfl⟩
theorem Jdb (k : Int) : QS YM (.int .i64 k) (kMap.toList.map Ya) = if isK k then some (.agg (Zg k).toArray) else none := by
 by_cases h : 1 ≤ k ∧ k ≤ 8
 ·have : k = 1 ∨ k = 2 ∨ k = 3 ∨ k = 4 ∨ k = 5 ∨ k = 6 ∨ k = 7 ∨ k = 8 := by omega
  rcases this with rfl | rfl | rfl | rfl | rfl | rfl | rfl | rfl <;> rfl
 ·have e : isK k = false := by unfold isK; simp; omega
  rw [e]
  have h1 : k ≠ 1 := by omega
  have h2 : k ≠ 2 := by omega
  have h3 : k ≠ 3 := by omega
  have h4 : k ≠ 4 := by omega
  have h5 : k ≠ 5 := by omega
  have h6 : k ≠ 6 := by omega
  have h7 : k ≠ 7 := by omega
  have h8 : k ≠ 8 := by omega
  simp [kMap, Jan, Ya, QS, Jl8, h1, h2, h3, h4, h5, h6, h7, h8]
theorem Jn4 (k : Int) : (if true = true then Value.tuple #[((QS YM (.int .i64 k) (kMap.toList.map Ya)).getD (.agg #[.nilFunc, .nilFunc, .nilFunc, .bool false])), .bool (QS YM (.int .i64 k) (kMap.toList.map Ya)).isSome] else (QS YM (.int .i64 k) (kMap.toList.map Ya)).getD (.agg #[.nilFunc, .nilFunc, .nilFunc, .bool false])) =
  .tuple #[.agg (Zg k).toArray, .bool (isK k)] := by
 rw [Jdb, if_pos rfl]
 cases h : isK k with
 | true => rfl
 | false =>
  have : Jfw k = false := by
   unfold isK at h
   simp at h
   unfold Jfw kAt
   by_cases h1 : 1 ≤ k
   ·have := h h1
    rw [List.getD_eq_getElem?_getD, List.getElem?_eq_none (by show 8 ≤ _; omega)]; rfl
   ·have : (k - 1).toNat = 0 := by omega
    rw [this]; rfl
  simp [Zg, fnV, h, this]
theorem ZF {k : Int} (h : isK k = true) : (if false = true then Value.tuple #[((QS YM (.int .i64 k) (kMap.toList.map Ya)).getD (.agg #[.nilFunc, .nilFunc, .nilFunc, .bool false])), .bool (QS YM (.int .i64 k) (kMap.toList.map Ya)).isSome] else (QS YM (.int .i64 k) (kMap.toList.map Ya)).getD (.agg #[.nilFunc, .nilFunc, .nilFunc, .bool false])) =
  .agg (Zg k).toArray := by
 rw [Jdb, h]; rfl
theorem jM : PureE (α := Nat) Tryz.prog 161 [].toArray (fun r => .map (some r)) (fun r => [(r, Jj2)]) := by
 refine Vw Tryz.func161 rfl rfl fun w => JT (Jr 7 rfl (wt rfl rfl fun mr => Nn ?_)); refine KX (q := 0) (key := .int .i64 1) (XK (t := 3) m5) rfl rfl rfl rfl rfl rfl ⟨_, rfl⟩ (by intro e he; simp at he) rfl rfl ?_; refine Nn ?_
 refine KX (q := 0) (key := .int .i64 2) (XK (t := 3) m5) rfl rfl rfl rfl rfl rfl ⟨_, rfl⟩ nP rfl rfl (Nn ?_)
 refine KX (q := 0) (key := .int .i64 3) (XK (t := 3) m5) rfl rfl rfl rfl rfl rfl ⟨_, rfl⟩ nJ rfl rfl (Nn ?_)
 refine KX (q := 0) (key := .int .i64 4) (XK (t := 3) m5) rfl rfl rfl rfl rfl rfl ⟨_, rfl⟩ nB rfl rfl (Nn ?_)
 refine KX (q := 0) (key := .int .i64 5) (XK (t := 3) m5) rfl rfl rfl rfl rfl rfl ⟨_, rfl⟩ np rfl rfl (Nn ?_)
 refine KX (q := 0) (key := .int .i64 6) (XK (t := 3) m5) rfl rfl rfl rfl rfl rfl ⟨_, rfl⟩ nj rfl rfl (Nn ?_)
 refine KX (q := 0) (key := .int .i64 7) (XK (t := 3) m5) rfl rfl rfl rfl rfl rfl ⟨_, rfl⟩ nf rfl rfl (Nn ?_)
 refine KX (q := 0) (key := .int .i64 8) (XK (t := 3) m5) rfl rfl rfl rfl rfl rfl ⟨_, rfl⟩ nc rfl rfl (kj ?_); refine N2 fun w1 hs1 => ?_; exact ⟨mr, rfl, hs1⟩
theorem Zi {k n : Int} {p : Pl} {ins : List Ty} (ht : Ty.In R (.mk k n p ins)) : PureR Tryz.prog 197 [Ty.val (.mk k n p ins)].toArray (.bool (decide (ins.length = 0))) R := by
 cases ht with
 | mk hk hn hl hs hi =>
 refine Ja Tryz.func197 rfl rfl fun w => Mw fun r1 => ?_; refine XN 7 [0] rfl rfl (MV ?_); refine kj ?_; refine N2 fun w1 hs1 => ?_; exact ⟨congrArg (fun b => Ending.returned (Value.bool b)) (by rw [Bool.eq_iff_iff]; simp only [beq_iff_eq, decide_eq_true_eq]; omega), hs1.keep⟩
theorem XU {k n : Int} {p : Pl} {ins : List Ty} (ht : Ty.In R (.mk k n p ins)) : PureR Tryz.prog 204 [Ty.val (.mk k n p ins)].toArray (.bool (decide (n = 0))) R := by
 cases ht with
 | mk hk hn hl hs hi =>
 refine Ja Tryz.func204 rfl rfl fun w => Mw fun r1 => ?_; refine Goq 12 [0] rfl rfl (Mv fun w1 hs1 => ?_)
 simp_all [JK]
 first | done | rfl | omega | (rw [Bool.eq_iff_iff]; simp only [Bool.and_eq_true, Bool.or_eq_true, decide_eq_true_eq, beq_iff_eq]; omega) | (simp only [decide_eq_true_eq, decide_eq_false_iff_not]; omega)
theorem qZ {k n : Int} {p : Pl} {ins : List Ty} (ht : Ty.In R (.mk k n p ins)) : PureR Tryz.prog 210 [Ty.val (.mk k n p ins)].toArray (.bool (decide (1 ≤ n) && decide (n ≤ 512))) R := by
 cases ht with
 | mk hk hn hl hs hi =>
 refine Ja Tryz.func210 rfl rfl fun w => Mw fun r1 => ?_; refine XN 9 [0] rfl rfl ?_
 refine J0 6 rfl (fun gb => ?_) (fun gb => ?_) <;> (try simp only [ZZ] at gb) <;> first | (refine LR rfl (J7 rfl rfl rfl) ?_) | (refine LK rfl ?_)
 all_goals (
  refine LW 4 [0] rfl rfl (Jy 1 rfl (qN 2 rfl ?_)); refine Mv fun w1 hs1 => ?_
  simp_all [JK]
  all_goals first | done | rfl | omega | (rw [Bool.eq_iff_iff]; simp only [Bool.and_eq_true, Bool.or_eq_true, decide_eq_true_eq, beq_iff_eq]; omega) | (simp only [decide_eq_true_eq, decide_eq_false_iff_not]; omega)
  skip)
theorem Zj {k n : Int} {p : Pl} {ins : List Ty} (ht : Ty.In R (.mk k n p ins)) (most : Int) : PureR Tryz.prog 209 [Ty.val (.mk k n p ins), .int .i64 most].toArray (.bool (decide (1 ≤ ins.length) && decide ((ins.length : Int) ≤ most))) R := by
 cases ht with
 | mk hk hn hl hs hi =>
 refine Ja Tryz.func209 rfl rfl fun w => Mw fun r1 => ?_; refine XN 7 [0] rfl rfl (MV ?_); refine ko ?_
 refine J0 9 rfl (fun gb => ?_) (fun gb => ?_) <;> (try simp only [ZZ] at gb) <;> first | (refine LR rfl (J7 rfl rfl rfl) ?_) | (refine LK rfl ?_)
 all_goals refine NU ?_
 all_goals refine gn ?_
 all_goals (
  refine LW 4 [] rfl rfl (Jy 1 rfl (qN 2 rfl ?_)); refine Mv fun w1 hs1 => ?_
  simp_all [JK]
  first | done | rfl | omega | (rw [Bool.eq_iff_iff]; simp only [Bool.and_eq_true, Bool.or_eq_true, decide_eq_true_eq, beq_iff_eq]; omega) | (simp only [decide_eq_true_eq, decide_eq_false_iff_not]; omega)
  skip)
def Jao : List Int → Int → Int → Int
 | [], _, _ => -1
 | y :: ys, x, j => if x = y then j else Jao ys x (j + 1)
def Jn5 (l : List Int) : List Value := l.map (Value.int .i64)
theorem Jsm {xs : List Int} {p : Pl} (x : Int) (hl : xs.length ≤ 9223372036854775807) (hs : Seg R xs.length (Jn5 xs) p) : PureR Tryz.prog 249 [KB xs.length p, .int .i64 x].toArray (.int .i64 (Jao xs x 0)) R := by
 refine Ja Tryz.func249 rfl rfl fun w => kd ?_; refine gY ?_; refine Jw (σ := Nat) (fun i => i ≤ xs.length ∧ Jao (xs.drop i) x (i : Int) = Jao xs x 0) (fun i => [(0, KB xs.length p), (1, .int .i64 x), (7, .int .i64 (xs.length : Int)), (8, .int .i64 (i : Int))]) (fun _ => []) (fun _ _ _ => True) (fun i => xs.length - i) 0 ⟨by omega, rfl⟩ (lK rfl) (List.nil_sublist _) (fun _ _ h => h) ?_; rintro i ⟨hi1, hinv⟩; refine Nd ?_; refine cD (fun g => ?_) fun g => ?_
 refine JS 11 rfl ?_
 obtain ⟨y, hy, hmy⟩ := Qz mZ
 rw [Yn hy, Jao] at hinv; refine gD ?_; refine kc ?_; refine LR rfl (ZB (v := .int .i64 y) (j := i) oR rfl hs m0 rfl (by unfold Jn5; rw [List.getElem?_map, hy]; rfl)) ?_; refine Nw ?_; refine cD (fun g => ?_) fun g => ?_
 refine HG fun w1 hs1 => ?_; rw [← hinv, if_pos m8]; rfl
 refine NT ?_; exact Jo (i + 1) ⟨by omega, by rw [if_neg m8] at hinv; exact hinv⟩ m0 (lK rfl) (List.nil_sublist _) (fun _ _ h => h)
 ·refine Nm fun w1 hs1 => ?_; rw [← hinv, List.drop_of_length_le m0, Jao]; rfl
theorem Jfx {xs : List Int} {p : Pl} (x : Int) (hl : xs.length ≤ 9223372036854775807) (hs : Seg R xs.length (Jn5 xs) p) : PureR Tryz.prog 198 [KB xs.length p, .int .i64 x].toArray (.bool (decide (0 ≤ Jao xs x 0))) R := by
 have h := Jsm x hl hs
 refine Ja Tryz.func198 rfl rfl fun w => kd ?_; refine Jc rfl rfl rfl (enters_of Tryz.func249 m5 rfl) h oR (kj ?_); exact MK
theorem Jzn (n : Int) : decide (0 ≤ Jao [1, 2, 4, 8, 32] n 0) = (decide (n = 1) || decide (n = 2) || decide (n = 4) || decide (n = 8) || decide (n = 32)) := by
 simp only [Jao]
 by_cases h1 : n = 1
 ·simp [h1]
 by_cases h2 : n = 2
 ·simp [h2]
 by_cases h4 : n = 4
 ·simp [h4]
 by_cases h8 : n = 8
 ·simp [h8]
 by_cases h32 : n = 32
 ·simp [h32]
 simp [h1, h2, h4, h8, h32]
theorem F_1 {n : Int} {p : Pl} {ins : List Ty} (ht : Ty.In R (.mk 1 n p ins)) : PureR Tryz.prog 196 [Ty.val (.mk 1 n p ins)].toArray (.bool (Kk 1 n ins.length)) R := by
 have hno := Zi ht
 have hpl := XU ht
 have hro := qZ ht
 have hma := fun m => Zj ht m
 cases ht with
 | mk hk hn hl hs hi =>
 refine Ja Tryz.func196 rfl rfl fun w => Gg fun r1 => ?_
 refine J0 5 rfl (fun gb => ?_) (fun gb => ?_) <;> (try simp only [ZZ] at gb) <;> first | (refine JB (vs := [_, _, _, _, _]) (zs := [_, _, _, _, _]) (r := [_, _, _, _, _]) rfl rfl rfl rfl rfl rfl rfl rfl rfl mq rfl fun r2 => ?_) | (refine LK rfl ?_)
 all_goals refine MH ?_
 all_goals refine LW 1 [1] rfl rfl ?_
 all_goals first | (refine Jc rfl rfl rfl (enters_of Tryz.func198 m5 rfl) (Jfx (R := [(r2, _)]) (xs := [1, 2, 4, 8, 32]) (p := some (⟨r2, 0, none⟩, 5)) n m6 ⟨by decide, fun _ => ⟨rfl, _, _, _, List.mem_cons_self, rfl⟩⟩) (fun q hq => .inl mU) ?_; refine Jn (congrArg Value.bool (Jzn n)) ?_) | refine LK rfl ?_
 all_goals (
  refine Nb fun w1 hs1 => ?_
  unfold Kk
  simp_all [JK]
  skip)
theorem F_2 {n : Int} {p : Pl} {ins : List Ty} (ht : Ty.In R (.mk 2 n p ins)) : PureR Tryz.prog 203 [Ty.val (.mk 2 n p ins)].toArray (.bool (Kk 2 n ins.length)) R := by
 have hno := Zi ht
 have hpl := XU ht
 have hro := qZ ht
 have hma := fun m => Zj ht m
 cases ht with
 | mk hk hn hl hs hi =>
 refine Ja Tryz.func203 rfl rfl fun w => Gg fun r1 => ?_
 refine J0 5 rfl (fun gb => ?_) (fun gb => ?_) <;> (try simp only [ZZ] at gb) <;> first | (refine LR rfl (Jl (vs := [_, _, _]) rfl (kn 0 rfl) rfl rfl rfl rfl) ?_) | (refine LK rfl ?_)
 all_goals refine Hl ?_
 all_goals (
  refine Nb fun w1 hs1 => ?_
  unfold Kk
  simp_all [JK]
  skip)
theorem F_3 {n : Int} {p : Pl} {ins : List Ty} (ht : Ty.In R (.mk 3 n p ins)) : PureR Tryz.prog 208 [Ty.val (.mk 3 n p ins)].toArray (.bool (Kk 3 n ins.length)) R := by
 have hno := Zi ht
 have hpl := XU ht
 have hro := qZ ht
 have hma := fun m => Zj ht m
 cases ht with
 | mk hk hn hl hs hi =>
 refine Ja Tryz.func208 rfl rfl fun w => kg fun r1 => ?_; refine Jc rfl rfl rfl Jhw (hma 1) oR (QV rfl ?_)
 refine J0 5 rfl (fun gb => ?_) (fun gb => ?_) <;> (try simp only [ZZ] at gb) <;> first | (refine LR rfl (Jl (vs := [_, _, _]) rfl (kn 0 rfl) rfl rfl rfl rfl) ?_) | (refine LK rfl ?_)
 all_goals refine gS ?_
 all_goals (
  refine Nb fun w1 hs1 => ?_
  unfold Kk
  simp_all [JK]
  first | done | rfl | omega | (rw [Bool.eq_iff_iff]; simp only [Bool.and_eq_true, Bool.or_eq_true, decide_eq_true_eq, beq_iff_eq]; omega) | (simp only [decide_eq_true_eq, decide_eq_false_iff_not]; omega)
  skip)
theorem F_4 {n : Int} {p : Pl} {ins : List Ty} (ht : Ty.In R (.mk 4 n p ins)) : PureR Tryz.prog 215 [Ty.val (.mk 4 n p ins)].toArray (.bool (Kk 4 n ins.length)) R := by
 have hno := Zi ht
 have hpl := XU ht
 have hro := qZ ht
 have hma := fun m => Zj ht m
 cases ht with
 | mk hk hn hl hs hi =>
 refine Ja Tryz.func215 rfl rfl fun w => kg fun r1 => ?_; refine Jc rfl rfl rfl Jhw (hma 1) oR (QV rfl ?_)
 refine J0 5 rfl (fun gb => ?_) (fun gb => ?_) <;> (try simp only [ZZ] at gb) <;> first | (refine LR rfl (Jl (vs := [_, _, _]) rfl (kn 0 rfl) rfl rfl rfl rfl) ?_) | (refine LK rfl ?_)
 all_goals refine gS ?_
 all_goals (
  refine Nb fun w1 hs1 => ?_
  unfold Kk
  simp_all [JK]
  first | done | rfl | omega | (rw [Bool.eq_iff_iff]; simp only [Bool.and_eq_true, Bool.or_eq_true, decide_eq_true_eq, beq_iff_eq]; omega) | (simp only [decide_eq_true_eq, decide_eq_false_iff_not]; omega)
  skip)
theorem F_5 {n : Int} {p : Pl} {ins : List Ty} (ht : Ty.In R (.mk 5 n p ins)) : PureR Tryz.prog 217 [Ty.val (.mk 5 n p ins)].toArray (.bool (Kk 5 n ins.length)) R := by
 have hno := Zi ht
 have hpl := XU ht
 have hro := qZ ht
 have hma := fun m => Zj ht m
 cases ht with
 | mk hk hn hl hs hi =>
 refine Ja Tryz.func217 rfl rfl fun w => Gg fun r1 => ?_
 refine J0 5 rfl (fun gb => ?_) (fun gb => ?_) <;> (try simp only [ZZ] at gb) <;> first | (refine LR rfl (Jl (vs := [_, _, _]) rfl (kn 0 rfl) rfl rfl rfl rfl) ?_) | (refine LK rfl ?_)
 all_goals refine gS ?_
 all_goals (
  refine Nb fun w1 hs1 => ?_
  unfold Kk
  simp_all [JK]
  skip)
theorem F_6 {n : Int} {p : Pl} {ins : List Ty} (ht : Ty.In R (.mk 6 n p ins)) : PureR Tryz.prog 221 [Ty.val (.mk 6 n p ins)].toArray (.bool (Kk 6 n ins.length)) R := by
 have hno := Zi ht
 have hpl := XU ht
 have hro := qZ ht
 have hma := fun m => Zj ht m
 cases ht with
 | mk hk hn hl hs hi =>
 refine Ja Tryz.func221 rfl rfl fun w => Gg fun r1 => ?_
 refine J0 5 rfl (fun gb => ?_) (fun gb => ?_) <;> (try simp only [ZZ] at gb) <;> first | (refine LR rfl (Jl (vs := [_, _, _]) rfl (kn 0 rfl) rfl rfl rfl rfl) ?_) | (refine LK rfl ?_)
 all_goals refine gS ?_
 all_goals (
  refine Nb fun w1 hs1 => ?_
  unfold Kk
  simp_all [JK]
  skip)
theorem F_7 {n : Int} {p : Pl} {ins : List Ty} (ht : Ty.In R (.mk 7 n p ins)) : PureR Tryz.prog 223 [Ty.val (.mk 7 n p ins)].toArray (.bool (Kk 7 n ins.length)) R := by
 have hno := Zi ht
 have hpl := XU ht
 have hro := qZ ht
 have hma := fun m => Zj ht m
 cases ht with
 | mk hk hn hl hs hi =>
 refine Ja Tryz.func223 rfl rfl fun w => kg fun r1 => ?_; refine Jc rfl rfl rfl Jhw (hma 16) oR (QV rfl ?_)
 refine J0 5 rfl (fun gb => ?_) (fun gb => ?_) <;> (try simp only [ZZ] at gb) <;> first | (refine LR rfl (Jl (vs := [_, _, _]) rfl (kn 0 rfl) rfl rfl rfl rfl) ?_) | (refine LK rfl ?_)
 all_goals refine Hl ?_
 all_goals (
  refine Nb fun w1 hs1 => ?_
  unfold Kk
  simp_all [JK]
  first | done | rfl | omega | (rw [Bool.eq_iff_iff]; simp only [Bool.and_eq_true, Bool.or_eq_true, decide_eq_true_eq, beq_iff_eq]; omega) | (simp only [decide_eq_true_eq, decide_eq_false_iff_not]; omega)
  skip)
theorem F_8 {n : Int} {p : Pl} {ins : List Ty} (ht : Ty.In R (.mk 8 n p ins)) : PureR Tryz.prog 226 [Ty.val (.mk 8 n p ins)].toArray (.bool (Kk 8 n ins.length)) R := by
 have hno := Zi ht
 have hpl := XU ht
 have hro := qZ ht
 have hma := fun m => Zj ht m
 cases ht with
 | mk hk hn hl hs hi =>
 refine Ja Tryz.func226 rfl rfl fun w => kg fun r1 => ?_; refine Jc rfl rfl rfl Jhw (hma 8) oR (QV rfl ?_)
 refine J0 5 rfl (fun gb => ?_) (fun gb => ?_) <;> (try simp only [ZZ] at gb) <;> first | (refine LR rfl (Jl (vs := [_, _, _]) rfl (kn 0 rfl) rfl rfl rfl rfl) ?_) | (refine LK rfl ?_)
 all_goals refine Hl ?_
 all_goals (
  refine Nb fun w1 hs1 => ?_
  unfold Kk
  simp_all [JK]
  first | done | rfl | omega | (rw [Bool.eq_iff_iff]; simp only [Bool.and_eq_true, Bool.or_eq_true, decide_eq_true_eq, beq_iff_eq]; omega) | (simp only [decide_eq_true_eq, decide_eq_false_iff_not]; omega)
  skip)
theorem W7 {k : Int} : isK k = true ↔ 1 ≤ k ∧ k ≤ 8 := by unfold isK; simp
theorem Jx2 {k n : Int} {p : Pl} {ins : List Ty} (ht : Ty.In R (.mk k n p ins)) (h : isK k = true) : Enters Tryz.prog (Jn2 k) ∧ PureR Tryz.prog (Jn2 k) [Ty.val (.mk k n p ins)].toArray (.bool (Kk k n ins.length)) R := by
 have := W7.1 h
 have : k = 1 ∨ k = 2 ∨ k = 3 ∨ k = 4 ∨ k = 5 ∨ k = 6 ∨ k = 7 ∨ k = 8 := by omega
 rcases this with rfl | rfl | rfl | rfl | rfl | rfl | rfl | rfl
 ·exact ⟨enters_of Tryz.func196 m5 rfl, F_1 ht⟩
 ·exact ⟨enters_of Tryz.func203 m5 rfl, F_2 ht⟩
 ·exact ⟨enters_of Tryz.func208 m5 rfl, F_3 ht⟩
 ·exact ⟨enters_of Tryz.func215 m5 rfl, F_4 ht⟩
 ·exact ⟨enters_of Tryz.func217 m5 rfl, F_5 ht⟩
 ·exact ⟨enters_of Tryz.func221 m5 rfl, F_6 ht⟩
 ·exact ⟨enters_of Tryz.func223 m5 rfl, F_7 ht⟩
 ·exact ⟨enters_of Tryz.func226 m5 rfl, F_8 ht⟩
theorem Jfy (k : Int) : (Zg k).all QL = true := by
 unfold Zg fnV
 cases isK k <;> cases Jfw k <;> rfl
theorem ZG {k : Int} (h : isK k = false) : k < 1 ∨ 8 < k := by unfold isK at h; simp at h; omega
theorem Jh1 {b : Bool} {f : FuncId} (h : b = true) : fnV b f = .func (.func f) #[] #[] := by rw [h]; rfl
theorem Jh2 {k : Int} (h : isK k = true) : Jfw k = (decide (k = 4) || decide (k = 6) || decide (k = 8)) := by
 have := W7.1 h
 have : k = 1 ∨ k = 2 ∨ k = 3 ∨ k = 4 ∨ k = 5 ∨ k = 6 ∨ k = 7 ∨ k = 8 := by omega
 rcases this with rfl | rfl | rfl | rfl | rfl | rfl | rfl | rfl <;> rfl
theorem Jsn (ht : t.In R) : ∀ d : Int, 0 ≤ d → d ≤ 1000 → PureR Tryz.prog 141 [t.val, .int .i64 d].toArray (.int .i64 (V7 t d)) R := by
  induction ht with
  | @mk k n p ins hk hn hl hs hi ih =>
  intro d hd0 hd1
  have hF := fun h => Jx2 (.mk hk hn hl hs hi : Ty.In R (.mk k n p ins)) h
  refine Ja Tryz.func141 rfl rfl fun w => Mw fun r1 => ?_; refine kA ?_
  refine JU [] [(0, .grow (Qu 0 (fun r : Nat => Value.map (some r)) (fun r => [(r, Jj2)]))), (1, .pure), (4, .pure), (5, .pure), (6, .pure), (7, .grow (Wb xy (.cells #[.nilFunc, .nilFunc, .nilFunc, .bool false] 171 (0, 0)))), (8, .turn), (9, .pure)] 10 [1, 2, 0, 3, 4, 5, 6, 7, 8, 9] m5 m5 m7 ?_
  refine Gm ?_; refine Yp (k := 0) rfl rfl rfl rfl rfl Jc7 jM fun mr => KW (k := 3) rfl rfl rfl rfl rfl (Yk (XK (t := 3) m5) rfl rfl (kn 0 rfl) rfl rfl ⟨_, rfl⟩ Zh (Jn4 k)) (Jm (k := 4) rfl rfl rfl rfl rfl (fun _ hS => (Je rfl)) (kr ?_)); refine Yo (k := 7) (cs := #[_, _, _, _]) rfl rfl rfl rfl rfl rfl fun r2 => ?_
  refine qP (k := 8) (q := 0) (n := 4) (ys := Zg k) rfl rfl rfl rfl rfl rfl rfl rfl rfl (Jfy k) mg (by first | exact (fun _ h => nomatch h) | simp [SubS]) ?_; refine Jm (k := 9) rfl rfl rfl rfl rfl (fun _ hS => (JH rfl)) ?_; refine Kz ?_; refine JR 11 rfl ?_; refine cD (fun g => ?_) fun g => ?_
  refine G1 fun w1 hs1 => ?_; rw [V7, if_pos (ZG m8)]; rfl
  · refine Hc ?_; refine Jn (Jh1 m8) (H5 ?_); refine Jc rfl rfl rfl (hF m8).1 (hF m8).2 oR (kA ?_); refine cD (fun g => ?_) fun g => ?_
    refine G1 fun w1 hs1 => ?_
    first
      | (rw [V7, if_pos (ZG m8)]; rfl)
      | (have hkk := W7.1 m8
         rw [V7, if_neg m0]
         first
         | (rw [if_pos m8]; rfl)
         | (rw [if_neg my, if_pos m0]; rfl)
         | (rw [if_neg my, if_neg m0, ← hinv, if_neg m8]; rfl)
         | (rw [if_neg my, if_neg m0, ← hinv, List.drop_of_length_le m0, Yc]; rfl))
    · refine JS 7 rfl (cD (fun g => ?_) fun g => ?_)
      refine G1 fun w1 hs1 => ?_
      first
        | (rw [V7, if_pos (ZG m8)]; rfl)
        | (have hkk := W7.1 m8
           rw [V7, if_neg m0]
           first
           | (rw [if_pos m8]; rfl)
           | (rw [if_neg my, if_pos m0]; rfl)
           | (rw [if_neg my, if_neg m0, ← hinv, if_neg m8]; rfl)
           | (rw [if_neg my, if_neg m0, ← hinv, List.drop_of_length_le m0, Yc]; rfl))
      · refine Wt 8 [2] rfl rfl (gY ?_); refine Jw (σ := Nat) (fun i => i ≤ ins.length ∧ Yc (ins.drop i) (d + 1) = Yc ins (d + 1)) (fun i => [(1, .int .i64 d), (30, KB ins.length p), (31, .int .i64 (ins.length : Int)), (32, .int .i64 (i : Int))]) (fun _ => []) (fun _ _ _ => True) (fun i => ins.length - i) 0 ⟨by omega, rfl⟩ (lK rfl) (List.nil_sublist _) (fun _ _ h => h) ?_; rintro i ⟨hi1, hinv⟩; refine Nd ?_; refine cD (fun g => ?_) fun g => ?_
        refine kF ?_
        obtain ⟨y, hy, hmem⟩ := Qz Mn
        rw [Yn hy, Yc] at hinv; refine Hf ?_; refine kc ?_; refine LR rfl (KV oR rfl hs hy rfl rfl) (LN rfl fun r3 => gI ?_); refine ko ?_; refine Jh m0 m0 (Jc rfl rfl rfl (enters_of Tryz.func141 m5 rfl) (ih y hmem (d + 1) m0 m0) oR (He ?_)); refine cD (fun g => ?_) fun g => ?_
        refine HG fun w1 hs1 => ?_
        first
          | (rw [V7, if_pos (ZG m8)]; rfl)
          | (have hkk := W7.1 m8
             rw [V7, if_neg m0]
             first
             | (rw [if_pos m8]; rfl)
             | (rw [if_neg my, if_pos m0]; rfl)
             | (rw [if_neg my, if_neg m0, ← hinv, if_neg m8]; rfl)
             | (rw [if_neg my, if_neg m0, ← hinv, List.drop_of_length_le m0, Yc]; rfl))
        refine NT ?_; exact Jo (i + 1) ⟨by omega, by rw [if_pos m8] at hinv; exact hinv⟩ m0 (lK rfl) (List.nil_sublist _) (fun _ _ h => h)
        · refine Nm fun w1 hs1 => ?_
          (have hkk := W7.1 m8
           rw [V7, if_neg m0]
           first
           | (rw [if_pos m8]; rfl)
           | (rw [if_neg my, if_pos m0]; rfl)
           | (rw [if_neg my, if_neg m0, ← hinv, if_neg m8]; rfl)
           | (rw [if_neg my, if_neg m0, ← hinv, List.drop_of_length_le m0, Yc]; rfl))
theorem Jap (ht : t.In R) : PureR Tryz.prog 93 [t.val].toArray (.int .i64 (V7 t 0)) R := by
 have h1 := Jsn ht 0 m0 m0
 obtain ⟨k, n, p, ins⟩ := t
 refine Ja Tryz.func93 rfl rfl fun w => kg fun r1 => ?_; refine Jc rfl rfl rfl (enters_of Tryz.func141 m5 rfl) h1 oR ?_; exact MY
def Jdc {α : Type} (b : α → Bool) : List α → Int → Int
 | [], _ => -1
 | y :: ys, j => if b y = true then j else Jdc b ys (j + 1)
theorem Jdd {α : Type} {b : α → Bool} : ∀ {l : List α} {j : Int}, 0 ≤ j → decide (0 ≤ Jdc b l j) = l.any b
 | [], _, _ => rfl
 | y :: ys, j, h => by
  rw [Jdc, List.any_cons]
  split
  ·rename_i hb; rw [hb]; simp [h]
  ·rename_i hb; rw [Jdd m0]; simp [hb]
theorem Jaq {ins : List Ty} {p : Pl} {b : Ty → Bool} (eg : Enters Tryz.prog g) (hg : ∀ x ∈ ins, PureR Tryz.prog g [x.val].toArray (.bool (b x)) R) (hl : ins.length ≤ 9223372036854775807) (hs : Seg R ins.length (xF ins) p) :
  PureR Tryz.prog 263 [KB ins.length p, fV g].toArray (.int .i64 (Jdc b ins 0)) R := by
 refine Ja Tryz.func263 rfl rfl fun w => kd ?_; refine gY ?_; refine Jw (σ := Nat) (fun i => i ≤ ins.length ∧ Jdc b (ins.drop i) (i : Int) = Jdc b ins 0) (fun i => [(0, KB ins.length p), (1, fV g), (7, .int .i64 (ins.length : Int)), (8, .int .i64 (i : Int))]) (fun _ => []) (fun _ _ _ => True) (fun i => ins.length - i) 0 ⟨by omega, rfl⟩ (lK rfl) (List.nil_sublist _) (fun _ _ h => h) ?_; rintro i ⟨hi1, hinv⟩; refine Nd ?_; refine cD (fun h6 => ?_) fun h6 => ?_
 refine JS 11 rfl ?_
 obtain ⟨y, hy, hmem⟩ := Qz Mn
 rw [Yn hy, Jdc] at hinv; refine gD ?_; refine kc ?_; refine LR rfl (KV oR rfl hs hy rfl rfl) (Jc rfl rfl rfl eg (hg y hmem) oR (gM ?_)); refine cD (fun h10 => ?_) fun h10 => ?_
 refine HG fun w1 hs1 => ?_; rw [← hinv, if_pos m8]; rfl
 refine NT ?_; exact Jo (i + 1) ⟨by omega, by rw [if_neg my] at hinv; exact hinv⟩ m0 (lK rfl) (List.nil_sublist _) (fun _ _ h => h)
 ·refine Nm fun w1 hs1 => ?_; rw [← hinv, List.drop_of_length_le m0, Jdc]; rfl
theorem vq {ins : List Ty} {p : Pl} {b : Ty → Bool} (eg : Enters Tryz.prog g) (hg : ∀ x ∈ ins, PureR Tryz.prog g [x.val].toArray (.bool (b x)) R) (hl : ins.length ≤ 9223372036854775807) (hs : Seg R ins.length (xF ins) p) :
  PureR Tryz.prog 244 [KB ins.length p, fV g].toArray (.bool (ins.any b)) R := by
 have h := Jaq (b := b) eg hg hl hs
 rw [← Jdd (b := b) (l := ins) (Int.le_refl 0)]; refine Ja Tryz.func244 rfl rfl fun w => kd ?_; refine Jc rfl rfl rfl (enters_of Tryz.func263 m5 rfl) h oR (kj ?_); exact MK
theorem Jh3 : ∀ ins : List Ty, (ins.any fun x => !WD x) = !ZS ins
 | [] => rfl
 | x :: xs => by rw [List.any_cons, Jh3 xs, ZS, Bool.not_and]
theorem Jso (ht : t.In R) : ∀ d : Int, V7 t d = 0 → PureR Tryz.prog 182 [t.val].toArray (.bool (WD t)) R := by
 induction ht with
 | @mk k n p ins hk hn hl hs hi ih =>
 intro d hc
 obtain ⟨hk8, ho, h6, hci⟩ := QT hc
 have hkk := W7.2 hk8
 have hcl : ∀ x ∈ ins, PureR Tryz.prog 245 [x.val].toArray (.bool (!WD x)) R := fun x hx => by
  have h1 := ih x hx (d + 1) (hci x hx)
  obtain ⟨xk, xn, xp, xi⟩ := x
  refine Ja Tryz.func245 rfl rfl fun w => kg fun r1 => ?_; refine Jc rfl rfl rfl (enters_of Tryz.func182 m5 rfl) h1 oR (kj ?_); exact MK
 have hany := vq (b := fun x => !WD x) (enters_of Tryz.func245 m5 rfl) hcl hl hs
 rw [Jh3] at hany
 have hvb := Jh2 hkk
 rw [WD]; refine Ja Tryz.func182 rfl rfl fun w => Mw fun r1 => ?_; refine kA ?_
 refine JU [] [(0, .grow (Qu 0 (fun r : Nat => Value.map (some r)) (fun r => [(r, Jj2)]))), (1, .pure), (4, .pure), (5, .pure), (6, .pure), (7, .pure), (10, .pure), (11, .pure), (12, .pure)] 13 [1, 2, 0, 3, 4, 5, 6, 7, 8, 9, 10, 11, 12] m5 m5 m7 ?_
 refine Gm ?_; refine MQ fun mr => ?_; refine Jm (k := 5) rfl rfl rfl rfl rfl (fun _ hS => (J1 rfl rfl rfl)) (Jm (k := 6) rfl rfl rfl rfl rfl (fun _ hS => (Je rfl)) ?_)
 refine Jri 9 rfl (fun gb => ?_) (fun gb => ?_) <;> (try simp only [ZZ] at gb) <;> first | (refine Jm (k := 7) rfl rfl rfl rfl rfl (fun _ hS => (J7 rfl rfl rfl)) ?_) | (refine vH (k := 7) rfl rfl rfl rfl ?_)
 all_goals first | refine KW (k := 8) rfl rfl rfl rfl rfl (Jd rfl (kn 1 rfl) rfl rfl) ?_ | refine vH (k := 8) rfl rfl rfl rfl ?_
 all_goals first | (refine Ql (k := 9) rfl rfl rfl rfl rfl (enters_of Tryz.func244 m5 rfl) hany oR ?_) | refine vH (k := 9) rfl rfl rfl rfl ?_
 all_goals first | refine Jm (k := 10) rfl rfl rfl rfl rfl (fun _ hS => (J1 rfl rfl rfl)) ?_ | refine vH (k := 10) rfl rfl rfl rfl ?_
 all_goals first | refine Jm (k := 11) rfl rfl rfl rfl rfl (fun _ hS => (Xe rfl rfl)) ?_ | refine Jm (k := 11) rfl rfl rfl rfl rfl (fun _ hS => (Xf rfl rfl)) ?_
 all_goals (
  refine Jm (k := 12) rfl rfl rfl rfl rfl (fun _ hS => (JH rfl)) (Kz (Jy 1 rfl (qN 2 rfl ?_))); refine Mv fun w1 hs1 => ?_
  simp_all [JK]
  all_goals first | done | (intros; omega)
  skip)
theorem Jar (ht : t.In R) : PureR Tryz.prog 142 [t.val].toArray (.bool (JC t)) R := by
 have h1 := Jap ht
 have h2 := Jso ht 0
 obtain ⟨k, n, p, ins⟩ := t
 refine Ja Tryz.func142 rfl rfl fun w => kg fun r1 => ?_; refine Jc rfl rfl rfl Jv7 h1 oR (ko ?_)
 refine J0 6 rfl (fun gb => ?_) (fun gb => ?_) <;> (try simp only [ZZ] at gb) <;> first | (refine LR rfl (Jl (vs := [_, _, _]) rfl (kn 0 rfl) rfl rfl rfl rfl) ?_) | (refine LK rfl ?_)
 all_goals first | (refine Jc rfl rfl rfl (enters_of Tryz.func182 m5 rfl) (h2 m8) oR ?_) | refine LK rfl ?_
 all_goals (
  refine Nb fun w1 hs1 => ?_
  simp_all [JC, JK]
  skip)
theorem Jsp {k n : Int} {p : Pl} {ins : List Ty} (ht : Ty.In R (.mk k n p ins)) (hsub : ∀ x ∈ ins, PureR Tryz.prog 183 [x.val].toArray (.int .i64 (JV x)) R) (hpos : ∀ x ∈ ins, 1 ≤ JV x) (hb : Wj ins ≤ 2251799813685248) :
  PureR Tryz.prog 214 [Ty.val (.mk k n p ins)].toArray (.int .i64 (Wj ins)) R := by
 cases ht with
 | mk hk hn hl hs hi =>
 have hdp : ∀ i, 0 ≤ Wj (ins.drop i) := fun i => by
  have : ∀ l : List Ty, (∀ x ∈ l, 1 ≤ JV x) → 0 ≤ Wj l := by
   intro l
   induction l with
   | nil => intro _; rw [Wj]; omega
   | cons x xs ih => intro h; rw [Wj]; have h1 := h x me; have h2 := ih fun y hy => h y (by simp [hy]); omega
  exact this _ fun x hx => hpos x (List.mem_of_mem_drop hx)
 refine Ja Tryz.func214 rfl rfl fun w => Mw fun r1 => ?_; refine XN 13 [0] rfl rfl (gY ?_); refine Jw (σ := Nat × Int) (fun s => s.1 ≤ ins.length ∧ 0 ≤ s.2 ∧ s.2 + Wj (ins.drop s.1) = Wj ins) (fun s => [(3, .int .i64 s.2), (7, KB ins.length p), (8, .int .i64 (ins.length : Int)), (9, .int .i64 (s.1 : Int))]) (fun _ => []) (fun _ _ _ => True) (fun s => ins.length - s.1) (0, 0) ⟨by omega, by omega, by simp⟩ (lK rfl) (List.nil_sublist _) (fun _ _ h => h) ?_; rintro ⟨i, m⟩ ⟨hi1, hm, hinv⟩; simp only at hinv hi1 hm; refine Nd ?_; refine cD (fun g => ?_) fun g => ?_
 refine kF ?_
 obtain ⟨y, hy, hmem⟩ := Qz Mn
 have hdi := hdp (i + 1)
 have hyp := hpos y hmem
 rw [Yn hy, Wj] at hinv; refine Hf ?_; refine kc ?_; refine LR rfl (KV oR rfl hs hy rfl rfl) (LN rfl fun r2 => gI ?_); refine Jc rfl rfl rfl (enters_of Tryz.func183 m5 rfl) (hsub y hmem) oR (WR rfl (Jh m0 m0 (JM 6 rfl ?_))); refine My ?_; exact Jo (i + 1, m + JV y) ⟨by omega, by simp only; omega, by simp only; omega⟩ ml (lK rfl) (List.nil_sublist _) (fun _ _ h => h)
 ·refine HG fun w1 hs1 => ?_; rw [← hinv, List.drop_of_length_le m0, Wj, Int.add_zero]; rfl
theorem Jn6 {k n : Int} {p : Pl} {ins : List Ty} {d : Int} (hd : 0 ≤ d) (hc : V7 (.mk k n p ins) d = 0) (hf : WD (.mk k n p ins) = true) : (∀ x ∈ ins, 1 ≤ JV x) ∧ Wj ins ≤ 2251799813685248 ∧ (k = 3 → 0 ≤ n * Wj ins ∧ n * Wj ins ≤ 2251799813685248) := by
 have hsz := xH _ d hd hc hf
 have hb5 := Jl7 (show (5 - d).toNat ≤ 5 by omega)
 obtain ⟨hk8, ho, h6, hci⟩ := QT hc
 rw [WD, Bool.and_eq_true] at hf
 have hfi := j6.1 hf.2
 have hsub : ∀ x ∈ ins, 1 ≤ JV x ∧ JV x ≤ bnd (5 - (d + 1)).toNat := fun x hx => xH x (d + 1) m0 (hci x hx) (hfi x hx)
 have hL := xG hsub
 refine ⟨fun x hx => (hsub x hx).1, ?_, fun h3 => ?_⟩
 ·by_cases he : ins = []
  ·subst he; rw [Wj]; omega
  ·have hd5 : d < 5 := by
    obtain ⟨x, hx⟩ := List.exists_mem_of_ne_nil _ he
    cases x with
    | mk a b c e => have := (QT (hci _ hx)).2.2.1; omega
   have hlen : ins.length ≤ 16 := by
    have h9 : k = 1 ∨ k = 2 ∨ k = 3 ∨ k = 4 ∨ k = 5 ∨ k = 6 ∨ k = 7 ∨ k = 8 := by omega
    unfold Kk at ho
    rcases h9 with rfl | rfl | rfl | rfl | rfl | rfl | rfl | rfl <;> simp [he] at ho <;> omega
   have e : (5 - d).toNat = (5 - (d + 1)).toNat + 1 := by omega
   rw [e, bnd] at hb5
   have hb2 := vG (5 - (d + 1)).toNat
   generalize bnd (5 - (d + 1)).toNat = B at *
   exact HP
 ·subst h3
  have : JV (.mk 3 n p ins) = n * Wj ins := by rw [JV, if_neg m6, if_neg m6, if_neg m6, if_pos rfl]
  rw [this] at hsz; omega
theorem Jx3 {k n : Int} {p : Pl} {ins : List Ty} {d : Int} (ht : Ty.In R (.mk k n p ins)) (hd : 0 ≤ d) (hc : V7 (.mk k n p ins) d = 0) (hf : WD (.mk k n p ins) = true)
  (hsub : ∀ x ∈ ins, PureR Tryz.prog 183 [x.val].toArray (.int .i64 (JV x)) R) : Enters Tryz.prog (Jn3 k) ∧ PureR Tryz.prog (Jn3 k) [Ty.val (.mk k n p ins)].toArray (.int .i64 (JV (.mk k n p ins))) R := by
 obtain ⟨hpos, hb, h3⟩ := Jn6 hd hc hf
 have hp := Jsp ht hsub hpos hb
 obtain ⟨hk8, ho, h6, hci⟩ := QT hc
 rw [WD, Bool.and_eq_true] at hf
 have hne : (k ≠ 4 ∧ k ≠ 6) ∧ k ≠ 8 := by simpa using hf.1
 have h9 : k = 1 ∨ k = 2 ∨ k = 3 ∨ k = 5 ∨ k = 7 := by omega
 rcases h9 with rfl | rfl | rfl | rfl | rfl
 refine ⟨enters_of Tryz.func202 m5 rfl, ?_⟩
 show PureR Tryz.prog 202 _ _ R
 rw [JV, if_pos rfl]; refine Ja Tryz.func202 rfl rfl fun w => ?_; exact Gd
 refine ⟨enters_of Tryz.func207 m5 rfl, ?_⟩
 show PureR Tryz.prog 207 _ _ R
 rw [JV, if_neg m6, if_pos rfl]; refine Ja Tryz.func207 rfl rfl fun w => Mw fun r1 => ?_; refine Jy 9 rfl ?_; exact MK
 refine ⟨enters_of Tryz.func213 m5 rfl, ?_⟩
 show PureR Tryz.prog 213 _ _ R
 have h3' := h3 rfl
 rw [JV, if_neg m6, if_neg m6, if_neg m6, if_pos rfl]; refine Ja Tryz.func213 rfl rfl fun w => Mw fun r1 => ?_; refine kA ?_; refine JI 6 m5 m5 ?_
 refine N4 ?_; refine Jb rfl rfl rfl (Jl (vs := [_, _, _]) rfl (kn 0 rfl) rfl rfl rfl rfl) (Xy rfl rfl rfl (enters_of Tryz.func214 m5 rfl) hp oR (Mz ?_)); refine VS m0 m0 (Nz ?_); exact H3
 refine ⟨enters_of Tryz.func220 m5 rfl, ?_⟩
 show PureR Tryz.prog 220 _ _ R
 have hbit : 1 ≤ n ∧ n ≤ 512 := by simp [Kk] at ho; omega
 rw [JV, if_neg m6, if_neg m6, if_pos rfl]; refine Ja Tryz.func220 rfl rfl fun w => Mw fun r1 => ?_; refine XN 8 [0] rfl rfl (Jh m0 m0 (WR rfl (Jh m0 m0 ?_))); refine WR rfl (Jlf m0 m0 m0 (Jy 4 rfl ?_)); refine N2 fun w1 hs1 => ?_; exact ⟨congrArg (fun z => Ending.returned (Value.int .i64 z)) m0, hs1.keep⟩
 ·refine ⟨enters_of Tryz.func225 m5 rfl, ?_⟩
  show PureR Tryz.prog 225 _ _ R
  rw [JV, if_neg m6, if_neg m6, if_neg m6, if_neg m6]; refine Ja Tryz.func225 rfl rfl fun w => kg fun r1 => ?_; refine Jc rfl rfl rfl (enters_of Tryz.func214 m5 rfl) hp oR ?_; exact MY
theorem Jv9 (ht : t.In R) : ∀ d : Int, 0 ≤ d → V7 t d = 0 → WD t = true → PureR Tryz.prog 183 [t.val].toArray (.int .i64 (JV t)) R := by
 induction ht with
 | @mk k n p ins hk hn hl hs hi ih =>
 intro d hd hc hf
 obtain ⟨hk8, ho, h6, hci⟩ := QT hc
 have hkk := W7.2 hk8
 have hf0 := hf
 rw [WD, Bool.and_eq_true] at hf0
 have hfi := j6.1 hf0.2
 have hz := Jx3 (.mk hk hn hl hs hi : Ty.In R (.mk k n p ins)) hd hc hf fun x hx => ih x hx (d + 1) m0 (hci x hx) (hfi x hx)
 have hvb : (isK k && !Jfw k) = true := by rw [hkk, Jh2 hkk]; exact hf0.1
 refine Ja Tryz.func183 rfl rfl fun w => Mw fun r1 => ?_; refine kA ?_
 refine JU [] [(0, .grow (Qu 0 (fun r : Nat => Value.map (some r)) (fun r => [(r, Jj2)]))), (1, .pure), (4, .pure), (7, .pure)] 8 [1, 2, 5, 0, 3, 4, 6, 7] m5 m5 m7 ?_
 refine Gm ?_; refine KW (k := 5) rfl rfl rfl rfl rfl (Jl (vs := [_, _, _]) rfl (kn 0 rfl) rfl rfl rfl rfl) (MQ fun mr => ?_); refine WE (Jh1 hvb) (Ql (k := 6) rfl rfl rfl rfl rfl hz.1 hz.2 oR (Jm (k := 7) rfl rfl rfl rfl rfl (fun _ hS => (JH rfl)) (Kz ?_))); exact H3
theorem Jfz (ht : t.In R) : PureR Tryz.prog 143 [t.val].toArray (.int .i64 (ws t)) R := by
 have h1 := Jar ht
 have h2 := Jv9 ht 0 m0
 obtain ⟨k, n, p, ins⟩ := t
 refine Ja Tryz.func143 rfl rfl fun w => Mw fun r1 => ?_; refine gB ?_; refine MD ?_; refine Jc rfl rfl rfl Jnq h1 oR (Nw ?_); refine cD (fun g => ?_) fun g => ?_
 refine NW fun w1 hs1 => ?_
 simp_all [ws, JK]
 ·refine gD ?_; refine MD ?_; refine Jc rfl rfl rfl (enters_of Tryz.func183 m5 rfl) (h2 (Xm.1 m8).1 (Xm.1 m8).2) oR (HO fun w1 hs1 => ?_)
  simp_all [ws, JK]
def WY (r : Nat) (v : Vl) : Nat × Obj := (r, .cells v.cells.toArray 81 (0, 0))
def zVl : Vl := .mk 0 0 0 0 [] none [] none 0
def clV (f : FuncId) (r : Nat) : Value := .func (.func f) #[] #[.pointer (some ⟨r, 0, none⟩)]
def Jde (f : FuncId) (v out : Vl) : Prop := ∀ r1 rr : Nat, r1 ≠ rr → PureMR Tryz.prog f [.pointer (some ⟨rr, 0, none⟩), .pointer (some ⟨r1, 0, none⟩)].toArray (.tuple #[]) rr (WY rr zVl).2 (WY rr out).2 [WY r1 v]
theorem Jn7 (a b c d : Nat) (bits : List Bool) (pb : Pl) (items : List Vl) (pi : Pl) (pick : Int) : Jde 251 (.mk a b c d bits pb items pi pick) (.mk a b c d [] none [] none 0) := fun r1 rr hne => by
 refine Xh (fun p hp => by rw [List.mem_singleton.1 hp]; exact hne) Tryz.func251 rfl rfl fun w => JT (Jr 3 rfl (LR rfl (Jl (vs := [_, _, _, _]) rfl (J2 (k := 0) rfl) rfl rfl rfl rfl) (LS 2 [] rfl rfl ?_)))
 refine LT 0 rfl rfl (Jy 1 rfl (Qw rfl rfl .nil (fun w1 hs1 => ?_))); exact ⟨rfl, _, List.mem_cons_self, hs1⟩
theorem Jsq (a b c d : Nat) (bits : List Bool) (pb : Pl) (items : List Vl) (pi : Pl) (pick : Int) : Jde 254 (.mk a b c d bits pb items pi pick) (.mk 0 0 0 0 [] none items pi 0) := fun r1 rr hne => by
 refine Xh (fun p hp => by rw [List.mem_singleton.1 hp]; exact hne) Tryz.func254 rfl rfl fun w => JT (Jr 3 rfl (LR rfl (Jd rfl (J2 (k := 0) rfl) rfl rfl) (LS 2 [] rfl rfl ?_)))
 refine LT 0 rfl rfl (Jy 1 rfl (Qw rfl rfl .nil (fun w1 hs1 => ?_))); exact ⟨rfl, _, List.mem_cons_self, hs1⟩
theorem Jwa (a b c d : Nat) (bits : List Bool) (pb : Pl) (items : List Vl) (pi : Pl) (pick : Int) : Jde 255 (.mk a b c d bits pb items pi pick) (.mk 0 0 0 0 bits pb [] none 0) := fun r1 rr hne => by
 refine Xh (fun p hp => by rw [List.mem_singleton.1 hp]; exact hne) Tryz.func255 rfl rfl fun w => JT (Jr 3 rfl (LR rfl (Jd rfl (J2 (k := 0) rfl) rfl rfl) (LS 2 [] rfl rfl ?_)))
 refine LT 0 rfl rfl (Jy 1 rfl (Qw rfl rfl .nil (fun w1 hs1 => ?_))); exact ⟨rfl, _, List.mem_cons_self, hs1⟩
theorem Jwb (a b c d : Nat) (bits : List Bool) (pb : Pl) (items : List Vl) (pi : Pl) (pick : Int) : Jde 256 (.mk a b c d bits pb items pi pick) (.mk 0 0 0 0 [] none items pi pick) := fun r1 rr hne => by
 refine Xh (fun p hp => by rw [List.mem_singleton.1 hp]; exact hne) Tryz.func256 rfl rfl fun w => JT ?_
 refine JU [] [(0, .pure), (1, .pure), (2, .pure), (3, .pure), (4, .pure), (5, .pure), (6, .pure), (7, .pure), (8, .turn), (9, .pure), (10, .pure), (11, .turn)] 12 [0, 1, 2, 3, 4, 5, 6, 7, 8, 9, 10, 11] m5 m5 m7 (Jm (k := 0) rfl rfl rfl rfl rfl (fun _ hS => (Je rfl)) (Jm (k := 1) rfl rfl rfl rfl rfl (fun _ hS => (Je rfl)) ?_))
 refine Jm (k := 2) rfl rfl rfl rfl rfl (fun _ hS => (J7 rfl rfl rfl)) (Jm (k := 3) rfl rfl rfl rfl rfl (fun _ hS => (Jd rfl (J2 (k := 0) rfl) rfl rfl)) ?_)
 refine Jm (k := 4) rfl rfl rfl rfl rfl (fun _ hS => (J7 rfl rfl rfl)) (Jm (k := 5) rfl rfl rfl rfl rfl (fun _ hS => (Jd rfl (J2 (k := 0) rfl) rfl rfl)) (Jm (k := 6) rfl rfl rfl rfl rfl (fun _ hS => (J1 rfl rfl rfl)) ?_))
 refine Jm (k := 7) rfl rfl rfl rfl rfl (fun _ hS => (J7 rfl rfl rfl)) ?_
 refine WG (k := 8) (q := 0) rfl rfl rfl rfl rfl rfl rfl rfl rfl mf mg m7 (Jm (k := 9) rfl rfl rfl rfl rfl (fun _ hS => (J1 rfl rfl rfl)) ?_)
 refine Jm (k := 10) rfl rfl rfl rfl rfl (fun _ hS => (J7 rfl rfl rfl)) ?_
 refine WG (k := 11) (q := 0) rfl rfl rfl rfl rfl rfl rfl rfl rfl mf mg m7 (Kz (Jy 1 rfl (Qw rfl rfl .nil (fun w1 hs1 => ?_)))); exact ⟨rfl, _, List.mem_cons_self, hs1⟩
theorem Jas  {out : Vl} {f : FuncId} (ef : Enters Tryz.prog f) (hv : v.In R) (ho : out.In R) (hk : Jde f v out) (hr : WY rv v ∈ R) : PureR Tryz.prog 250 [v.val, clV f rv].toArray (.bool (Xz v out)) R := by
 have hsm := Jv8 hv out ho
 obtain ⟨a, b, c, d, bits, pb, items, pi, pick⟩ := v
 obtain ⟨a', b', c', d', bits', pb', items', pi', pick'⟩ := out
 refine Ja Tryz.func250 rfl rfl fun w => Mw fun r1 => ?_; refine N5 ?_; refine LN rfl fun r2 => N5 ?_; refine Jjb (k := 0) rfl rfl rfl ef rfl (fun hne => hk rv r2 (hne _ List.mem_cons_self)) (fun q hq => by rw [List.mem_singleton.1 hq]; exact hr) rfl (XN 6 [1, 0] rfl rfl (Jc rfl rfl rfl (enters_of Tryz.func265 m5 rfl) hsm oR ?_)); exact MY
theorem vN  {a : Nat} {bits : List Bool} {items : List Vl} {pick : Int} (h : Vl.In R (.mk a b c d bits pb items pi pick)) : Vl.In R (.mk a b c d [] none [] none 0) ∧ Vl.In R (.mk 0 0 0 0 [] none items pi 0) ∧ Vl.In R (.mk 0 0 0 0 bits pb [] none 0) ∧ Vl.In R (.mk 0 0 0 0 [] none items pi pick) := by
 cases h with
 | mk ha hb hc hd hlb hsb hl hs hp hi =>
 have z : XJ 0 := by unfold XJ; omega
 have i0 : qg 0 := by unfold qg; omega
 refine ⟨.mk ha hb hc hd me rfl me rfl i0 me, .mk z z z z me rfl hl hs i0 hi, .mk z z z z hlb hsb me rfl i0 me, .mk z z z z me rfl hl hs hp hi⟩
theorem wZ (l : List Vl) : VT l l = true := Wu.2 ⟨rfl, fun i x y hx hy => by rw [hx] at hy; cases hy; exact Je7 x⟩
theorem zD (l : List Vl) : VT l [] = decide (l.length = 0) := by cases l <;> simp [VT]
theorem Jdf {a : Nat} {bits : List Bool} {items : List Vl} {pick : Int} : Xz (.mk a b c d bits pb items pi pick) (.mk a b c d [] none [] none 0) = Vd (.mk a b c d bits pb items pi pick) true false false false := by
 rw [Zf, Qg, zD]
 by_cases h1 : bits = [] <;> by_cases h2 : items = [] <;> by_cases h3 : pick = 0 <;> simp [h1, h2, h3]
theorem Jf0 {a : Nat} {bits : List Bool} {items : List Vl} {pick : Int} : Xz (.mk a b c d bits pb items pi pick) (.mk 0 0 0 0 [] none items pi 0) = Vd (.mk a b c d bits pb items pi pick) false false true false := by
 rw [Zf, Qg, wZ]
 by_cases h1 : bits = [] <;> by_cases h3 : pick = 0 <;> simp [h1, h3]
theorem Jj3 {a : Nat} {bits : List Bool} {items : List Vl} {pick : Int} : Xz (.mk a b c d bits pb items pi pick) (.mk 0 0 0 0 bits pb [] none 0) = Vd (.mk a b c d bits pb items pi pick) false true false false := by
 rw [Zf, Qg, zD]
 by_cases h2 : items = [] <;> by_cases h3 : pick = 0 <;> simp [h2, h3]
theorem Jj4 {a : Nat} {bits : List Bool} {items : List Vl} {pick : Int} : Xz (.mk a b c d bits pb items pi pick) (.mk 0 0 0 0 [] none items pi pick) = Vd (.mk a b c d bits pb items pi pick) false false true true := by
 rw [Zf, Qg, wZ]
 by_cases h1 : bits = [] <;> simp [h1]
theorem WM (hv : v.In R) : PureR Tryz.prog 200 [v.val].toArray (.bool (Vd v true false false false)) R := by
 obtain ⟨a, b, c, d, bits, pb, items, pi, pick⟩ := v
 have hb4 := vN hv
 refine Ja Tryz.func200 rfl rfl fun w => JT ?_; rw [← Jdf (pb := pb) (pi := pi)]; refine H4 fun r1 => ?_
 refine Jc (Rl := WY r1 (.mk a b c d bits pb items pi pick) :: R) rfl rfl rfl Jhy (Jas (enters_of Tryz.func251 m5 rfl) (hv.mono fun q hq => List.mem_cons_of_mem _ hq) (hb4.1.mono fun q hq => List.mem_cons_of_mem _ hq) (Jn7 a b c d bits pb items pi pick) List.mem_cons_self) (fun q hq => by rcases List.mem_cons.1 hq with rfl | hq; exact .inl List.mem_cons_self; exact .inr hq) ?_; exact MY
theorem XV (hv : v.In R) : PureR Tryz.prog 212 [v.val].toArray (.bool (Vd v false false true false)) R := by
 obtain ⟨a, b, c, d, bits, pb, items, pi, pick⟩ := v
 have hb4 := vN hv
 refine Ja Tryz.func212 rfl rfl fun w => JT ?_; rw [← Jf0 (pb := pb) (pi := pi)]; refine H4 fun r1 => ?_
 refine Jc (Rl := WY r1 (.mk a b c d bits pb items pi pick) :: R) rfl rfl rfl Jhy (Jas (enters_of Tryz.func254 m5 rfl) (hv.mono fun q hq => List.mem_cons_of_mem _ hq) (hb4.2.1.mono fun q hq => List.mem_cons_of_mem _ hq) (Jsq a b c d bits pb items pi pick) List.mem_cons_self) (fun q hq => by rcases List.mem_cons.1 hq with rfl | hq; exact .inl List.mem_cons_self; exact .inr hq) ?_; exact MY
theorem Zk (hv : v.In R) : PureR Tryz.prog 219 [v.val].toArray (.bool (Vd v false true false false)) R := by
 obtain ⟨a, b, c, d, bits, pb, items, pi, pick⟩ := v
 have hb4 := vN hv
 refine Ja Tryz.func219 rfl rfl fun w => JT ?_; rw [← Jj3 (pb := pb) (pi := pi)]; refine H4 fun r1 => ?_
 refine Jc (Rl := WY r1 (.mk a b c d bits pb items pi pick) :: R) rfl rfl rfl Jhy (Jas (enters_of Tryz.func255 m5 rfl) (hv.mono fun q hq => List.mem_cons_of_mem _ hq) (hb4.2.2.1.mono fun q hq => List.mem_cons_of_mem _ hq) (Jwa a b c d bits pb items pi pick) List.mem_cons_self) (fun q hq => by rcases List.mem_cons.1 hq with rfl | hq; exact .inl List.mem_cons_self; exact .inr hq) ?_; exact MY
theorem Zl (hv : v.In R) : PureR Tryz.prog 228 [v.val].toArray (.bool (Vd v false false true true)) R := by
 obtain ⟨a, b, c, d, bits, pb, items, pi, pick⟩ := v
 have hb4 := vN hv
 refine Ja Tryz.func228 rfl rfl fun w => JT ?_; rw [← Jj4 (pb := pb) (pi := pi)]; refine H4 fun r1 => ?_
 refine Jc (Rl := WY r1 (.mk a b c d bits pb items pi pick) :: R) rfl rfl rfl Jhy (Jas (enters_of Tryz.func256 m5 rfl) (hv.mono fun q hq => List.mem_cons_of_mem _ hq) (hb4.2.2.2.mono fun q hq => List.mem_cons_of_mem _ hq) (Jwb a b c d bits pb items pi pick) List.mem_cons_self) (fun q hq => by rcases List.mem_cons.1 hq with rfl | hq; exact .inl List.mem_cons_self; exact .inr hq) ?_; exact MY
theorem vc {l : List Nat} (hl : WOk l) : (!zi [1, 0, 0, 0] l) = (decide (l = [0, 0, 0, 0]) || decide (l = [1, 0, 0, 0])) := by
 have h0 : WOk [0, 0, 0, 0] := ⟨rfl, fun x hx => by simp at hx; omega⟩
 have h1 : WOk [1, 0, 0, 0] := ⟨rfl, fun x hx => by simp at hx; omega⟩
 rw [Jl2 h1 hl, show wN [1, 0, 0, 0] = 1 from rfl]
 by_cases e0 : l = [0, 0, 0, 0]
 ·subst e0; rfl
 by_cases e1 : l = [1, 0, 0, 0]
 ·subst e1; rfl
 have n0 : wN l ≠ 0 := fun h => e0 (Jlz hl h0 h)
 have n1 : wN l ≠ 1 := fun h => e1 (Jlz hl h1 h)
 simp [e0, e1]
 omega
theorem O_1 {n : Int} {p : Pl} {ins : List Ty} (ht : Ty.In R (.mk 1 n p ins)) (hv : v.In R) : PureR Tryz.prog 199 [Ty.val (.mk 1 n p ins), v.val].toArray (.bool (zC 1 n ins.length v)) R := by
 have hnu := WM hv
 have hit := XV hv
 have hbi := Zk hv
 have hpk := Zl hv
 cases ht with
 | mk hk hn hlt hst hit0 =>
 cases hv with
 | @mk a b c d bits pb items pi pick ha hb hc hd hlb hsb hl hs hp hi =>
 have hw : WOk [a, b, c, d] := ⟨rfl, fun x hx => by simp at hx; rcases hx with rfl | rfl | rfl | rfl <;> assumption⟩
 have hw1 : WOk [1, 0, 0, 0] := ⟨rfl, fun x hx => by simp at hx; omega⟩
 have hl1 := vc hw
 refine NC ?_; refine Ja Tryz.func199 rfl rfl fun w => ML fun r1 r2 => ?_; refine kA ?_; refine JI 12 m5 m5 (D0 ?_); refine Mx ?_
 refine Y2 7 rfl (fun gb => ?_) (fun gb => ?_) <;> (try simp only [ZZ] at gb) <;> first | (refine Jb rfl rfl rfl (J7 rfl rfl rfl) ?_) | (refine J9 rfl rfl rfl ?_)
 all_goals refine Hm ?_
 all_goals first | (refine Qd rfl rfl rfl (enters_of Tryz.func201 m5 rfl) (jL hw) ?_) | refine J9 rfl rfl rfl ?_
 all_goals first | refine Jb rfl rfl rfl (JQ rfl rfl) ?_ | refine J9 rfl rfl rfl ?_
 all_goals refine kp ?_
 all_goals first | refine Jb rfl rfl rfl (Jd rfl (kn 1 rfl) rfl rfl) ?_ | refine J9 rfl rfl rfl ?_
 all_goals first | refine Jb rfl rfl rfl (J1 rfl rfl rfl) ?_ | refine J9 rfl rfl rfl ?_
 all_goals refine Nt ?_
 all_goals (
  refine Jb rfl rfl rfl (JH rfl) (JY (Jy 1 rfl (qN 2 rfl ?_))); refine Mv fun w1 hs1 => ?_
  simp_all [JK]
  skip)
theorem O_2 {n : Int} {p : Pl} {ins : List Ty} (ht : Ty.In R (.mk 2 n p ins)) (hv : v.In R) : PureR Tryz.prog 205 [Ty.val (.mk 2 n p ins), v.val].toArray (.bool (zC 2 n ins.length v)) R := by
 have hnu := WM hv
 have hit := XV hv
 have hbi := Zk hv
 have hpk := Zl hv
 cases ht with
 | mk hk hn hlt hst hit0 =>
 cases hv with
 | @mk a b c d bits pb items pi pick ha hb hc hd hlb hsb hl hs hp hi =>
 have hw : WOk [a, b, c, d] := ⟨rfl, fun x hx => by simp at hx; rcases hx with rfl | rfl | rfl | rfl <;> assumption⟩
 have hw1 : WOk [1, 0, 0, 0] := ⟨rfl, fun x hx => by simp at hx; omega⟩
 have hl1 := vc hw
 refine NC ?_; refine Ja Tryz.func205 rfl rfl fun w => ML fun r1 r2 => ?_; refine kA ?_; refine JI 10 m5 m5 (D0 ?_); refine Mx ?_
 refine Y2 7 rfl (fun gb => ?_) (fun gb => ?_) <;> (try simp only [ZZ] at gb) <;> first | (refine Qd rfl rfl rfl Jnk (Ys ..) ?_) | (refine J9 rfl rfl rfl ?_)
 all_goals refine kp ?_
 all_goals refine Hm ?_
 all_goals first | (refine Qd rfl rfl rfl (enters_of Tryz.func206 m5 rfl) (Jc9 hw1 hw) ?_) | refine J9 rfl rfl rfl ?_
 all_goals first | refine Jb rfl rfl rfl (J1 rfl rfl rfl) ?_ | refine J9 rfl rfl rfl ?_
 all_goals refine Nt ?_
 all_goals (
  refine Jb rfl rfl rfl (JH rfl) (JY (Jy 1 rfl (qN 2 rfl ?_))); refine Mv fun w1 hs1 => ?_
  simp_all [JK]
  skip)
theorem O_3 {n : Int} {p : Pl} {ins : List Ty} (ht : Ty.In R (.mk 3 n p ins)) (hv : v.In R) : PureR Tryz.prog 211 [Ty.val (.mk 3 n p ins), v.val].toArray (.bool (zC 3 n ins.length v)) R := by
 have hnu := WM hv
 have hit := XV hv
 have hbi := Zk hv
 have hpk := Zl hv
 cases ht with
 | mk hk hn hlt hst hit0 =>
 cases hv with
 | @mk a b c d bits pb items pi pick ha hb hc hd hlb hsb hl hs hp hi =>
 have hw : WOk [a, b, c, d] := ⟨rfl, fun x hx => by simp at hx; rcases hx with rfl | rfl | rfl | rfl <;> assumption⟩
 have hw1 : WOk [1, 0, 0, 0] := ⟨rfl, fun x hx => by simp at hx; omega⟩
 have hl1 := vc hw
 refine NC ?_; refine Ja Tryz.func211 rfl rfl fun w => ML fun r1 r2 => ?_; refine MI ?_; refine Jc rfl rfl rfl Jnw hit oR (QV rfl ?_)
 refine J0 7 rfl (fun gb => ?_) (fun gb => ?_) <;> (try simp only [ZZ] at gb) <;> first | (refine LR rfl (J7 rfl rfl rfl) ?_) | (refine LK rfl ?_)
 all_goals refine NU ?_
 all_goals refine gn ?_
 all_goals refine MH ?_
 all_goals (
  refine LW 4 [1] rfl rfl (Jy 1 rfl (qN 2 rfl ?_)); refine Mv fun w1 hs1 => ?_
  simp_all [JK]
  all_goals first | done | rfl | omega | (rw [Bool.eq_iff_iff]; simp only [Bool.and_eq_true, Bool.or_eq_true, decide_eq_true_eq, beq_iff_eq]; omega) | (simp only [decide_eq_true_eq, decide_eq_false_iff_not]; omega)
  skip)
theorem O_4 {n : Int} {p : Pl} {ins : List Ty} (ht : Ty.In R (.mk 4 n p ins)) (hv : v.In R) : PureR Tryz.prog 216 [Ty.val (.mk 4 n p ins), v.val].toArray (.bool (zC 4 n ins.length v)) R := by
 have hnu := WM hv
 have hit := XV hv
 have hbi := Zk hv
 have hpk := Zl hv
 cases ht with
 | mk hk hn hlt hst hit0 =>
 cases hv with
 | @mk a b c d bits pb items pi pick ha hb hc hd hlb hsb hl hs hp hi =>
 have hw : WOk [a, b, c, d] := ⟨rfl, fun x hx => by simp at hx; rcases hx with rfl | rfl | rfl | rfl <;> assumption⟩
 have hw1 : WOk [1, 0, 0, 0] := ⟨rfl, fun x hx => by simp at hx; omega⟩
 have hl1 := vc hw
 refine NC ?_; refine Ja Tryz.func216 rfl rfl fun w => ML fun r1 r2 => ?_; refine MI ?_; refine Jc rfl rfl rfl Jnw hit oR (HO fun w1 hs1 => ?_)
 simp_all [JK]
theorem O_5 {n : Int} {p : Pl} {ins : List Ty} (ht : Ty.In R (.mk 5 n p ins)) (hv : v.In R) : PureR Tryz.prog 218 [Ty.val (.mk 5 n p ins), v.val].toArray (.bool (zC 5 n ins.length v)) R := by
 have hnu := WM hv
 have hit := XV hv
 have hbi := Zk hv
 have hpk := Zl hv
 cases ht with
 | mk hk hn hlt hst hit0 =>
 cases hv with
 | @mk a b c d bits pb items pi pick ha hb hc hd hlb hsb hl hs hp hi =>
 have hw : WOk [a, b, c, d] := ⟨rfl, fun x hx => by simp at hx; rcases hx with rfl | rfl | rfl | rfl <;> assumption⟩
 have hw1 : WOk [1, 0, 0, 0] := ⟨rfl, fun x hx => by simp at hx; omega⟩
 have hl1 := vc hw
 refine NC ?_; refine Ja Tryz.func218 rfl rfl fun w => ML fun r1 r2 => ?_; refine MI ?_; refine Jc rfl rfl rfl (enters_of Tryz.func219 m5 rfl) hbi oR (QV rfl ?_)
 refine J0 7 rfl (fun gb => ?_) (fun gb => ?_) <;> (try simp only [ZZ] at gb) <;> first | (refine LR rfl (J7 rfl rfl rfl) ?_) | (refine LK rfl ?_)
 all_goals refine NU ?_
 all_goals first | refine LR rfl (Ju rfl hsb rfl) ?_ | refine LK rfl ?_
 all_goals refine MH ?_
 all_goals (
  refine LW 4 [1] rfl rfl (Jy 1 rfl (qN 2 rfl ?_)); refine Mv fun w1 hs1 => ?_
  simp_all [JK]
  all_goals first | done | rfl | omega | (rw [Bool.eq_iff_iff]; simp only [Bool.and_eq_true, Bool.or_eq_true, decide_eq_true_eq, beq_iff_eq]; omega) | (simp only [decide_eq_true_eq, decide_eq_false_iff_not]; omega)
  skip)
theorem O_6 {n : Int} {p : Pl} {ins : List Ty} (ht : Ty.In R (.mk 6 n p ins)) (hv : v.In R) : PureR Tryz.prog 222 [Ty.val (.mk 6 n p ins), v.val].toArray (.bool (zC 6 n ins.length v)) R := by
 have hnu := WM hv
 have hit := XV hv
 have hbi := Zk hv
 have hpk := Zl hv
 cases ht with
 | mk hk hn hlt hst hit0 =>
 cases hv with
 | @mk a b c d bits pb items pi pick ha hb hc hd hlb hsb hl hs hp hi =>
 have hw : WOk [a, b, c, d] := ⟨rfl, fun x hx => by simp at hx; rcases hx with rfl | rfl | rfl | rfl <;> assumption⟩
 have hw1 : WOk [1, 0, 0, 0] := ⟨rfl, fun x hx => by simp at hx; omega⟩
 have hl1 := vc hw
 refine NC ?_; refine Ja Tryz.func222 rfl rfl fun w => ML fun r1 r2 => ?_; refine MI ?_; refine Jc rfl rfl rfl (enters_of Tryz.func219 m5 rfl) hbi oR (HO fun w1 hs1 => ?_)
 simp_all [JK]
theorem O_7 {n : Int} {p : Pl} {ins : List Ty} (ht : Ty.In R (.mk 7 n p ins)) (hv : v.In R) : PureR Tryz.prog 224 [Ty.val (.mk 7 n p ins), v.val].toArray (.bool (zC 7 n ins.length v)) R := by
 have hnu := WM hv
 have hit := XV hv
 have hbi := Zk hv
 have hpk := Zl hv
 cases ht with
 | mk hk hn hlt hst hit0 =>
 cases hv with
 | @mk a b c d bits pb items pi pick ha hb hc hd hlb hsb hl hs hp hi =>
 have hw : WOk [a, b, c, d] := ⟨rfl, fun x hx => by simp at hx; rcases hx with rfl | rfl | rfl | rfl <;> assumption⟩
 have hw1 : WOk [1, 0, 0, 0] := ⟨rfl, fun x hx => by simp at hx; omega⟩
 have hl1 := vc hw
 refine NC ?_; refine Ja Tryz.func224 rfl rfl fun w => ML fun r1 r2 => ?_; refine MI ?_; refine Jc rfl rfl rfl Jnw hit oR (QV rfl ?_)
 refine J0 7 rfl (fun gb => ?_) (fun gb => ?_) <;> (try simp only [ZZ] at gb) <;> first | (refine LR rfl (J7 rfl rfl rfl) ?_) | (refine LK rfl ?_)
 all_goals refine NU ?_
 all_goals refine gn ?_
 all_goals refine MH ?_
 all_goals refine LW 1 [1] rfl rfl ?_
 all_goals first | refine LR rfl (Ju rfl hst rfl) ?_ | refine LK rfl ?_
 all_goals (
  refine Hk ?_; refine Mv fun w1 hs1 => ?_
  simp_all [JK]
  all_goals first | done | rfl | omega | (rw [Bool.eq_iff_iff]; simp only [Bool.and_eq_true, Bool.or_eq_true, decide_eq_true_eq, beq_iff_eq]; omega) | (simp only [decide_eq_true_eq, decide_eq_false_iff_not]; omega)
  skip)
theorem O_8 {n : Int} {p : Pl} {ins : List Ty} (ht : Ty.In R (.mk 8 n p ins)) (hv : v.In R) : PureR Tryz.prog 227 [Ty.val (.mk 8 n p ins), v.val].toArray (.bool (zC 8 n ins.length v)) R := by
 have hnu := WM hv
 have hit := XV hv
 have hbi := Zk hv
 have hpk := Zl hv
 cases ht with
 | mk hk hn hlt hst hit0 =>
 cases hv with
 | @mk a b c d bits pb items pi pick ha hb hc hd hlb hsb hl hs hp hi =>
 have hw : WOk [a, b, c, d] := ⟨rfl, fun x hx => by simp at hx; rcases hx with rfl | rfl | rfl | rfl <;> assumption⟩
 have hw1 : WOk [1, 0, 0, 0] := ⟨rfl, fun x hx => by simp at hx; omega⟩
 have hl1 := vc hw
 refine NC ?_; refine Ja Tryz.func227 rfl rfl fun w => ML fun r1 r2 => ?_; refine MI ?_; refine Jc rfl rfl rfl (enters_of Tryz.func228 m5 rfl) hpk oR (QV rfl ?_)
 refine J0 7 rfl (fun gb => ?_) (fun gb => ?_) <;> (try simp only [ZZ] at gb) <;> first | (refine LR rfl (J7 rfl rfl rfl) ?_) | (refine LK rfl ?_)
 all_goals refine NU ?_
 all_goals refine gn ?_
 all_goals refine LW 3 [] rfl rfl ?_
 all_goals first | refine LK rfl ?_ | (refine J0 13 rfl (fun gb => ?_) (fun gb => ?_) <;> (try simp only [ZZ] at gb) <;> first | (refine LR rfl (J7 rfl rfl rfl) ?_) | (refine LK rfl ?_))
 all_goals refine LW 4 [0] rfl rfl ?_
 all_goals first | refine LK rfl ?_ | (refine J0 18 rfl (fun gb => ?_) (fun gb => ?_) <;> (try simp only [ZZ] at gb) <;> first | (refine LR rfl (J7 rfl rfl rfl) ?_) | (refine LK rfl ?_))
 all_goals refine NU ?_
 all_goals refine MH ?_
 all_goals refine LW 1 [1] rfl rfl ?_
 all_goals first | refine LR rfl (Ju rfl hst rfl) ?_ | refine LK rfl ?_
 all_goals (
  refine Hk ?_; refine Mv fun w1 hs1 => ?_
  simp_all [JK]
  all_goals first | done | rfl | omega | (rw [Bool.eq_iff_iff]; simp only [Bool.and_eq_true, Bool.or_eq_true, decide_eq_true_eq, beq_iff_eq]; omega) | (simp only [decide_eq_true_eq, decide_eq_false_iff_not]; omega)
  skip)
theorem Jx4 {k n : Int} {p : Pl} {ins : List Ty} (ht : Ty.In R (.mk k n p ins)) (hv : v.In R) (h : isK k = true) : Enters Tryz.prog (ofF k) ∧ PureR Tryz.prog (ofF k) [Ty.val (.mk k n p ins), v.val].toArray (.bool (zC k n ins.length v)) R := by
 have := W7.1 h
 have : k = 1 ∨ k = 2 ∨ k = 3 ∨ k = 4 ∨ k = 5 ∨ k = 6 ∨ k = 7 ∨ k = 8 := by omega
 rcases this with rfl | rfl | rfl | rfl | rfl | rfl | rfl | rfl
 ·exact ⟨enters_of Tryz.func199 m5 rfl, O_1 ht hv⟩
 ·exact ⟨enters_of Tryz.func205 m5 rfl, O_2 ht hv⟩
 ·exact ⟨enters_of Tryz.func211 m5 rfl, O_3 ht hv⟩
 ·exact ⟨enters_of Tryz.func216 m5 rfl, O_4 ht hv⟩
 ·exact ⟨enters_of Tryz.func218 m5 rfl, O_5 ht hv⟩
 ·exact ⟨enters_of Tryz.func222 m5 rfl, O_6 ht hv⟩
 ·exact ⟨enters_of Tryz.func224 m5 rfl, O_7 ht hv⟩
 ·exact ⟨enters_of Tryz.func227 m5 rfl, O_8 ht hv⟩
def VK (r : Nat) (t : Ty) : Nat × Obj := (r, .cells t.cells.toArray 76 (0, 0))
instance : Inhabited Vl := ⟨zVl⟩
def XW (l : List Vl) (i : Nat) : Vl := l.getD i default
theorem XX {l : List Vl} (h : i < l.length) : l[i]? = some (XW l i) ∧ XW l i ∈ l := by
 unfold XW
 exact GL
theorem Jdg (t : Ty) (v : Vl) : PureE (α := Nat × Nat) Tryz.prog 162 [t.val, v.val].toArray (fun p => .func (.func 229) #[] #[.pointer (some ⟨p.2, 0, none⟩), .pointer (some ⟨p.1, 0, none⟩)])
  (fun p => [WY p.2 v, VK p.1 t]) := by
 obtain ⟨k, n, p, ins⟩ := t
 obtain ⟨a, b, c, d, bits, pb, items, pi, pick⟩ := v
 refine Vw Tryz.func162 rfl rfl fun w => ML fun r1 r2 => ?_; refine N5 ?_; exact Nl
def zE (k pick : Int) (ins : List Ty) (items : List Vl) (i : Nat) : List Value := [(JE k pick ins i).val, (XW items i).val]
theorem Jdh {k n : Int} {p : Pl} {ins : List Ty} {a : Nat} {bits : List Bool} {items : List Vl} {pick : Int} (hl : items.length ≤ 9223372036854775807) (hlt : ins.length ≤ 9223372036854775807) (hs : Seg R items.length (Qi items) pi) (hst : Seg R ins.length (xF ins) p)
    (hx : ∀ i, i < items.length → VX k pick i < ins.length) (hp8 : k = 8 → 0 ≤ pick) (rt rv : Nat) :
    xl Tryz.prog 229 [.pointer (some ⟨rv, 0, none⟩), .pointer (some ⟨rt, 0, none⟩)] (WY rv (.mk a b c d bits pb items pi pick) :: VK rt (.mk k n p ins) :: R) 0 (nxN (zE k pick ins items) items.length) (Jez items.length) := by
  have hs := hs.mono (R' := WY rv (.mk a b c d bits pb items pi pick) :: VK rt (.mk k n p ins) :: R) fun q hq => List.mem_cons_of_mem _ (List.mem_cons_of_mem _ hq)
  have hst := hst.mono (R' := WY rv (.mk a b c d bits pb items pi pick) :: VK rt (.mk k n p ins) :: R) fun q hq => List.mem_cons_of_mem _ (List.mem_cons_of_mem _ hq)
  refine Wr Tryz.func229 rfl rfl fun q xids w2 XI XF hY => JT (G3 ?_); refine gh ?_; refine gY ?_; refine Jw (σ := Nat) (fun i => i ≤ items.length) (fun i => [(0, .func (.yield q) #[] #[]), (1, .pointer (some ⟨rv, 0, none⟩)), (2, .pointer (some ⟨rt, 0, none⟩)), (8, KB items.length pi), (9, .int .i64 (items.length : Int)), (10, .int .i64 (i : Int))]) (fun _ => []) (fun i => XI i) (fun i => items.length - i) 0 (Nat.zero_le _) (lK rfl) (List.nil_sublist _) (fun _ _ h => h) ?_; intro i hi; refine Nd ?_; refine cD (fun g => ?_) fun g => ?_
  · refine kF ?_
    have hil : i < items.length := by omega
    have hix := XX hil
    have hty := Qp (hx i hil)
    refine N6 ?_; refine kc ?_; refine LR rfl (QH oR rfl hs hix.1 rfl rfl) (LN rfl fun r1 => QV rfl (Jk (k := 0) (n := 7) (ys := (XW items i).cells) rfl rfl rfl rfl rfl (XW items i).len rfl (XW items i).one rfl (JM 11 rfl ?_))); refine gi ?_; refine He ?_; refine cD (fun g => ?_) fun g => ?_
    · refine JS 7 rfl (MN ?_); refine JY (W9 (XT := XI (i + 1)) (XF := XF) rfl rfl rfl rfl (hY i (zE k pick ins items i) (i + 1) ⟨hil, rfl, rfl⟩) ?_ ?_)
      all_goals (
       refine G0 ?_; refine JA rfl (fun g => ?_) (fun g => ?_)
       · try exact Bool.noConfusion g
         all_goals try simp only [ZZ] at g
         all_goals (
          exact MB
          skip)
       · try exact Bool.noConfusion g
         all_goals try simp only [ZZ] at g
         all_goals (
          refine NT ?_; exact Na
          skip)
       skip)
    · refine Nd ?_; refine cD (fun g => ?_) fun g => ?_
      · refine N6 ?_; refine gh ?_; refine JR 5 rfl (MN ?_); refine JY (W9 (XT := XI (i + 1)) (XF := XF) rfl rfl rfl rfl (hY i (zE k pick ins items i) (i + 1) ⟨hil, rfl, rfl⟩) ?_ ?_)
        all_goals (
         refine G0 ?_; refine JA rfl (fun g => ?_) (fun g => ?_)
         · try exact Bool.noConfusion g
           all_goals try simp only [ZZ] at g
           all_goals (
            exact MB
            skip)
         · try exact Bool.noConfusion g
           all_goals try simp only [ZZ] at g
           all_goals (
            refine NT ?_; exact Na
            skip)
         skip)
      · refine JS 4 rfl (MN ?_); refine JY (W9 (XT := XI (i + 1)) (XF := XF) rfl rfl rfl rfl (hY i (zE k pick ins items i) (i + 1) ⟨hil, rfl, rfl⟩) ?_ ?_)
        all_goals (
         refine G0 ?_; refine JA rfl (fun g => ?_) (fun g => ?_)
         · try exact Bool.noConfusion g
           all_goals try simp only [ZZ] at g
           all_goals (
            exact MB
            skip)
         · try exact Bool.noConfusion g
           all_goals try simp only [ZZ] at g
           all_goals (
            refine NT ?_; exact Na
            skip)
         skip)
  · refine kv fun w1 hs1 => ?_
    obtain ⟨xs1, hx1⟩ := hs1.now
    exact ⟨⟨_, rfl⟩, hs1.keep, .inl ⟨i, _, (by show i = items.length; omega), hx1⟩⟩
theorem Wx {a : Nat} {bits : List Bool} {items : List Vl} {pick k n : Int} {p : Pl} {ins : List Ty} (h1 : ¬ ((k = 4 ∧ n < items.length) ∨ (k = 6 ∧ n < bits.length))) (h2 : zC k n ins.length (.mk a b c d bits pb items pi pick) = true) : Ko (.mk a b c d bits pb items pi pick) (.mk k n p ins) = Qr items k pick ins 0 := by
 rw [Ko, if_neg h1, if_neg (by rw [h2]; simp)]
theorem Jwc (hv : v.In R) : ∀ (t : Ty) (dp : Int), t.In R → V7 t dp = 0 → PureR Tryz.prog 113 [t.val, v.val].toArray (.int .i64 (Ko v t)) R := by
  have hv0 := hv
  induction hv with
  | @mk a b c d bits pb items pi pick ha hb hc hd hlb hsb hl hs hp hi ih =>
  intro t dp ht hck
  have ht0 := ht
  cases ht with
  | @mk k n p ins hk hn hlt hst hit =>
  obtain ⟨hk8, ho, h6, hci⟩ := QT hck
  have hkk := W7.2 hk8
  have hO := Jx4 ht0 hv0 hkk
  refine Ja Tryz.func113 rfl rfl fun w => ML fun r1 r2 => ?_; refine LN rfl fun r3 => XN 11 [2] rfl rfl ?_
  refine J0 12 rfl (fun gb => ?_) (fun gb => ?_) <;> (try simp only [ZZ] at gb) <;> first | (refine LR rfl (J7 rfl rfl rfl) ?_) | (refine LK rfl ?_)
  all_goals refine LW 1 [1] rfl rfl ?_
  all_goals refine gn ?_
  all_goals refine MH ?_
  all_goals (
   refine LW 4 [2] rfl rfl (Jy 1 rfl (Za 1 rfl ?_)); refine JA rfl (fun g => ?_) (fun g => ?_)
   · try exact Bool.noConfusion g
     all_goals try simp only [ZZ] at g
     all_goals (
      refine JS 2 rfl (cD (fun g => ?_) fun g => ?_)
      refine N6 ?_
      refine Gs ?_
      first
        | (refine QK (k := 0) rfl rfl ?_
           refine kI fun w1 hs1 => ?_
           first | exact ⟨by rw [hfo, ← he]; rfl, hs1.keep⟩ | exact ⟨by rw [hfo, hz]; rfl, hs1.keep⟩)
        | (refine Jj rfl rfl (.cons (KL rfl (kn 0 rfl) rfl rfl) .nil) (fun w1 hs1 => ?_)
           first | exact ⟨by rw [Ko, if_pos m0]; rfl, hs1.keep⟩ | exact ⟨by rw [Ko, if_neg m0, if_pos m8]; rfl, hs1.keep⟩)
        | (refine Jj rfl rfl (.cons (KL rfl (kn 1 rfl) rfl rfl) .nil) (fun w1 hs1 => ?_)
           first | exact ⟨by rw [Ko, if_pos m0]; rfl, hs1.keep⟩ | exact ⟨by rw [Ko, if_neg m0, if_pos m8]; rfl, hs1.keep⟩)
      refine JS 1 rfl ?_
      refine JU [] [(0, .grow (Qu 0 (fun r : Nat => Value.map (some r)) (fun r => [(r, Jj2)]))), (1, .pure), (4, .pure), (8, .pure), (9, .pure)] 10 [1, 2, 5, 6, 0, 3, 4, 7, 8, 9] m5 m5 m7 ?_
      refine NN ?_; refine N7 fun mr => ?_; refine Kz (gM ?_); refine cD (fun g => ?_) fun g => ?_
      refine N6 ?_
      refine HT ?_
      (refine Jj rfl rfl (.cons (KL rfl (kn 1 rfl) rfl rfl) .nil) (fun w1 hs1 => ?_)
       first | exact ⟨by rw [Ko, if_pos m0]; rfl, hs1.keep⟩ | exact ⟨by rw [Ko, if_neg m0, if_pos m8]; rfl, hs1.keep⟩)
      refine kF ?_
      have hfo := Wx (a := a) (b := b) (c := c) (d := d) (pb := pb) (pi := pi) (p := p) nC m8
      have hxl : ∀ i, i < items.length → VX k pick i < ins.length := fun i hi => q5 (v := .mk a b c d bits pb items pi pick) hck m8 hi
      have hp8 : k = 8 → 0 ≤ pick := fun h => by subst h; exact Jus (v := .mk a b c d bits pb items pi pick) m8
      refine Hb fun pp => ?_
      obtain ⟨rt, rv⟩ := pp
      refine gJ ?_
      refine Xj (τ := Int) (fun i (_ : Unit) => i ≤ items.length ∧ Qr (items.drop i) k pick ins i = Qr items k pick ins 0) (fun _ => [(r3, .cells #[.int .i64 (0)] 27 (0, 0))]) (fun j e => j = .ret ∧ e = Qr items k pick ins 0) (fun e => [(r3, .cells #[.int .i64 (e)] 27 (0, 0))]) [WY rv (.mk a b c d bits pb items pi pick), VK rt (.mk k n p ins), _, _, _] () rfl rfl (enters_of Tryz.func229 m5 rfl) (Jdh (n := n) (a := a) (b := b) (c := c) (d := d) (bits := bits) (pb := pb) hl hlt hs hst hxl hp8 rt rv) mw rfl (fun q hq => by rcases List.mem_cons.1 hq with rfl | hq; exact .inl me; rcases List.mem_cons.1 hq with rfl | hq; exact .inl me; exact .inr hq) rfl ⟨Nat.zero_le _, rfl⟩ ?_ ?_ ?_
      rintro q Xr Xb w3 i _ _ ⟨⟩ ⟨hii, rfl, rfl⟩ ⟨hil, hinv⟩ Kr hKr; refine inR ?_
      have hix := XX hii
      have hty := Qp (hxl i hii)
      rw [Yn hix.1, Qr] at hinv
      unfold zE
      refine N6 ?_; refine LN rfl fun r4 => Gl ?_; refine LN rfl fun r5 => kP ?_; refine kS ?_; clear hKr; refine Nr ?_; refine cD (fun g => ?_) fun g => ?_
      refine G3 ?_
      refine LT 2 rfl rfl (gA ?_); refine QE [2] (L' := [_]) m6 rfl (yZ (Ko (XW items i) (JE k pick ins i)) ⟨rfl, by rw [if_neg m8] at hinv; exact hinv⟩ rfl)
      refine KS 2 rfl (QE [2] (L' := [_]) m6 rfl (QQ () ⟨by omega, by rw [if_pos m8] at hinv; exact hinv⟩ rfl))
      rintro D i ⟨⟩ hfi ⟨hil, hinv⟩
      have hin : i = items.length := hfi
      have hz : Qr items k pick ins 0 = 0 := by rw [← hinv, hin, List.drop_length, Qr]
      refine gqo 4 rfl ?_
      refine GV ?_
      (refine QK (k := 0) rfl rfl ?_
       refine kI fun w1 hs1 => ?_
       first | exact ⟨by rw [hfo, ← he]; rfl, hs1.keep⟩ | exact ⟨by rw [hfo, hz]; rfl, hs1.keep⟩)
      rintro D j e ⟨rfl, he⟩
      refine KS 3 rfl ?_
      first
        | (refine QK (k := 0) rfl rfl ?_
           refine kI fun w1 hs1 => ?_
           first | exact ⟨by rw [hfo, ← he]; rfl, hs1.keep⟩ | exact ⟨by rw [hfo, hz]; rfl, hs1.keep⟩)
        | (refine Jj rfl rfl (.cons (KL rfl (kn 0 rfl) rfl rfl) .nil) (fun w1 hs1 => ?_)
           first | exact ⟨by rw [Ko, if_pos m0]; rfl, hs1.keep⟩ | exact ⟨by rw [Ko, if_neg m0, if_pos m8]; rfl, hs1.keep⟩)
        | (refine Jj rfl rfl (.cons (KL rfl (kn 1 rfl) rfl rfl) .nil) (fun w1 hs1 => ?_)
           first | exact ⟨by rw [Ko, if_pos m0]; rfl, hs1.keep⟩ | exact ⟨by rw [Ko, if_neg m0, if_pos m8]; rfl, hs1.keep⟩)
      skip)
   · try simp only [ZZ] at g
     refine Wt 5 [2] rfl rfl ?_
     refine J0 23 rfl (fun gb => ?_) (fun gb => ?_) <;> (try simp only [ZZ] at gb) <;> first | (refine LR rfl (J7 rfl rfl rfl) ?_) | (refine LK rfl ?_)
     all_goals refine LW 1 [1] rfl rfl ?_
     all_goals first | refine LR rfl (Ju rfl hsb rfl) ?_ | refine LK rfl ?_
     all_goals refine MH ?_
     all_goals (
      refine LW 4 [2] rfl rfl (Jy 1 rfl (Za 1 rfl ?_)); refine JA rfl (fun g => ?_) (fun g => ?_)
      · try exact Bool.noConfusion g
        all_goals try simp only [ZZ] at g
        all_goals (
         refine N6 ?_
         refine Gs ?_
         first
           | (refine QK (k := 0) rfl rfl ?_
              refine kI fun w1 hs1 => ?_
              first | exact ⟨by rw [hfo, ← he]; rfl, hs1.keep⟩ | exact ⟨by rw [hfo, hz]; rfl, hs1.keep⟩)
           | (refine Jj rfl rfl (.cons (KL rfl (kn 0 rfl) rfl rfl) .nil) (fun w1 hs1 => ?_)
              first | exact ⟨by rw [Ko, if_pos m0]; rfl, hs1.keep⟩ | exact ⟨by rw [Ko, if_neg m0, if_pos m8]; rfl, hs1.keep⟩)
           | (refine Jj rfl rfl (.cons (KL rfl (kn 1 rfl) rfl rfl) .nil) (fun w1 hs1 => ?_)
              first | exact ⟨by rw [Ko, if_pos m0]; rfl, hs1.keep⟩ | exact ⟨by rw [Ko, if_neg m0, if_pos m8]; rfl, hs1.keep⟩)
         skip)
      try simp only [ZZ] at g
      refine JS 1 rfl ?_
      refine JU [] [(0, .grow (Qu 0 (fun r : Nat => Value.map (some r)) (fun r => [(r, Jj2)]))), (1, .pure), (4, .pure), (8, .pure), (9, .pure)] 10 [1, 2, 5, 6, 0, 3, 4, 7, 8, 9] m5 m5 m7 ?_
      refine NN ?_; refine N7 fun mr => ?_; refine Kz (gM ?_); refine cD (fun g => ?_) fun g => ?_
      refine N6 ?_
      refine HT ?_
      (refine Jj rfl rfl (.cons (KL rfl (kn 1 rfl) rfl rfl) .nil) (fun w1 hs1 => ?_)
       first | exact ⟨by rw [Ko, if_pos m0]; rfl, hs1.keep⟩ | exact ⟨by rw [Ko, if_neg m0, if_pos m8]; rfl, hs1.keep⟩)
      refine kF ?_
      have hfo := Wx (a := a) (b := b) (c := c) (d := d) (pb := pb) (pi := pi) (p := p) nC m8
      have hxl : ∀ i, i < items.length → VX k pick i < ins.length := fun i hi => q5 (v := .mk a b c d bits pb items pi pick) hck m8 hi
      have hp8 : k = 8 → 0 ≤ pick := fun h => by subst h; exact Jus (v := .mk a b c d bits pb items pi pick) m8
      refine Hb fun pp => ?_
      obtain ⟨rt, rv⟩ := pp
      refine gJ ?_
      refine Xj (τ := Int) (fun i (_ : Unit) => i ≤ items.length ∧ Qr (items.drop i) k pick ins i = Qr items k pick ins 0) (fun _ => [(r3, .cells #[.int .i64 (0)] 27 (0, 0))]) (fun j e => j = .ret ∧ e = Qr items k pick ins 0) (fun e => [(r3, .cells #[.int .i64 (e)] 27 (0, 0))]) [WY rv (.mk a b c d bits pb items pi pick), VK rt (.mk k n p ins), _, _, _] () rfl rfl (enters_of Tryz.func229 m5 rfl) (Jdh (n := n) (a := a) (b := b) (c := c) (d := d) (bits := bits) (pb := pb) hl hlt hs hst hxl hp8 rt rv) mw rfl (fun q hq => by rcases List.mem_cons.1 hq with rfl | hq; exact .inl me; rcases List.mem_cons.1 hq with rfl | hq; exact .inl me; exact .inr hq) rfl ⟨Nat.zero_le _, rfl⟩ ?_ ?_ ?_
      rintro q Xr Xb w3 i _ _ ⟨⟩ ⟨hii, rfl, rfl⟩ ⟨hil, hinv⟩ Kr hKr; refine inR ?_
      have hix := XX hii
      have hty := Qp (hxl i hii)
      rw [Yn hix.1, Qr] at hinv
      unfold zE
      refine N6 ?_; refine LN rfl fun r6 => Gl ?_; refine LN rfl fun r7 => kP ?_; refine kS ?_; clear hKr; refine Nr ?_; refine cD (fun g => ?_) fun g => ?_
      refine G3 ?_
      refine LT 2 rfl rfl (gA ?_); refine QE [2] (L' := [_]) m6 rfl (yZ (Ko (XW items i) (JE k pick ins i)) ⟨rfl, by rw [if_neg m8] at hinv; exact hinv⟩ rfl)
      refine KS 2 rfl (QE [2] (L' := [_]) m6 rfl (QQ () ⟨by omega, by rw [if_pos m8] at hinv; exact hinv⟩ rfl))
      rintro D i ⟨⟩ hfi ⟨hil, hinv⟩
      have hin : i = items.length := hfi
      have hz : Qr items k pick ins 0 = 0 := by rw [← hinv, hin, List.drop_length, Qr]
      refine gqo 4 rfl ?_
      refine GV ?_
      (refine QK (k := 0) rfl rfl ?_
       refine kI fun w1 hs1 => ?_
       first | exact ⟨by rw [hfo, ← he]; rfl, hs1.keep⟩ | exact ⟨by rw [hfo, hz]; rfl, hs1.keep⟩)
      rintro D j e ⟨rfl, he⟩
      refine KS 3 rfl ?_
      first
        | (refine QK (k := 0) rfl rfl ?_
           refine kI fun w1 hs1 => ?_
           first | exact ⟨by rw [hfo, ← he]; rfl, hs1.keep⟩ | exact ⟨by rw [hfo, hz]; rfl, hs1.keep⟩)
        | (refine Jj rfl rfl (.cons (KL rfl (kn 0 rfl) rfl rfl) .nil) (fun w1 hs1 => ?_)
           first | exact ⟨by rw [Ko, if_pos m0]; rfl, hs1.keep⟩ | exact ⟨by rw [Ko, if_neg m0, if_pos m8]; rfl, hs1.keep⟩)
        | (refine Jj rfl rfl (.cons (KL rfl (kn 1 rfl) rfl rfl) .nil) (fun w1 hs1 => ?_)
           first | exact ⟨by rw [Ko, if_pos m0]; rfl, hs1.keep⟩ | exact ⟨by rw [Ko, if_neg m0, if_pos m8]; rfl, hs1.keep⟩)
      skip)
   skip)
theorem Jn8 (ht : t.In R) (hv : v.In R) : PureR Tryz.prog 76 [t.val, v.val].toArray (.int .i64 (Vt t v)) R := by
 have h1 := Jap ht
 have h2 := Jwc hv t 0 ht
 obtain ⟨k, n, p, ins⟩ := t
 obtain ⟨a, b, c, d, bits, pb, items, pi, pick⟩ := v
 refine Ja Tryz.func76 rfl rfl fun w => ML fun r1 r2 => ?_; refine gB ?_; refine LR rfl (Jl (vs := [_, _, _]) rfl (kn 1 rfl) rfl rfl rfl rfl) (Jc rfl rfl rfl Jv7 h1 oR (He ?_)); refine cD (fun g => ?_) fun g => ?_
 refine G1 fun w1 hs1 => ?_; rw [Vt, if_neg m8]; rfl
 ·refine Wt 6 [1, 0] rfl rfl (Jc rfl rfl rfl Jnn (h2 m8) oR (HO fun w1 hs1 => ?_)); rw [Vt, if_pos m8]; rfl
theorem yf {n : Nat} (h : n < 256) : UInt8.ofNat n = 0 ↔ n = 0 := by
 constructor
 ·intro e
  have := congrArg UInt8.toNat e
  rw [UInt8.toNat_ofNat', Nat.mod_eq_of_lt h] at this; exact this
 ·rintro rfl; rfl
theorem jN (l : List Nat) : ∀ n k, (Lib.trimLeftB (Zz l n) 0).length ≤ k ↔ ∀ t, k ≤ t → t < n → dg l t = 0
 | 0, k => by simp [Zz, Lib.trimLeftB]
 | n + 1, k => by
  have ih := jN l n k
  by_cases hz : dg l n = 0
  ·have e : Lib.trimLeftB (Zz l (n + 1)) 0 = Lib.trimLeftB (Zz l n) 0 := by simp [Zz, Lib.trimLeftB, hz]
   rw [e, ih]
   constructor
   ·intro h t h1 h2
    by_cases ht : t = n
    ·rw [ht]; exact hz
    ·exact h t h1 m0
   ·intro h t h1 h2; exact h t h1 m0
  ·have hne : ¬ UInt8.ofNat (dg l n) = 0 := fun e => hz ((yf (Jlt l n)).1 e)
   have e : Lib.trimLeftB (Zz l (n + 1)) 0 = Zz l (n + 1) := by simp [Zz, Lib.trimLeftB, hne]
   rw [e, VM]
   constructor
   ·intro h t h1 h2; omega
   ·intro h
    rcases Nat.lt_or_ge n k with hk | hk
    ·omega
    ·exact absurd (h n hk m0) hz
theorem zF {l : List Nat} (hl : WOk l) : Xx l = decide ((Ww l).length ≤ 8) := by
 unfold Xx Ww
 rw [decide_eq_decide, jN]
 constructor
 ·intro h t h1 h2
  have hj : t / 8 = 1 ∨ t / 8 = 2 ∨ t / 8 = 3 := by omega
  rw [h]
  rcases hj with e | e | e <;> simp [dg, e]
 ·intro h
  have hz : ∀ j, 1 ≤ j → j < 4 → l.getD j 0 = 0 := fun j h1 h2 => by
   rw [← Jb1 hl h2]
   have : ∀ m, m ≤ 8 → pw (dg l) j m = 0 := by
    intro m
    induction m with
    | zero => intro _; rfl
    | succ m ih => intro hm; simp only [pw]; rw [ih m0, h (8 * j + m) m0 m0]; simp
   exact this 8 m0
  obtain ⟨a, b, c, d, rfl, _⟩ := hl.four
  have e1 := hz 1 m6 m6
  have e2 := hz 2 m6 m6
  have e3 := hz 3 m6 m6
  simp only [List.getD_cons_zero, List.getD_cons_succ] at e1 e2 e3 ⊢; rw [e1, e2, e3]
theorem ZY : ∀ n, Lib.repeatL [0] n = List.replicate n 0
 | 0 => rfl
 | n + 1 => by rw [Lib.repeatL, ZY n]; rfl
theorem Jdi (t : List UInt8) : ∃ k, t = List.replicate k 0 ++ Lib.trimLeftB t 0 := by
 induction t with
 | nil => exact ⟨0, rfl⟩
 | cons x t ih =>
  by_cases hx : x = 0
  ·subst hx
   obtain ⟨k, hk⟩ := ih
   refine ⟨k + 1, ?_⟩; simp only [Lib.trimLeftB, if_true, List.replicate_succ, List.cons_append] at hk ⊢
   simpa using hk
  ·exact ⟨0, by simp [Lib.trimLeftB, hx]⟩
theorem Jf1 (l : List Nat) : (Ww l).length ≤ 32 := by
 obtain ⟨k, hk⟩ := Jdi (Zz l 32)
 have h := congrArg List.length hk
 rw [VM, List.length_append, List.length_replicate] at h
 unfold Ww; omega
theorem Jdj (n : Nat) : Xx [n, 0, 0, 0] = true := by simp [Xx]
theorem Jn9 {l : List Nat} (h : Xx l = true) : [l.getD 0 0, 0, 0, 0] = l := by
 simp only [Xx, decide_eq_true_eq] at h; exact h.symm
theorem Jwd {n : Nat} (h : n < 18446744073709551616) : WOk [n, 0, 0, 0] := ⟨rfl, fun x hx => by simp at hx; rcases hx with rfl | rfl <;> simp_all⟩
def beN (n : Nat) : List UInt8 := Ww [n, 0, 0, 0]
theorem Joa {n t : Nat} (h : t < 8) : dg [n, 0, 0, 0] t = n / 256 ^ t % 256 := by
 have e : t / 8 = 0 := by omega
 have e2 : t % 8 = t := by omega
 simp only [dg, e, e2, List.getD_cons_zero]; rw [show (256 : Nat) = 2 ^ 8 from rfl, ← Nat.pow_mul, Nat.mul_comm]
theorem Jwe {n t : Nat} (h : 8 ≤ t) (h2 : t < 32) : dg [n, 0, 0, 0] t = 0 := by
 have hj : t / 8 = 1 ∨ t / 8 = 2 ∨ t / 8 = 3 := by omega
 rcases hj with e | e | e <;> simp [dg, e]
theorem Jh4 {n k : Nat} (hn : n < 18446744073709551616) (hk : k ≤ 8) : (beN n).length ≤ k ↔ n < 256 ^ k := by
 unfold beN Ww
 rw [jN]
 constructor
 ·intro h
  have h' : ∀ t, k ≤ t → t < 8 → n / 256 ^ t % 256 = 0 := fun t h1 h2 => by rw [← Joa h2]; exact h t h1 m0
  have key : ∀ j, k ≤ j → j ≤ 8 → n < 256 ^ j → n < 256 ^ k := by
   intro j
   induction j with
   | zero => intro h1 _ h3; rw [show k = 0 from by omega]; exact h3
   | succ j ih =>
    intro h1 h2 h3
    by_cases e : k = j + 1
    ·rw [e]; exact h3
    ·refine ih m0 m0 ?_
     have h4 := h' j m0 m0
     have h5 : n / 256 ^ j < 256 := by
      rw [Nat.div_lt_iff_lt_mul (Nat.pow_pos m6)]; rw [Nat.pow_succ, Nat.mul_comm] at h3; exact h3
     rw [Nat.mod_eq_of_lt h5] at h4
     rcases Nat.div_eq_zero_iff.1 h4 with h6 | h6
     ·have := Nat.pow_pos (n := j) (show 0 < 256 by decide); omega
     ·exact h6
  exact key 8 hk (Nat.le_refl _) hn
 ·intro h t h1 h2
  by_cases ht : t < 8
  ·rw [Joa ht, Nat.div_eq_of_lt (Nat.lt_of_lt_of_le h (Nat.pow_le_pow_right m6 h1))]
  ·exact Jwe m0 h2
theorem Job {n : Nat} (hn : n < 18446744073709551616) : Pure Tryz.prog 232 [uV n].toArray (.string (bs (beN n))) := by
 refine J5 Tryz.func232 rfl rfl fun w => GY ?_; refine J6 rfl rfl rfl Jnk (Ys n) (J6 rfl rfl rfl (enters_of Tryz.func201 m5 rfl) (jL (Jwd hn)) ?_); exact MY
def zG (n : Nat) (w : Int) : List UInt8 × Int := if w < 1 ∨ w > 8 ∨ ((beN n).length : Int) > w then ([], 1) else (j3 n w.toNat, 0)
def ja (p : List UInt8 × Int) : Value := .tuple #[.string (bs p.1), .int .i64 p.2]
theorem Jsr {n k : Nat} (h : i < k) : ((j3 n i ++ List.replicate (k - i) 0).map bV).set i (bV (UInt8.ofNat (n / 2 ^ (8 * i) % 256))) = (j3 n (i + 1) ++ List.replicate (k - (i + 1)) 0).map bV := by
 rw [← List.map_set, List.set_append_right _ _ (by rw [VN]; exact Nat.le_refl _), VN, Nat.sub_self, show k - i = (k - (i + 1)) + 1 from by omega, List.replicate_succ, List.set_cons_zero, Jb4, List.append_assoc]; rw [show (256 : Nat) ^ i = 2 ^ (8 * i) from by rw [show (256 : Nat) = 2 ^ 8 from rfl, ← Nat.pow_mul]]
 rfl
theorem Jdk {n : Nat} (hn : n < 18446744073709551616) (k : Int) : Pure Tryz.prog 166 [uV n, .int .i64 k].toArray (ja (zG n k)) := by
  refine J5 Tryz.func166 rfl rfl fun w => JT (Jr 12 rfl ?_)
  refine J0 10 rfl (fun gb => ?_) (fun gb => ?_) <;> (try simp only [ZZ] at gb) <;> first | (refine QV rfl ?_) | (refine LK rfl ?_)
  all_goals refine LW 3 [] rfl rfl ?_
  all_goals first | refine LK rfl ?_ | (refine J0 14 rfl (fun gb => ?_) (fun gb => ?_) <;> (try simp only [ZZ] at gb) <;> first | (refine QV rfl ?_) | (refine LK rfl ?_))
  all_goals first | (refine J6 rfl rfl rfl (enters_of Tryz.func232 m5 rfl) (Job hn) ?_) | refine LK rfl ?_
  all_goals refine MX ?_
  all_goals (
   refine LW 3 [] rfl rfl (Jy 1 rfl (Za 1 rfl ?_)); refine JA rfl (fun g => ?_) (fun g => ?_)
   try simp only [ZZ] at g
   refine KS 8 rfl (Nc fun w1 hs1 => ?_); rw [show zG n k = ([], 1) from by unfold zG; rw [if_pos m0]]; rfl
   · try exact Bool.noConfusion g
     all_goals try simp only [ZZ] at g
     all_goals (
      refine Gt ?_
      have hk1 : 1 ≤ k ∧ k ≤ 8 ∧ ((beN n).length : Int) ≤ k := by omega
      have hlr : zG n k = (j3 n k.toNat, 0) := by unfold zG; rw [if_neg m0]
      obtain ⟨k, rfl⟩ : ∃ j : Nat, k = j := ⟨k.toNat, by omega⟩
      rw [Int.toNat_natCast] at hlr; refine N6 ?_; refine W1 (n := k) (b := 1) rfl rfl rfl rfl rfl rfl rfl rfl rfl m0 m0 fun r2 => GT ?_; refine NK ?_; refine kA ?_; refine Jw (σ := Nat) (fun i => i ≤ k) (fun i => [(0, uV n), (6, .slice (some ⟨r2, 0, none⟩) k k), (24, .int .i64 (k : Int)), (25, .int .i64 (i : Int))]) (fun i => [(r2, .cells ((j3 n i ++ List.replicate (k - i) 0).map bV).toArray 5 (0, 0))]) (fun _ _ _ => True) (fun i => k - i) 0 (Nat.zero_le _) (lK rfl) (by simp [j3, bV]) (fun _ _ h => h) ?_; intro i hi; refine Nd ?_; refine cD (fun g => ?_) fun g => ?_
      refine Jr 16 rfl (Jn mO (LR rfl (wl (n := 8 * i) rfl rfl m0 mY m0 (vC _ _)) (WR rfl (Jn (show _ = bV (UInt8.ofNat (n / 2 ^ (8 * i) % 256)) from jz _) (LR rfl (Ki (j := i) (m := 1) (off' := i) rfl rfl rfl rfl m0 m0 m0) ?_))))); refine KR (k := 0) (off := i) (xs := (j3 n i ++ List.replicate (k - i) 0).map bV) (ys := (j3 n (i + 1) ++ List.replicate (k - (i + 1)) 0).map bV) rfl rfl rfl rfl rfl rfl (by simp [VN]; omega) (Jsr m0) rfl ?_; exact G5
      refine Nd ?_
      have hik : k = i := by omega
      subst hik; refine N6 ?_; refine LR rfl (QG (b := j3 n k) (row := some (r2, k, [])) (e := 5) (show _ = some (Jx (j3 n k).length (some (r2, k, []))) from by rw [VN]; rfl) ⟨by simp [VN], by simp [VN]⟩ (fun p hp => .inl M5) rfl rfl rfl) (kj ?_); refine Nc fun w1 hs1 => ?_; rw [hlr]; rfl
      skip)
   skip)
def yg (s : List UInt8) : Nat × Int := if s.length < 1 ∨ s.length > 8 then (0, 2) else (WC s, 0)
def Jx6 (p : Nat × Int) : Value := .tuple #[uV p.1, .int .i64 p.2]
theorem Joc {s : List UInt8} (h : i < s.length) : WC (s.take (i + 1)) = WC (s.take i) + (s.getD i 0).toNat * 2 ^ (8 * i) := by
 rw [List.take_succ, List.getElem?_eq_getElem h]; simp only [Option.toList_some]; rw [Jb3, List.length_take, Nat.min_eq_left m0, show (256 : Nat) = 2 ^ 8 from rfl, ← Nat.pow_mul, List.getD_eq_getElem?_getD, List.getElem?_eq_getElem h]; rfl
theorem vd {s : List UInt8} (h : i ≤ s.length) : WC (s.take i) < 2 ^ (8 * i) := by
 have := Je6 (s.take i)
 rw [List.length_take, Nat.min_eq_left h, show (256 : Nat) = 2 ^ 8 from rfl, ← Nat.pow_mul] at this; exact this
theorem Jx7 (h : i ≤ 8) : 2 ^ (8 * i) ≤ 18446744073709551616 := Nat.pow_le_pow_right (n := 2) m6 (by omega : 8 * i ≤ 64)
theorem Jf2 (s : List UInt8) : Pure Tryz.prog 246 [.string (bs s)].toArray (Jx6 (yg s)) := by
  refine J5 Tryz.func246 rfl rfl fun w => JT (Jr 10 rfl (LR rfl (Vi rfl rfl) (QV rfl ?_)))
  refine J0 8 rfl (fun gb => ?_) (fun gb => ?_) <;> (try simp only [ZZ] at gb) <;> first | (refine QV rfl ?_) | (refine LK rfl ?_)
  all_goals refine MX ?_
  all_goals (
   refine Ni ?_; refine JA rfl (fun g => ?_) (fun g => ?_)
   try simp only [ZZ] at g
   refine KS 8 rfl (Nc fun w1 hs1 => ?_)
   rw [show yg s = (0, 2) from by unfold yg; rw [if_pos (by first | omega | (left; rw [‹s = []›]; decide))]]; rfl
   · try exact Bool.noConfusion g
     all_goals try simp only [ZZ] at g
     all_goals (
      refine Gt ?_
      have hl : 1 ≤ s.length ∧ s.length ≤ 8 := by
        have : s ≠ [] := by assumption
        have := List.length_pos_iff.2 this
        omega
      have hur : yg s = (WC s, 0) := by unfold yg; rw [if_neg m0]
      refine Jr 8 rfl (g6 ?_); refine kA ?_; refine Jw (σ := Nat) (fun i => i ≤ s.length) (fun i => [(0, .string (bs s)), (4, uV (WC (s.take i))), (14, .int .i64 (s.length : Nat)), (15, .int .i64 (i : Int))]) (fun i => []) (fun _ _ _ => True) (fun i => s.length - i) 0 (Nat.zero_le _) (lK rfl) (List.nil_sublist _) (fun _ _ h => h) ?_; intro i hi; refine Nd ?_; refine cD (fun g => ?_) fun g => ?_
      refine Jr 14 rfl (LR rfl (Ws (j := i) rfl rfl rfl rfl m0 rfl) (WR rfl (Jn mQ (ko ?_)))); refine Jn mO (LR rfl (zf (n := 8 * i) rfl rfl rfl mY (xC (wp (Vs _) m0))) (LR rfl (Vx (op := .or) (b := ((WC (s.take (i + 1)) : Nat) : Int)) rfl rfl rfl (Nat.lt_of_lt_of_le (vd m0) (Jx7 m0)) (wp (Vs _) m0) (congrArg (fun z : Nat => (z : Int)) (by rw [Joc m0]; exact Jlw (vd m0)))) (gB ?_))); refine My ?_; exact Na
      refine Nd ?_
      have hik : s.length = i := by omega
      have htk : s.take i = s := by rw [← hik, List.take_length]
      refine KS 7 rfl (Nc fun w1 hs1 => ?_); rw [htk, hur]; rfl
      skip)
   skip)
mutual
def wV : Vl → Nat
 | .mk _ _ _ _ bits _ items _ _ => 1 + bits.length / 8 + wL items
def wL : List Vl → Nat
 | [] => 0
 | x :: xs => wV x + wL xs
end
def YC (head : Nat) : List (Ty × List UInt8) → List UInt8 → List UInt8 → List UInt8
 | [], f, th => f ++ th
 | (x, s) :: l, f, th => if JC x then YC head l (f ++ s) th else YC head l (f ++ (zG (head + th.length) 4).1) (th ++ s)
def WN (x : Ty) : Int := if JC x then JV x else 4
def Ke : List Ty → Int
 | [] => 0
 | x :: l => WN x + Ke l
mutual
def Vr : Vl → Ty → List UInt8
 | .mk a b c d bits _ items _ pick, t =>
  if t.k = 1 then leW [a, b, c, d] t.n.toNat else if t.k = 2 then leW [a, b, c, d] 1 else if t.k = 5 then VC bits else if t.k = 6 then VC (bits ++ [true])
  else if t.k = 8 then UInt8.ofNat pick.toNat :: ((KZ items t.k pick t.ins 0).headD (default, [])).2
  else YC (Ke ((KZ items t.k pick t.ins 0).map Prod.fst)).toNat (KZ items t.k pick t.ins 0) [] []
def KZ : List Vl → Int → Int → List Ty → Nat → List (Ty × List UInt8)
 | [], _, _, _, _ => []
 | x :: xs, k, pick, ins, i => (JE k pick ins i, Vr x (JE k pick ins i)) :: KZ xs k pick ins (i + 1)
end
theorem Jdl (n : Nat) : (zG n 4).1.length ≤ 4 := by
 unfold zG
 split
 ·exact Nat.zero_le _
 ·rw [VN]; decide
theorem yh (head : Nat) : ∀ (l : List (Ty × List UInt8)) (f th : List UInt8), (YC head l f th).length ≤ f.length + th.length + (l.map fun p => p.2.length + 4).sum
 | [], f, th => by rw [YC, List.length_append]; simp
 | (x, s) :: l, f, th => by
  rw [YC, List.map_cons, List.sum_cons]
  have h4 := Jdl (head + th.length)
  split
  ·have := yh head l (f ++ s) th
   rw [List.length_append] at this
   simp only
   omega
  ·have := yh head l (f ++ (zG (head + th.length) 4).1) (th ++ s)
   rw [List.length_append, List.length_append] at this
   simp only
   omega
theorem yi (v : Vl) : ∀ t : Ty, (Vr v t).length + 4 ≤ 40 * wV v := by
 induction v using Vl.ind with
 | h a b c d bits pb items pi pick ih =>
  intro t
  have key : ∀ (l : List Vl) (i : Nat), (∀ x ∈ l, x ∈ items) → ((KZ l t.k pick t.ins i).map fun p => p.2.length + 4).sum ≤ 40 * wL l := by
   intro l
   induction l with
   | nil => intro i _; rw [KZ, wL]; exact Nat.zero_le _
   | cons x xs ihl =>
    intro i hs; rw [KZ, wL, List.map_cons, List.sum_cons]
    have h1 := ih x (hs x List.mem_cons_self) (JE t.k pick t.ins i)
    have h2 := ihl (i + 1) fun y hy => hs y (List.mem_cons_of_mem _ hy)
    simp only at h1 ⊢; omega
  have hk := key items 0 fun _ h => h
  have hle : ∀ n, (leW [a, b, c, d] n).length ≤ 32 := fun n => by unfold leW; rw [List.length_take, List.length_reverse, VM]; omega
  rw [Vr, wV]
  split
  ·have := hle t.n.toNat; omega
  ·split
   ·have := hle 1; omega
   ·split
    ·rw [Xl]; omega
    ·split
     ·rw [Xl, List.length_append]; simp only [List.length_cons, List.length_nil]; omega
     ·split
      ·rw [List.length_cons]
       cases items with
       | nil => rw [KZ]; simp only [List.headD_nil, List.length_nil]; omega
       | cons x xs =>
        rw [KZ, List.headD_cons]
        have h1 := ih x List.mem_cons_self (JE t.k pick t.ins 0)
        rw [wL]
        simp only
        omega
      ·have h1 := yh (Ke ((KZ items t.k pick t.ins 0).map Prod.fst)).toNat (KZ items t.k pick t.ins 0) [] []
       simp only [List.length_nil] at h1; omega
def jO (t : Ty) (v : Vl) : List UInt8 × Int := if Vt t v ≠ 0 then ([], Vt t v) else if (Vr v t).length > 65536 then ([], 5) else (Vr v t, 0)
end Go.Proofs.YteceenlfegnigaaGreatDoor
