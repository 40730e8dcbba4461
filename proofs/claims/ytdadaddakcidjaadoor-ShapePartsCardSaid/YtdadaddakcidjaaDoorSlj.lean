import Derived.Test.YtdadaddakcidjaaDoorSli
/-! ### Calls that turn a block and read known ones; maps put together in order; keys that are numbers -/
namespace Go.SL
set_option linter.all false
open Go Go.RowKit Go.Shelf
open Go.Proofs (Enters enters_of)
structure PureMR (P : Program) (f : FuncId) (args : Array Value) (v : Value) (r : Nat) (o o' : Obj) (Rl : List (Nat × Obj)) : Prop where
  run : ∀ w, w.heap[r]? = some o → Has Rl w → Calls P f args w fun e w' => e = .returned v ∧ Keep [r] w w' ∧ w'.heap[r]? = some o'
def cxMR (P : Program) (w : World) (r : Nat) (Rl : List (Nat × Obj)) (n : Nat) : Cx := ⟨P, none, w, [r], [], Rl, n⟩
theorem St.startMR {P : Program} {w : World} {r n : Nat} {o : Obj} {Rl : List (Nat × Obj)} (h : w.heap[r]? = some o) (hR : Has Rl w) (hne : ∀ p ∈ Rl, p.1 ≠ r) : St (cxMR P w r Rl n) [(r, o)] (fun _ _ => True) w :=
  ⟨Keep.refl _ _, fun p hp => by rw [List.mem_singleton.1 hp]; exact ⟨.inl List.mem_cons_self, by simp [cxMR], h⟩, List.pairwise_singleton _ _, fun p hp => ⟨by simp [cxMR]; exact hne p hp, by simp [cxMR], hR p hp⟩, by simp [cxMR], ⟨[], by simp, fun _ _ => trivial⟩⟩
theorem pureMR_of_HC {P : Program} {f : FuncId} {fn : Func} {code : Code} {vs : List Value} {v : Value} {r : Nat} {o o' : Obj} {Rl : List (Nat × Obj)} (hne : ∀ p ∈ Rl, p.1 ≠ r) (hf : P.funcs[f]? = some fn) (hb : fn.body = some code) (hlen : Nat.ble vs.length fn.ntmps = true)
    (h : ∀ w, HC (cxMR P w r Rl fn.ntmps) [] (frame0 0 vs) [(r, o)] (fun _ _ => True) code (bodyPostM (FW none) 0 P fn (fun e w' => e = .returned v ∧ ∃ L, (r, o') ∈ L ∧ St (cxMR P w r Rl fn.ntmps) L (fun _ _ => True) w'))) : PureMR P f vs.toArray v r o o' Rl := ⟨fun w hr hR =>
  (calls_of_HC (cxMR P w r Rl fn.ntmps) hf hb rfl rfl rfl hlen (St.startMR hr hR hne) (h w)).mono fun _ _ ⟨he, L, hm, hs⟩ => ⟨he, by have := hs.keep; simpa [cxMR] using this, (hs.own _ hm).2.2⟩⟩
section
variable {c : Cx} {l : List (Nat × Value)} {L : List (Nat × Obj)} {X : XP} {Q : Exit → Act → World → Prop} {d : List Deferred}
variable {ops : Array Oper} {rest : List Oper} {i : Nat} {v : Value} {t : TypeId} {ps : String} {af : Array Edge} {gd : Option (Nat × Bool)} {ty t2 : TypeId}
theorem St.apart {w : World} (hs : St c L X w) {k r : Nat} {o : Obj} (hk : L[k]? = some (r, o)) : ∀ p ∈ c.R, p.1 ≠ r := by
  rintro p hp rfl
  have h1 := (hs.own _ (List.mem_of_getElem? hk)).1
  obtain ⟨h2, _, h3⟩ := hs.ext p hp
  rcases h1 with h1 | h1
  · exact h2 h1
  · have := lt_of_some h3
    exact absurd this (Nat.not_lt.2 h1)
/-- Blocks of R, or of one's own but the one that is turned. -/
theorem HL_callMR {k r : Nat} {o o' : Obj} {L' : List (Nat × Obj)} {Rl : List (Nat × Obj)} {f : Operand} {args : Array Operand} {at_ : Array TypeId} {g : FuncId} {vs : List Value}
    (hg : goes l ops ⟨some i, .call ⟨.value f, args, at_⟩, ty, ps, af, gd⟩ = some true) (hi : Nat.ble (i + 1) c.n = true) (hca : callArgs l f args = some (g, vs)) (eg : Enters c.P g) (hk : L[k]? = some (r, o))
    (hp : (∀ p ∈ Rl, p.1 ≠ r) → PureMR c.P g vs.toArray v r o o' Rl) (hR : ∀ p ∈ Rl, p ∈ c.R) (hL : L.set k (r, o') = L') (h : HL c d ((i, v) :: l) L' X ops rest Q) : HL c d l L X ops (⟨some i, .call ⟨.value f, args, at_⟩, ty, ps, af, gd⟩ :: rest) Q :=
  HL_callE (α := Unit) (V := fun _ => v) (L' := fun _ => L') (X' := fun _ => X) hg hi hca eg (fun w hs => ((hp fun p hq => hs.apart hk p (hR p hq)).run w (hs.get hk) (fun p hq => hs.readR (hR p hq))).mono fun _ _ ⟨he, hkp, ho⟩ => ⟨(), he, hL ▸ hs.set hk hkp ho⟩) (fun _ => h)
theorem HL_makeMap (hg : goes l ops ⟨some i, .makeMap t none, ty, ps, af, gd⟩ = some true) (hi : Nat.ble (i + 1) c.n = true)
    (h : ∀ r, HL c d ((i, .map (some r)) :: l) ((r, .map #[] 0) :: L) X ops rest Q) : HL c d l L X ops (⟨some i, .makeMap t none, ty, ps, af, gd⟩ :: rest) Q :=
  HL_runE (α := Nat) (V := fun r => .map (some r)) (L' := fun r => (r, .map #[] 0) :: L) (X' := fun _ => X) hg rfl rfl hi (fun a w _ hs => ⟨w.heap.size, w.alloc (.map #[] 0), by simp only [execOp, Sem.run_bind, Option.map]; rfl, hs.alloc _⟩) h
theorem HL_insert {m x y : Operand} {kt et r clock q : Nat} {es : Array MapEntry} {key val : Value} {dom : Value → Prop} {eq : Value → Value → Bool} {L' : List (Nat × Obj)} (K : KeyL c.P kt dom eq) (hg : goes l ops ⟨none, .insert t m x y, ty, ps, af, gd⟩ = some true)
    (hm : evl l m = some (.map (some r))) (hx : evl l x = some key) (hy : evl l y = some val) (hq : L[q]? = some (r, .map es clock)) (ht : mapTy c.P t = some (kt, et)) (hk : dom key) (he : ∀ e ∈ es.toList, dom e.key) (hn : mapGet eq key (es.toList.map kvOf) = none)
    (hL : L.set q (r, .map (es.push { key := key, val := val, born := clock }) (clock + 1)) = L') (h : HL c d l L' X ops rest Q) : HL c d l L X ops (⟨none, .insert t m x y, ty, ps, af, gd⟩ :: rest) Q :=
  HL_run0 hg rfl rfl (fun a w hf hs => ⟨_, by
    simp only [execOp, Sem.run_bind]
    rw [hf.eval hm, hf.eval hx, hf.eval hy, run_insert K ht (hs.get hq) hk he hn]; rfl, hL ▸ hs.set hq (Keep.putObj r _) (World.putObj_heap_same (lt_of_some (hs.get hq)))⟩) h
end
/-! ### Keys that are numbers -/
def isI (v : Value) : Prop := ∃ n, v = .int .i64 n
def intEq (x y : Value) : Bool := eqS x y
theorem run_checkKey_i {P : Program} {t : TypeId} (ht : P.underlying t = some (.int .i64)) (b : Bool) (n : Nat) (x : Int) (w : World) : (Instr.checkKey b (n + 1) t (.int .i64 x)).run P w = .ok () w := by
  simp [Instr.checkKey, Sem.run_bind, run_und ht, Result.andThen]
theorem keyI {P : Program} {t : TypeId} (ht : P.underlying t = some (.int .i64)) : KeyL P t isI intEq where
  now := ⟨_, ht, fun a b ⟨a1, ha⟩ ⟨b1, hb⟩ => by subst ha hb; exact .inr (by simp [Instr.sameNow, intEq, eqS])⟩
  equal := by
    rintro _ _ w ⟨a, rfl⟩ ⟨b, rfl⟩
    exact run_eqS (by simp [scalB, ht]) (by simp [scalB, ht]) 9999 w
  check := by
    rintro _ b w ⟨x, rfl⟩
    exact run_checkKey_i ht b 9999 x w
theorem intEq_mk (a b : Int) : intEq (.int .i64 a) (.int .i64 b) = (a == b) := rfl
end Go.SL
