import Derived.Test.YtdadaddakcidjaaDoorSlj
/-! ### A region that draws its order, in an order of one's own: several operations that lay new blocks may be ready at once -/
namespace Go.SL
set_option linter.all false
open Go Go.RowKit Go.Shelf
open Go.Proofs (Enters enters_of)
/-- What lays new blocks: what it names, and the blocks. -/
structure GE where
  α : Type
  V : α → Value
  LL : α → List (Nat × Obj)
  x0 : α
inductive Kb
  | quiet
  | pure
  | grow (e : GE)
  | turn
abbrev Kbs := Nat → Kb
def Kb.isGrow : Kb → Bool
  | .grow _ => true
  | _ => false
def Kb.isTurn : Kb → Bool
  | .turn => true
  | _ => false
def Kb.isQuiet : Kb → Bool
  | .quiet => true
  | _ => false
section
variable {c : Cx} {X : XP} {S : List (Nat × Obj)} {ops : Array Oper} {md : Region.Mode}
def Fresh (LL : List (Nat × Obj)) (w w' : World) : Prop := Keep [] w w' ∧ (∀ p ∈ LL, w.heap.size ≤ p.1 ∧ w'.heap[p.1]? = some p.2) ∧ LL.Pairwise fun p q => p.1 ≠ q.1
def YG (c : Cx) (X : XP) (S : List (Nat × Obj)) (ops : Array Oper) (o : Oper) (e : GE) (a : Act) : Prop :=
  Region.wanted o (yielded ops a.tmps) = true ∧ ∀ E, SubS S E → ∀ w, St c E X w → actAt c o a w fun u w' => ∃ x, u = e.V x ∧ Fresh (e.LL x) w w'
theorem YG.same {o : Oper} {e : GE} {a a' : Act} (hy : YG c X S ops o e a) (he : execOp a'.eval o = execOp a.eval o) (hw : Region.wanted o (yielded ops a'.tmps) = Region.wanted o (yielded ops a.tmps)) : YG c X S ops o e a' :=
  ⟨hw.trans hy.1, fun E hE w hs => (hy.2 E hE w hs).same he⟩
def YT (c : Cx) (E : List (Nat × Obj)) (X : XP) (ops : Array Oper) (o : Oper) {α : Type} (V : α → Value) (G : α → List (Nat × Obj)) (a : Act) : Prop :=
  Region.wanted o (yielded ops a.tmps) = true ∧ ∀ w, St c E X w → actAt c o a w fun u w' => ∃ x, u = V x ∧ St c (G x) X w'
def stB (c : Cx) (X : XP) (S : List (Nat × Obj)) (ops : Array Oper) (tb : Kbs) (i : Nat) (K : List (Nat × Obj) → Act → Prop) (E : List (Nat × Obj)) (a : Act) : Prop :=
  ∃ o, ops[i]? = some o ∧ match tb i with
    | .quiet => ∃ v, YQ c E X ops o v a ∧ K E (a.put o.dst v)
    | .pure => ∃ v, YP c X S ops o v a ∧ K E (a.put o.dst v)
    | .grow e => (YG c X S ops o e a ∧ ∀ x, K (e.LL x ++ E) (a.put o.dst (e.V x))) ∨ (Region.wanted o (yielded ops a.tmps) = false ∧ K E (a.put o.dst undef))
    | .turn => (∃ (α : Type) (V : α → Value) (G : α → List (Nat × Obj)), YT c E X ops o V G a ∧ ∀ x, SubS S (G x) ∧ K (G x) (a.put o.dst (V x))) ∨ (Region.wanted o (yielded ops a.tmps) = false ∧ K E (a.put o.dst undef))
def anyB (c : Cx) (X : XP) (S : List (Nat × Obj)) (ops : Array Oper) (md : Region.Mode) (tb : Kbs) (m : Nat) (T : List (Nat × Obj) → Array Bool → Act → Prop) : Nat → Array Bool → List (Nat × Obj) → Act → Prop
  | 0, listed, E, a => T E listed a
  | f + 1, listed, E, a => Region.ready md ops listed ≠ [] ∧ ∀ i ∈ Region.ready md ops listed, i < m ∧ stB c X S ops tb i (fun E' a' => anyB c X S ops md tb m T f (listed.setIfInBounds i true) E' a') E a
theorem SubS.grow {E LL : List (Nat × Obj)} (h : SubS S E) : SubS S (LL ++ E) := fun p hp => List.mem_append_right _ (h p hp)
theorem YQ.perm {E E' : List (Nat × Obj)} {o : Oper} {v : Value} {a : Act} (hy : YQ c E X ops o v a) (hp : E.Perm E') : YQ c E' X ops o v a := by
  rcases hy with ⟨h1, h2⟩ | h
  · exact .inl ⟨h1, fun w hs => h2 w (hs.perm hp.symm)⟩
  · exact .inr h
theorem anyB_perm {tb : Kbs} {m : Nat} {T : List (Nat × Obj) → Array Bool → Act → Prop} (hTp : ∀ E E' listed a, E.Perm E' → T E listed a → T E' listed a) :
    ∀ (f : Nat) (listed : Array Bool) (E E' : List (Nat × Obj)) (a : Act), E.Perm E' → anyB c X S ops md tb m T f listed E a → anyB c X S ops md tb m T f listed E' a
  | 0, listed, E, E', a, hp, h => hTp _ _ _ _ hp h
  | f + 1, listed, E, E', a, hp, h => by
    refine ⟨h.1, fun i hi => ⟨(h.2 i hi).1, ?_⟩⟩
    obtain ⟨o, ho, hm⟩ := (h.2 i hi).2
    refine ⟨o, ho, ?_⟩
    cases ha : tb i with
    | quiet => rw [ha] at hm; obtain ⟨v, h1, h2⟩ := hm; exact ⟨v, h1.perm hp, anyB_perm hTp f _ _ _ _ hp h2⟩
    | pure => rw [ha] at hm; obtain ⟨v, h1, h2⟩ := hm; exact ⟨v, h1, anyB_perm hTp f _ _ _ _ hp h2⟩
    | grow e =>
      rw [ha] at hm
      rcases hm with ⟨h1, h2⟩ | ⟨h1, h2⟩
      · exact .inl ⟨h1, fun x => anyB_perm hTp f _ _ _ _ (hp.append_left _) (h2 x)⟩
      · exact .inr ⟨h1, anyB_perm hTp f _ _ _ _ hp h2⟩
    | turn =>
      rw [ha] at hm
      rcases hm with ⟨α, V, G, ⟨h1, h2⟩, h3⟩ | ⟨h1, h2⟩
      · exact .inl ⟨α, V, G, ⟨h1, fun w hs => h2 w (hs.perm hp.symm)⟩, h3⟩
      · exact .inr ⟨h1, anyB_perm hTp f _ _ _ _ hp h2⟩
theorem stB_wp {tb : Kbs} {i : Nat} {K : List (Nat × Obj) → Act → Prop} {K' : Act → World → Prop} {Q' : Exit → Act → World → Prop} {E : List (Nat × Obj)} {a : Act} {w : World} (hnd : ∀ (j : Nat) (o : Oper), ops[j]? = some o → noDefer o.op = true)
    (hs : St c E X w) (hE : SubS S E) (h : ∀ E a w', SubS S E → St c E X w' → K E a → K' a w') (hh : stB c X S ops tb i K E a) : wpOpIn (FW c.ro) 0 c.P ops Q' i K' a w := by
  obtain ⟨o, ho, hm⟩ := hh
  have no : Region.wanted o (yielded ops a.tmps) = false → K E (a.put o.dst undef) → wpOpIn (FW c.ro) 0 c.P ops Q' i K' a w := fun hw hk => by
    unfold wpOpIn
    simp only [ho]
    rw [if_neg (by rw [hw]; simp)]
    exact ⟨wide_about, h E _ w hE hs hk⟩
  have yes : ∀ v, YQ c E X ops o v a → K E (a.put o.dst v) → wpOpIn (FW c.ro) 0 c.P ops Q' i K' a w := fun v hy hk => by
    rcases hy with ⟨hw, hq⟩ | ⟨hw, rfl⟩
    · exact act_wp ho (hnd i o ho) hw (hq w hs) fun u w' ⟨e, hk'⟩ => h E _ w' hE (hs.more hk') (e ▸ hk)
    · exact no hw hk
  cases ha : tb i with
  | quiet => rw [ha] at hm; obtain ⟨v, h1, h2⟩ := hm; exact yes v h1 h2
  | pure => rw [ha] at hm; obtain ⟨v, h1, h2⟩ := hm; exact yes v (h1.quiet hE) h2
  | grow e =>
    rw [ha] at hm
    rcases hm with ⟨⟨hw, hr⟩, h2⟩ | ⟨hw, h2⟩
    · exact act_wp ho (hnd i o ho) hw (hr E hE w hs) fun u w' ⟨x, e', hk, hf, hd⟩ => h _ _ w' hE.grow (hs.freshs hk hf hd) (e' ▸ (h2 x))
    · exact no hw h2
  | turn =>
    rw [ha] at hm
    rcases hm with ⟨α, V, G, ⟨hw, hr⟩, h2⟩ | ⟨hw, h2⟩
    · exact act_wp ho (hnd i o ho) hw (hr w hs) fun u w' ⟨x, e', hs'⟩ => h _ _ w' (h2 x).1 hs' (e' ▸ (h2 x).2)
    · exact no hw h2
theorem anyB_wp {tb : Kbs} {m g : Nat} {T : List (Nat × Obj) → Array Bool → Act → Prop} {Q' : Exit → Act → World → Prop} (hnd : ∀ (j : Nat) (o : Oper), ops[j]? = some o → noDefer o.op = true)
    (hT : ∀ E listed a w, SubS S E → St c E X w → T E listed a → wpAnyIn (FW c.ro) 0 c.P md ops Q' g listed a w) :
    ∀ (f : Nat) (listed : Array Bool) (E : List (Nat × Obj)) (a : Act) (w : World), SubS S E → St c E X w → anyB c X S ops md tb m T f listed E a → wpAnyIn (FW c.ro) 0 c.P md ops Q' (f + g) listed a w
  | 0, listed, E, a, w, hE, hw, h => by rw [Nat.zero_add]; exact hT _ _ _ _ hE hw h
  | f + 1, listed, E, a, w, hE, hw, h => by
    rw [show f + 1 + g = (f + g) + 1 from by omega]
    exact ⟨fun h0 => absurd h0 h.1, fun i hi => stB_wp hnd hw hE (fun E' a' w' hE' hw' h' => anyB_wp hnd hT f _ E' a' w' hE' hw' h') (h.2 i hi).2⟩
def BoundB (md : Region.Mode) (ops : Array Oper) (tb : Kbs) (m i : Nat) : Prop :=
  tb i = .quiet → ∀ j, j < m → tb j = .turn → ∀ listed, i ∈ Region.ready md ops listed → j ∈ Region.ready md ops listed → False
/-- Nothing but what lays new blocks can be carried out ahead of i. -/
def okG (md : Region.Mode) (ops : Array Oper) (tb : Kbs) (i : Nat) : Nat → Array Bool → Bool
  | 0, listed => (Region.ready md ops listed).all fun j => j == i
  | f + 1, listed => (Region.ready md ops listed).all fun j => j == i || ((tb j).isGrow && okG md ops tb i f (listed.setIfInBounds j true))
theorem anyB_first {tb : Kbs} {m i : Nat} {oi : Oper} {v : Value} {T : List (Nat × Obj) → Array Bool → Act → Prop} (hi : ops[i]? = some oi) (hai : tb i = .quiet ∨ tb i = .pure) (hsel : ∀ (j : Nat) (o : Oper) cs b, ops[j]? = some o → o.op ≠ .select cs b)
    (hbd : BoundB md ops tb m i)
    (hlt : ∀ listed, HeadInv md ops m listed → listed.getD i true = false → ∀ j ∈ Region.ready md ops listed, j < m)
    (hT : ∀ E listed a, T E listed a → ∀ j ∈ Region.ready md ops listed, m ≤ j) :
    ∀ (f : Nat) (listed : Array Bool) (E : List (Nat × Obj)) (a : Act), HeadInv md ops m listed →
      (∀ j oj, ops[j]? = some oj → j ≠ i → listed.getD j true = false → (∀ e ∈ oj.after, Region.binds md e = true → e.on ≠ i) → oi.apart ops oj = true) →
      SubS S E → i ∈ Region.ready md ops listed → (YQ c E X ops oi v a ∧ (tb i = .pure → YP c X S ops oi v a)) →
      anyB c X S ops md tb m T f (listed.setIfInBounds i true) E (a.put oi.dst v) → anyB c X S ops md tb m T (f + 1) listed E a := by
  have self : ∀ {K : List (Nat × Obj) → Act → Prop} {E : List (Nat × Obj)} {a : Act}, (YQ c E X ops oi v a ∧ (tb i = .pure → YP c X S ops oi v a)) → K E (a.put oi.dst v) → stB c X S ops tb i K E a := by
    intro K E a hy H
    refine ⟨oi, hi, ?_⟩
    rcases hai with h | h <;> rw [h]
    · exact ⟨v, hy.1, H⟩
    · exact ⟨v, hy.2 h, H⟩
  intro f
  induction f with
  | zero =>
    intro listed E a inv _ hSE hr hy H
    refine ⟨fun h => (by rw [h] at hr; cases hr), fun j hj => ⟨hlt _ inv (mem_ready.1 hr).1 j hj, ?_⟩⟩
    by_cases hji : j = i
    · subst hji; exact self hy H
    · have h1 := hT _ _ _ H j (ready_mono hj hji)
      have h2 := hlt _ inv (mem_ready.1 hr).1 j hj
      omega
  | succ f ih =>
    intro listed E a inv hfree hSE hr hy H
    refine ⟨fun h => (by rw [h] at hr; cases hr), fun j hj => ?_⟩
    have hjm := hlt _ inv (mem_ready.1 hr).1 j hj
    refine ⟨hjm, ?_⟩
    by_cases hji : j = i
    · subst hji; exact self hy H
    · obtain ⟨oj, hoj, hm⟩ := (H.2 j (ready_mono hj hji)).2
      obtain ⟨hjun, oj', hoj', hall⟩ := mem_ready.1 hj
      rw [hoj] at hoj'
      cases hoj'
      have hnot : ∀ e ∈ oj.after, Region.binds md e = true → e.on ≠ i := fun e he hb heq => by
        have h2 := hall e he hb
        rw [heq, getD_both (mem_ready.1 hr).1] at h2
        cases h2
      obtain ⟨h1, h2, h3⟩ := Oper.apart_spec (hfree j oj hoj hji hjun hnot)
      have hfree' : ∀ k ok, ops[k]? = some ok → k ≠ i → (listed.setIfInBounds j true).getD k true = false →
          (∀ e ∈ ok.after, Region.binds md e = true → e.on ≠ i) → oi.apart ops ok = true := fun k ok hk hki hun hno => by
        refine hfree k ok hk hki ?_ hno
        by_cases hjk : j = k
        · subst hjk; exact hjun
        · rw [getD_set_ne true hjk] at hun; exact hun
      have back1 := fun u => (execOp_put oj (fun cs b => hsel j oj cs b hoj) a oi.dst u h1)
      have back2 := fun u => (wanted_put oj a oi.dst u h1)
      have forth1 := fun u => (execOp_put oi (fun cs b => hsel i oi cs b hi) a oj.dst u h3)
      have forth2 := fun u => (wanted_put oi a oj.dst u h3)
      have go : ∀ E' u, SubS S E' → (E.Sublist E' ∨ tb i = .pure) → anyB c X S ops md tb m T f ((listed.setIfInBounds i true).setIfInBounds j true) E' ((a.put oi.dst v).put oj.dst u) →
          anyB c X S ops md tb m T (f + 1) (listed.setIfInBounds j true) E' (a.put oj.dst u) := fun E' u hSE' hsub hK => by
        refine ih (listed.setIfInBounds j true) E' (a.put oj.dst u) (inv.set hj hjm) hfree' hSE' (ready_mono hr (Ne.symm hji)) ⟨?_, fun hp => (hy.2 hp).same (forth1 u) (forth2 u)⟩ ?_
        · rcases hsub with hsub | hp
          · exact (hy.1.weak hsub).same (forth1 u) (forth2 u)
          · exact ((hy.2 hp).same (forth1 u) (forth2 u)).quiet hSE'
        · rw [Array.setIfInBounds_comm _ _ hji, ← Act.put_comm a v u h2]
          exact hK
      refine ⟨oj, hoj, ?_⟩
      cases ha : tb j with
      | quiet => rw [ha] at hm; obtain ⟨u, g1, g2⟩ := hm; exact ⟨u, g1.same (back1 v).symm (back2 v).symm, go E u hSE (.inl (List.Sublist.refl _)) g2⟩
      | pure => rw [ha] at hm; obtain ⟨u, g1, g2⟩ := hm; exact ⟨u, g1.same (back1 v).symm (back2 v).symm, go E u hSE (.inl (List.Sublist.refl _)) g2⟩
      | grow e =>
        rw [ha] at hm
        rcases hm with ⟨g1, g2⟩ | ⟨g1, g2⟩
        · exact .inl ⟨g1.same (back1 v).symm (back2 v).symm, fun x => go _ _ hSE.grow (.inl (List.sublist_append_right _ _)) (g2 x)⟩
        · exact .inr ⟨(back2 v).symm.trans g1, go E undef hSE (.inl (List.Sublist.refl _)) g2⟩
      | turn =>
        rw [ha] at hm
        rcases hm with ⟨α, V, G, ⟨g0, g1⟩, g2⟩ | ⟨g1, g2⟩
        · refine .inl ⟨α, V, G, ⟨(back2 v).symm.trans g0, fun w hs => (g1 w hs).same (back1 v).symm⟩, fun x => ⟨(g2 x).1, go _ _ (g2 x).1 ?_ (g2 x).2⟩⟩
          rcases hai with hq | hp
          · exact (hbd hq j hjm ha listed hr hj).elim
          · exact .inr hp
        · exact .inr ⟨(back2 v).symm.trans g1, go E undef hSE (.inl (List.Sublist.refl _)) g2⟩
theorem anyB_off {tb : Kbs} {m i : Nat} {oi : Oper} {ei : GE} {T : List (Nat × Obj) → Array Bool → Act → Prop} (hi : ops[i]? = some oi) (hai : tb i = .grow ei) (hsel : ∀ (j : Nat) (o : Oper) cs b, ops[j]? = some o → o.op ≠ .select cs b)
    (hlt : ∀ listed, HeadInv md ops m listed → listed.getD i true = false → ∀ j ∈ Region.ready md ops listed, j < m)
    (hT : ∀ E listed a, T E listed a → ∀ j ∈ Region.ready md ops listed, m ≤ j) :
    ∀ (f : Nat) (listed : Array Bool) (E : List (Nat × Obj)) (a : Act), HeadInv md ops m listed →
      (∀ j oj, ops[j]? = some oj → j ≠ i → listed.getD j true = false → (∀ e ∈ oj.after, Region.binds md e = true → e.on ≠ i) → oi.apart ops oj = true) →
      SubS S E → i ∈ Region.ready md ops listed → Region.wanted oi (yielded ops a.tmps) = false →
      anyB c X S ops md tb m T f (listed.setIfInBounds i true) E (a.put oi.dst undef) → anyB c X S ops md tb m T (f + 1) listed E a := by
  have self : ∀ {K : List (Nat × Obj) → Act → Prop} {E : List (Nat × Obj)} {a : Act}, Region.wanted oi (yielded ops a.tmps) = false → K E (a.put oi.dst undef) → stB c X S ops tb i K E a := by
    intro K E a hy H
    refine ⟨oi, hi, ?_⟩
    rw [hai]
    exact .inr ⟨hy, H⟩
  intro f
  induction f with
  | zero =>
    intro listed E a inv _ hSE hr hy H
    refine ⟨fun h => (by rw [h] at hr; cases hr), fun j hj => ⟨hlt _ inv (mem_ready.1 hr).1 j hj, ?_⟩⟩
    by_cases hji : j = i
    · subst hji; exact self hy H
    · have h1 := hT _ _ _ H j (ready_mono hj hji)
      have h2 := hlt _ inv (mem_ready.1 hr).1 j hj
      omega
  | succ f ih =>
    intro listed E a inv hfree hSE hr hy H
    refine ⟨fun h => (by rw [h] at hr; cases hr), fun j hj => ?_⟩
    have hjm := hlt _ inv (mem_ready.1 hr).1 j hj
    refine ⟨hjm, ?_⟩
    by_cases hji : j = i
    · subst hji; exact self hy H
    · obtain ⟨oj, hoj, hm⟩ := (H.2 j (ready_mono hj hji)).2
      obtain ⟨hjun, oj', hoj', hall⟩ := mem_ready.1 hj
      rw [hoj] at hoj'
      cases hoj'
      have hnot : ∀ e ∈ oj.after, Region.binds md e = true → e.on ≠ i := fun e he hb heq => by
        have h2 := hall e he hb
        rw [heq, getD_both (mem_ready.1 hr).1] at h2
        cases h2
      obtain ⟨h1, h2, h3⟩ := Oper.apart_spec (hfree j oj hoj hji hjun hnot)
      have hfree' : ∀ k ok, ops[k]? = some ok → k ≠ i → (listed.setIfInBounds j true).getD k true = false →
          (∀ e ∈ ok.after, Region.binds md e = true → e.on ≠ i) → oi.apart ops ok = true := fun k ok hk hki hun hno => by
        refine hfree k ok hk hki ?_ hno
        by_cases hjk : j = k
        · subst hjk; exact hjun
        · rw [getD_set_ne true hjk] at hun; exact hun
      have back1 := fun u => (execOp_put oj (fun cs b => hsel j oj cs b hoj) a oi.dst u h1)
      have back2 := fun u => (wanted_put oj a oi.dst u h1)
      have forth1 := fun u => (execOp_put oi (fun cs b => hsel i oi cs b hi) a oj.dst u h3)
      have forth2 := fun u => (wanted_put oi a oj.dst u h3)
      have go : ∀ E' u, SubS S E' → anyB c X S ops md tb m T f ((listed.setIfInBounds i true).setIfInBounds j true) E' ((a.put oi.dst undef).put oj.dst u) →
          anyB c X S ops md tb m T (f + 1) (listed.setIfInBounds j true) E' (a.put oj.dst u) := fun E' u hSE' hK => by
        refine ih (listed.setIfInBounds j true) E' (a.put oj.dst u) (inv.set hj hjm) hfree' hSE' (ready_mono hr (Ne.symm hji)) ((forth2 u).trans hy) ?_
        rw [Array.setIfInBounds_comm _ _ hji, ← Act.put_comm a undef u h2]
        exact hK
      refine ⟨oj, hoj, ?_⟩
      cases ha : tb j with
      | quiet => rw [ha] at hm; obtain ⟨u, g1, g2⟩ := hm; exact ⟨u, g1.same (back1 undef).symm (back2 undef).symm, go E u hSE g2⟩
      | pure => rw [ha] at hm; obtain ⟨u, g1, g2⟩ := hm; exact ⟨u, g1.same (back1 undef).symm (back2 undef).symm, go E u hSE g2⟩
      | grow e =>
        rw [ha] at hm
        rcases hm with ⟨g1, g2⟩ | ⟨g1, g2⟩
        · exact .inl ⟨g1.same (back1 undef).symm (back2 undef).symm, fun x => go _ _ hSE.grow (g2 x)⟩
        · exact .inr ⟨(back2 undef).symm.trans g1, go E undef hSE g2⟩
      | turn =>
        rw [ha] at hm
        rcases hm with ⟨α, V, G, ⟨g0, g1⟩, g2⟩ | ⟨g1, g2⟩
        · exact .inl ⟨α, V, G, ⟨(back2 undef).symm.trans g0, fun w hs => (g1 w hs).same (back1 undef).symm⟩, fun x => ⟨(g2 x).1, go _ _ (g2 x).1 (g2 x).2⟩⟩
        · exact .inr ⟨(back2 undef).symm.trans g1, go E undef hSE g2⟩
theorem anyB_grow {tb : Kbs} {m i : Nat} {oi : Oper} {ei : GE} {T : List (Nat × Obj) → Array Bool → Act → Prop} (hi : ops[i]? = some oi) (hai : tb i = .grow ei) (hsel : ∀ (j : Nat) (o : Oper) cs b, ops[j]? = some o → o.op ≠ .select cs b)
    (hTp : ∀ E E' listed a, E.Perm E' → T E listed a → T E' listed a)
    (hlt : ∀ listed, HeadInv md ops m listed → listed.getD i true = false → ∀ j ∈ Region.ready md ops listed, j < m)
    (hT : ∀ E listed a, T E listed a → ∀ j ∈ Region.ready md ops listed, m ≤ j) :
    ∀ (f : Nat) (listed : Array Bool) (E : List (Nat × Obj)) (a : Act), HeadInv md ops m listed →
      (∀ j oj, ops[j]? = some oj → j ≠ i → listed.getD j true = false → (∀ e ∈ oj.after, Region.binds md e = true → e.on ≠ i) → oi.apart ops oj = true) →
      SubS S E → i ∈ Region.ready md ops listed → okG md ops tb i f listed = true → YG c X S ops oi ei a →
      (∀ x, anyB c X S ops md tb m T f (listed.setIfInBounds i true) (ei.LL x ++ E) (a.put oi.dst (ei.V x))) → anyB c X S ops md tb m T (f + 1) listed E a := by
  have self : ∀ {K : List (Nat × Obj) → Act → Prop} {E : List (Nat × Obj)} {a : Act}, YG c X S ops oi ei a → (∀ x, K (ei.LL x ++ E) (a.put oi.dst (ei.V x))) → stB c X S ops tb i K E a := by
    intro K E a hy H
    refine ⟨oi, hi, ?_⟩
    rw [hai]
    exact .inl ⟨hy, H⟩
  intro f
  induction f with
  | zero =>
    intro listed E a inv _ hSE hr hok hy H
    refine ⟨fun h => (by rw [h] at hr; cases hr), fun j hj => ⟨hlt _ inv (mem_ready.1 hr).1 j hj, ?_⟩⟩
    by_cases hji : j = i
    · subst hji; exact self hy H
    · have h1 := hT _ _ _ (H ei.x0) j (ready_mono hj hji)
      have h2 := hlt _ inv (mem_ready.1 hr).1 j hj
      omega
  | succ f ih =>
    intro listed E a inv hfree hSE hr hok hy H
    refine ⟨fun h => (by rw [h] at hr; cases hr), fun j hj => ?_⟩
    have hjm := hlt _ inv (mem_ready.1 hr).1 j hj
    refine ⟨hjm, ?_⟩
    by_cases hji : j = i
    · subst hji; exact self hy H
    · unfold okG at hok
      have hokj := List.all_eq_true.1 hok j hj
      simp only [Bool.or_eq_true, beq_iff_eq, hji, false_or, Bool.and_eq_true] at hokj
      obtain ⟨hgj, hok'⟩ := hokj
      obtain ⟨ej, ha⟩ : ∃ ej, tb j = .grow ej := by
        cases h : tb j with
        | grow e => exact ⟨e, rfl⟩
        | _ => rw [h] at hgj; cases hgj
      obtain ⟨hjun, oj, hoj, hall⟩ := mem_ready.1 hj
      have hnot : ∀ e ∈ oj.after, Region.binds md e = true → e.on ≠ i := fun e he hb heq => by
        have h2 := hall e he hb
        rw [heq, getD_both (mem_ready.1 hr).1] at h2
        cases h2
      obtain ⟨h1, h2, h3⟩ := Oper.apart_spec (hfree j oj hoj hji hjun hnot)
      have hfree' : ∀ k ok, ops[k]? = some ok → k ≠ i → (listed.setIfInBounds j true).getD k true = false →
          (∀ e ∈ ok.after, Region.binds md e = true → e.on ≠ i) → oi.apart ops ok = true := fun k ok hk hki hun hno => by
        refine hfree k ok hk hki ?_ hno
        by_cases hjk : j = k
        · subst hjk; exact hjun
        · rw [getD_set_ne true hjk] at hun; exact hun
      have back1 := fun u => (execOp_put oj (fun cs b => hsel j oj cs b hoj) a oi.dst u h1)
      have back2 := fun u => (wanted_put oj a oi.dst u h1)
      have forth1 := fun u => (execOp_put oi (fun cs b => hsel i oi cs b hi) a oj.dst u h3)
      have forth2 := fun u => (wanted_put oi a oj.dst u h3)
      have hstep : ∀ x, (YG c X S ops oj ej (a.put oi.dst (ei.V x)) ∧ ∀ y, anyB c X S ops md tb m T f ((listed.setIfInBounds i true).setIfInBounds j true) (ej.LL y ++ (ei.LL x ++ E)) ((a.put oi.dst (ei.V x)).put oj.dst (ej.V y))) ∨
          (Region.wanted oj (yielded ops (a.put oi.dst (ei.V x)).tmps) = false ∧ anyB c X S ops md tb m T f ((listed.setIfInBounds i true).setIfInBounds j true) (ei.LL x ++ E) ((a.put oi.dst (ei.V x)).put oj.dst undef)) := fun x => by
        obtain ⟨o', ho', hm⟩ := ((H x).2 j (ready_mono hj hji)).2
        rw [hoj] at ho'
        cases ho'
        rw [ha] at hm
        exact hm
      refine ⟨oj, hoj, ?_⟩
      rw [ha]
      cases hw : Region.wanted oj (yielded ops a.tmps) with
      | true =>
        have hpos : ∀ x, YG c X S ops oj ej (a.put oi.dst (ei.V x)) ∧ ∀ y, anyB c X S ops md tb m T f ((listed.setIfInBounds i true).setIfInBounds j true) (ej.LL y ++ (ei.LL x ++ E)) ((a.put oi.dst (ei.V x)).put oj.dst (ej.V y)) := fun x => by
          rcases hstep x with h | h
          · exact h
          · have := (back2 (ei.V x)).symm.trans h.1; rw [hw] at this; cases this
        refine .inl ⟨(hpos ei.x0).1.same (back1 _).symm (back2 _).symm, fun y => ?_⟩
        refine ih (listed.setIfInBounds j true) (ej.LL y ++ E) (a.put oj.dst (ej.V y)) (inv.set hj hjm) hfree' hSE.grow (ready_mono hr (Ne.symm hji)) hok' (hy.same (forth1 _) (forth2 _)) fun x => ?_
        rw [Array.setIfInBounds_comm _ _ hji, ← Act.put_comm a _ _ h2]
        refine anyB_perm hTp f _ _ _ _ ?_ ((hpos x).2 y)
        rw [← List.append_assoc, ← List.append_assoc]
        exact List.Perm.append_right _ List.perm_append_comm
      | false =>
        have hneg : ∀ x, anyB c X S ops md tb m T f ((listed.setIfInBounds i true).setIfInBounds j true) (ei.LL x ++ E) ((a.put oi.dst (ei.V x)).put oj.dst undef) := fun x => by
          rcases hstep x with h | h
          · have := (back2 (ei.V x)).symm.trans h.1.1; rw [hw] at this; cases this
          · exact h.2
        refine .inr ⟨rfl, ?_⟩
        refine ih (listed.setIfInBounds j true) E (a.put oj.dst undef) (inv.set hj hjm) hfree' hSE (ready_mono hr (Ne.symm hji)) hok' (hy.same (forth1 _) (forth2 _)) fun x => ?_
        rw [Array.setIfInBounds_comm _ _ hji, ← Act.put_comm a _ _ h2]
        exact hneg x
/-- The head in an order of one's own. -/
def wlkB (c : Cx) (X : XP) (S : List (Nat × Obj)) (ops : Array Oper) (tb : Kbs) (T : List (Nat × Obj) → Act → Prop) : List Nat → List (Nat × Obj) → Act → Prop
  | [], E, a => T E a
  | k :: rest, E, a => stB c X S ops tb k (fun E' a' => wlkB c X S ops tb T rest E' a') E a
def lexB (md : Region.Mode) (ops : Array Oper) (tb : Kbs) (m g : Nat) : List Nat → Array Bool → Bool
  | [], listed => Region.seqB md ops g m listed
  | k :: r, listed => Nat.blt k m && (match (tb k).isTurn with
      | true => decide (Region.ready md ops listed = [k])
      | false => (Region.ready md ops listed).contains k && Region.free md ops listed k && (!(tb k).isGrow || okG md ops tb k r.length listed)) && lexB md ops tb m g r (listed.setIfInBounds k true)
theorem anyB_lex {tb : Kbs} {m g : Nat} {T : List (Nat × Obj) → Act → Prop} (hsel : Region.noSelect ops = true) (hTp : ∀ E E' a, E.Perm E' → T E a → T E' a) (hbd : ∀ i, i < m → BoundB md ops tb m i) (hlt : ∀ i, i < m → ∀ listed, HeadInv md ops m listed → listed.getD i true = false → ∀ j ∈ Region.ready md ops listed, j < m)
    (hseq : ∀ listed, Region.seqB md ops g m listed = true → ∀ j ∈ Region.ready md ops listed, m ≤ j) :
    ∀ (l : List Nat) (listed : Array Bool) (E : List (Nat × Obj)) (a : Act), HeadInv md ops m listed → SubS S E →
    lexB md ops tb m g l listed = true → wlkB c X S ops tb T l E a →
    anyB c X S ops md tb m (fun E' listed' a' => Region.seqB md ops g m listed' = true ∧ T E' a') l.length listed E a
  | [], listed, E, a, _, _, hB, h => ⟨by simpa [lexB] using hB, h⟩
  | k :: l, listed, E, a, inv, hSE, hB, h => by
    simp only [lexB, Bool.and_eq_true] at hB
    obtain ⟨⟨hkm, hr⟩, hB'⟩ := hB
    have hkm : k < m := by
      have : k + 1 ≤ m := Nat.le_of_ble_eq_true hkm
      omega
    have hr' : k ∈ Region.ready md ops listed := by
      cases ht : (tb k).isTurn with
      | true => rw [ht] at hr; simp only [decide_eq_true_eq] at hr; rw [hr]; exact List.mem_cons_self
      | false => rw [ht] at hr; simp only [Bool.and_eq_true] at hr; simpa using hr.1.1
    have next : ∀ E' a', SubS S E' → wlkB c X S ops tb T l E' a' → anyB c X S ops md tb m (fun E' listed' a' => Region.seqB md ops g m listed' = true ∧ T E' a') l.length (listed.setIfInBounds k true) E' a' := fun E' a' hSE' hw =>
      anyB_lex hsel hTp hbd hlt hseq l _ E' a' (inv.set hr' hkm) hSE' hB' hw
    obtain ⟨o, h0, hm⟩ := h
    have quiet : (tb k).isTurn = false → ∀ v, (tb k = .quiet ∨ tb k = .pure) → (YQ c E X ops o v a ∧ (tb k = .pure → YP c X S ops o v a)) → wlkB c X S ops tb T l E (a.put o.dst v) →
        anyB c X S ops md tb m (fun E' listed' a' => Region.seqB md ops g m listed' = true ∧ T E' a') (l.length + 1) listed E a := fun hnt v hai hy hw => by
      rw [hnt] at hr
      simp only [Bool.and_eq_true] at hr
      exact anyB_first h0 hai (Region.noSelect_spec hsel) (hbd k hkm) (hlt k hkm) (fun E' listed' a' hL => hseq _ hL.1) l.length listed E a inv (Region.free_spec h0 hr.1.2) hSE hr' hy (next _ _ hSE hw)
    cases ha : tb k with
    | quiet => rw [ha] at hm; obtain ⟨v, hy, hw⟩ := hm; exact quiet (by rw [ha]; rfl) v (.inl ha) ⟨hy, fun e => by rw [ha] at e; cases e⟩ hw
    | pure => rw [ha] at hm; obtain ⟨v, hy, hw⟩ := hm; exact quiet (by rw [ha]; rfl) v (.inr ha) ⟨hy.quiet hSE, fun _ => hy⟩ hw
    | grow e =>
      rw [ha] at hm hr
      simp only [Kb.isTurn, Kb.isGrow, Bool.not_true, Bool.false_or, Bool.and_eq_true] at hr
      rcases hm with ⟨h1, h2⟩ | ⟨h1, h2⟩
      · exact anyB_grow h0 ha (Region.noSelect_spec hsel) (fun E E' listed a hp hT => ⟨hT.1, hTp _ _ _ hp hT.2⟩) (hlt k hkm) (fun E' listed' a' hL => hseq _ hL.1) l.length listed E a inv (Region.free_spec h0 hr.1.2) hSE hr' hr.2 h1 fun x => next _ _ hSE.grow (h2 x)
      · exact anyB_off h0 ha (Region.noSelect_spec hsel) (hlt k hkm) (fun E' listed' a' hL => hseq _ hL.1) l.length listed E a inv (Region.free_spec h0 hr.1.2) hSE hr' h1 (next _ _ hSE h2)
    | turn =>
      rw [ha] at hm hr
      simp only [Kb.isTurn, decide_eq_true_eq] at hr
      refine ⟨fun e => (by rw [e] at hr'; cases hr'), fun i hi => ?_⟩
      rw [hr] at hi
      have hik : i = k := by simpa using hi
      subst hik
      refine ⟨hkm, o, h0, ?_⟩
      rw [ha]
      rcases hm with ⟨α, V, G, h1, h2⟩ | ⟨h1, h2⟩
      · exact .inl ⟨α, V, G, h1, fun x => ⟨(h2 x).1, next _ _ (h2 x).1 (h2 x).2⟩⟩
      · exact .inr ⟨h1, next _ _ hSE h2⟩
/-- The closed facts. -/
def lookKb : List (Nat × Kb) → Kbs
  | [], _ => .quiet
  | (j, p) :: r, k => match Nat.beq k j with | true => p | false => lookKb r k
def crossBB (md : Region.Mode) (ops : Array Oper) (tb : Kbs) (m : Nat) : Bool :=
  (List.range m).all fun j => if (tb j).isTurn then (List.range m).all fun i => !(tb i).isQuiet || onB md ops j i || onB md ops i j else true
theorem cross_boundB {tb : Kbs} {m : Nat} (h : crossBB md ops tb m = true) {i : Nat} (hi : i < m) : BoundB md ops tb m i := fun hq j hj he listed hir hjr => by
  have h1 := List.all_eq_true.1 h j (List.mem_range.2 hj)
  rw [he] at h1
  simp only [Kb.isTurn, if_true] at h1
  have h2 := List.all_eq_true.1 h1 i (List.mem_range.2 hi)
  rw [hq] at h2
  simp only [Kb.isQuiet, Bool.not_true, Bool.false_or, Bool.or_eq_true] at h2
  rcases h2 with h2 | h2
  · exact on_not h2 hjr hir
  · exact on_not h2 hir hjr
end
section
variable {c : Cx} {l : List (Nat × Value)} {L E : List (Nat × Obj)} {X : XP} {Q : Exit → Act → World → Prop} {d : List Deferred}
variable {ops : Array Oper} {rest : List Nat} {i k : Nat} {v : Value} {o : Oper} {tb : Kbs} {S : List (Nat × Obj)} {T : List (Nat × Obj) → Act → Prop}
def HB (c : Cx) (d : List Deferred) (l : List (Nat × Value)) (E : List (Nat × Obj)) (X : XP) (S : List (Nat × Obj)) (ops : Array Oper) (tb : Kbs) (rest : List Nat) (T : List (Nat × Obj) → Act → Prop) : Prop :=
  ∀ a, Fr c.n d l a → wlkB c X S ops tb T rest E a
def drawBB (ops : List Oper) (tb : Kbs) (m : Nat) (order : List Nat) : Bool :=
  (ops.all fun o => noDefer o.op) && Region.noSelect ops.toArray && Nat.ble m ops.length && Nat.beq order.length m &&
  (Nat.beq m ops.length || (Region.sinkB .any ops.toArray m && Region.chainB .any ops.toArray m)) && crossBB .any ops.toArray tb m &&
  lexB .any ops.toArray tb m (ops.length - m) order (Array.replicate ops.length false)
theorem HC_drawB {id : Nat} {ops : List Oper} (S : List (Nat × Obj)) (tab : List (Nat × Kb)) (m : Nat) (order : List Nat) (hm : c.P.follows .mixedOrders = true) (hB : drawBB ops (lookKb tab) m order = true) (hSL : SubS S L)
    (h : HB c d l L X S ops.toArray (lookKb tab) order (fun E a' => ∀ w, St c E X w → wpListIn (FW c.ro) 0 c.P ops.toArray Q (ops.drop m) a' w)) : HC c d l L X (.region id ops.toArray true) Q := fun a w hf hs => by
  simp only [drawBB, Bool.and_eq_true, Bool.or_eq_true] at hB
  obtain ⟨⟨⟨⟨⟨⟨h1, hsel⟩, hle⟩, hol⟩, hsc⟩, hcr⟩, hlex⟩ := hB
  have hle' := Nat.le_of_ble_eq_true hle
  have hol' := Nat.eq_of_beq_eq_true hol
  have hnd : ∀ (j : Nat) (o : Oper), ops.toArray[j]? = some o → noDefer o.op = true := fun j o ho => List.all_eq_true.1 h1 o (List.mem_of_getElem? (by simpa using ho))
  have hdl : (ops.drop m).length = ops.length - m := by simp
  have hlt : ∀ i, i < m → ∀ listed, HeadInv .any ops.toArray m listed → listed.getD i true = false → ∀ j ∈ Region.ready .any ops.toArray listed, j < m := by
    intro i hi listed inv hun j hj
    rcases Nat.lt_or_ge j m with hjm | hjm
    · exact hjm
    · have hjs : j < ops.length := by obtain ⟨_, oj, hoj, _⟩ := mem_ready.1 hj; simpa using (Array.getElem?_eq_some_iff.1 hoj).1
      rcases hsc with h0 | ⟨h2, h3⟩
      · have := Nat.eq_of_beq_eq_true h0; omega
      · exact absurd hj (tail_waits h2 h3 (by simpa using (show m < ops.length by omega)) inv _ i rfl hi hun j hjm)
  have inv0 : HeadInv .any ops.toArray m (Array.replicate ops.length false) :=
    ⟨by simp, fun j oj _ hl => (by rw [getD_replicate_false] at hl; cases hl), fun t _ ht => getD_in (by simpa using ht) (getD_replicate_false _ _)⟩
  have H := anyB_lex (c := c) (X := X) (md := .any) (g := ops.length - m) hsel (fun E E' a hp hT w hs => hT w (hs.perm hp.symm)) (fun i hi => cross_boundB hcr hi) hlt (fun listed hq => seqB_ready hq) order _ L a inv0 hSL hlex (h a hf)
  refine wpIn_region_any hm ?_
  have := anyB_wp (Q' := Q) (g := ops.length - m) hnd (fun E' listed a' w' _ hw' hL => by
    have := anyIn_of_seq (ro := c.ro) (P := c.P) (md := .any) (Q' := Q) (ops.drop m) m listed a' w' (fun j => by simp [List.getElem?_drop]) (by rw [hdl]; exact hL.1) (hL.2 w' hw')
    rwa [hdl] at this) _ _ _ _ _ hSL (show St c L X w.drew from hs.drew) H
  rw [hol', show m + (ops.length - m) = ops.toArray.size from by simp; omega] at this
  simpa using this
theorem HB_end {tail : List Oper} (h : HL c d l E X ops tail Q) : HB c d l E X S ops tb [] (fun E' a' => ∀ w, St c E' X w → wpListIn (FW c.ro) 0 c.P ops Q tail a' w) :=
  fun a hf w hs => h a w hf hs
theorem HB_r (hk : nth ops.toList k = some o) (hg : goes l ops o = some true) (hd : o.dst = some i) (hi : Nat.ble (i + 1) c.n = true) (hA : tb k = .quiet) (hr : RunsTo c d l E X o v) (h : HB c d ((i, v) :: l) E X S ops tb rest T) : HB c d l E X S ops tb (k :: rest) T := fun a hf => by
  refine ⟨o, nth_arr hk, ?_⟩
  rw [hA]
  refine ⟨v, .inl ⟨goes_wanted hf hg, fun w hs => act_run (hr a w hf hs) ⟨rfl, Keep.refl _ _⟩⟩, ?_⟩
  rw [hd]; exact h _ (hf.put (Nat.le_of_ble_eq_true hi))
theorem HB_p (hk : nth ops.toList k = some o) (hg : goes l ops o = some true) (hd : o.dst = some i) (hi : Nat.ble (i + 1) c.n = true) (hA : tb k = .pure) (hr : ∀ E', SubS S E' → RunsTo c d l E' X o v) (h : HB c d ((i, v) :: l) E X S ops tb rest T) : HB c d l E X S ops tb (k :: rest) T := fun a hf => by
  refine ⟨o, nth_arr hk, ?_⟩
  rw [hA]
  refine ⟨v, .inl ⟨goes_wanted hf hg, fun E' hE' w hs => act_run (hr E' hE' a w hf hs) ⟨rfl, Keep.refl _ _⟩⟩, ?_⟩
  rw [hd]; exact h _ (hf.put (Nat.le_of_ble_eq_true hi))
/-- What is passed over. -/
theorem HB_skip (hk : nth ops.toList k = some o) (hg : goes l ops o = some false) (hd : o.dst = some i) (hi : Nat.ble (i + 1) c.n = true) (h : HB c d ((i, undef) :: l) E X S ops tb rest T) : HB c d l E X S ops tb (k :: rest) T := fun a hf => by
  refine ⟨o, nth_arr hk, ?_⟩
  have hw := goes_wanted hf hg
  have hn : wlkB c X S ops tb T rest E (a.put o.dst undef) := by rw [hd]; exact h _ (hf.put (Nat.le_of_ble_eq_true hi))
  cases tb k with
  | quiet => exact ⟨undef, .inr ⟨hw, rfl⟩, hn⟩
  | pure => exact ⟨undef, .inr ⟨hw, rfl⟩, hn⟩
  | grow e => exact .inr ⟨hw, hn⟩
  | turn => exact .inr ⟨hw, hn⟩
theorem HB_case {b : Bool} (t : Nat) (ht : look l t = some (.bool b)) (h1 : b = true → HB c d ((t, .bool true) :: l) E X S ops tb rest T) (h0 : b = false → HB c d ((t, .bool false) :: l) E X S ops tb rest T) : HB c d l E X S ops tb rest T := fun a hf => by
  cases hb : b with
  | true => exact h1 hb a (fr_case hf ht hb.symm)
  | false => exact h0 hb a (fr_case hf ht hb.symm)
theorem HB_as {v' : Value} (e : v = v') (h : HB c d ((i, v') :: l) E X S ops tb rest T) : HB c d ((i, v) :: l) E X S ops tb rest T := e ▸ h
theorem HB_callP {f : Operand} {args : Array Operand} {at_ : Array TypeId} {g : FuncId} {vs : List Value} {ty : TypeId} {ps : String} {af : Array Edge} {gd : Option (Nat × Bool)}
    (hk : nth ops.toList k = some ⟨some i, .call ⟨.value f, args, at_⟩, ty, ps, af, gd⟩) (hg : goes l ops ⟨some i, .call ⟨.value f, args, at_⟩, ty, ps, af, gd⟩ = some true) (hi : Nat.ble (i + 1) c.n = true) (hA : tb k = .pure) (hca : callArgs l f args = some (g, vs)) (eg : Enters c.P g)
    (hp : Pure c.P g vs.toArray v) (h : HB c d ((i, v) :: l) E X S ops tb rest T) : HB c d l E X S ops tb (k :: rest) T := fun a hf => by
  refine ⟨_, nth_arr hk, ?_⟩
  rw [hA]
  exact ⟨v, .inl ⟨goes_wanted hf hg, fun _ _ w _ => act_call hf hca eg ((hp.run w).mono fun _ _ ⟨he, hk⟩ => ⟨v, he, rfl, hk⟩)⟩, h _ (hf.put (Nat.le_of_ble_eq_true hi))⟩
theorem HB_callR {f : Operand} {args : Array Operand} {at_ : Array TypeId} {g : FuncId} {vs : List Value} {Rl : List (Nat × Obj)} {ty : TypeId} {ps : String} {af : Array Edge} {gd : Option (Nat × Bool)}
    (hk : nth ops.toList k = some ⟨some i, .call ⟨.value f, args, at_⟩, ty, ps, af, gd⟩) (hg : goes l ops ⟨some i, .call ⟨.value f, args, at_⟩, ty, ps, af, gd⟩ = some true) (hi : Nat.ble (i + 1) c.n = true) (hA : tb k = .quiet) (hca : callArgs l f args = some (g, vs)) (eg : Enters c.P g)
    (hp : PureR c.P g vs.toArray v Rl) (hR : ∀ p ∈ Rl, known c E p.1 p.2) (h : HB c d ((i, v) :: l) E X S ops tb rest T) : HB c d l E X S ops tb (k :: rest) T := fun a hf => by
  refine ⟨_, nth_arr hk, ?_⟩
  rw [hA]
  exact ⟨v, .inl ⟨goes_wanted hf hg, fun w hs => act_call hf hca eg ((hp.run w fun p hp => hs.known (hR p hp)).mono fun _ _ ⟨he, hk⟩ => ⟨v, he, rfl, hk⟩)⟩, h _ (hf.put (Nat.le_of_ble_eq_true hi))⟩
def geNew (V : Nat → Value) (ob : Obj) : GE := ⟨Nat, V, fun r => [(r, ob)], 0⟩
def geCall {α : Type} (x0 : α) (V : α → Value) (LL : α → List (Nat × Obj)) : GE := ⟨α, V, LL, x0⟩
theorem HB_grow {e : GE} (hk : nth ops.toList k = some o) (hg : goes l ops o = some true) (hd : o.dst = some i) (hi : Nat.ble (i + 1) c.n = true) (hA : tb k = .grow e) (hr : ∀ E', SubS S E' → ∀ a w, Fr c.n d l a → St c E' X w → actAt c o a w fun u w' => ∃ x, u = e.V x ∧ Fresh (e.LL x) w w')
    (h : ∀ x, HB c d ((i, e.V x) :: l) (e.LL x ++ E) X S ops tb rest T) : HB c d l E X S ops tb (k :: rest) T := fun a hf => by
  refine ⟨o, nth_arr hk, ?_⟩
  rw [hA]
  refine .inl ⟨⟨goes_wanted hf hg, fun E' hE' w hs => hr E' hE' a w hf hs⟩, fun x => ?_⟩
  rw [hd]; exact h x _ (hf.put (Nat.le_of_ble_eq_true hi))
theorem HB_new {V : Nat → Value} {ob : Obj} (hk : nth ops.toList k = some o) (hg : goes l ops o = some true) (hd : o.dst = some i) (hi : Nat.ble (i + 1) c.n = true) (hA : tb k = .grow (geNew V ob)) (hr : ∀ a w, Fr c.n d l a → (execOp a.eval o).run c.P w = .ok (.value (V w.heap.size)) (w.alloc ob))
    (h : ∀ r, HB c d ((i, V r) :: l) ((r, ob) :: E) X S ops tb rest T) : HB c d l E X S ops tb (k :: rest) T :=
  HB_grow (e := geNew V ob) hk hg hd hi hA (fun E' _ a w hf hs => act_run (hr a w hf) ⟨w.heap.size, rfl, Keep.alloc ob, fun p hp => by rw [List.mem_singleton.1 hp]; exact ⟨Nat.le_refl _, (MapKept.heap_alloc w _).1⟩, List.pairwise_singleton _ _⟩) h
theorem HB_alloc {z : Value} {cs : Array Value} {t ty : TypeId} {ps : String} {af : Array Edge} {gd : Option (Nat × Bool)} (hk : nth ops.toList k = some ⟨some i, .alloc t, ty, ps, af, gd⟩) (hg : goes l ops ⟨some i, .alloc t, ty, ps, af, gd⟩ = some true) (hi : Nat.ble (i + 1) c.n = true) (hA : tb k = .grow (geNew ptrV (.cells cs t (0, 0)))) (hz : zeroOf c.P t = some z) (hc : z.cells = cs)
    (h : ∀ r, HB c d ((i, .pointer (some ⟨r, 0, none⟩)) :: l) ((r, .cells cs t (0, 0)) :: E) X S ops tb rest T) : HB c d l E X S ops tb (k :: rest) T :=
  HB_new (V := ptrV) hk hg rfl hi hA (fun a w hf => by simp [execOp, Instr.alloc, Sem.run_bind, run_zero hz, Result.andThen, newVar, newRow, hc, ptrV]) h
theorem HB_callPE {α : Type} {x0 : α} {V : α → Value} {LL : α → List (Nat × Obj)} {f : Operand} {args : Array Operand} {at_ : Array TypeId} {g : FuncId} {vs : List Value} {ty : TypeId} {ps : String} {af : Array Edge} {gd : Option (Nat × Bool)}
    (hk : nth ops.toList k = some ⟨some i, .call ⟨.value f, args, at_⟩, ty, ps, af, gd⟩) (hg : goes l ops ⟨some i, .call ⟨.value f, args, at_⟩, ty, ps, af, gd⟩ = some true) (hi : Nat.ble (i + 1) c.n = true) (hA : tb k = .grow (geCall x0 V LL)) (hca : callArgs l f args = some (g, vs)) (eg : Enters c.P g)
    (hp : PureE c.P g vs.toArray V LL) (h : ∀ x, HB c d ((i, V x) :: l) (LL x ++ E) X S ops tb rest T) : HB c d l E X S ops tb (k :: rest) T :=
  HB_grow (e := geCall x0 V LL) hk hg rfl hi hA (fun E' _ a w hf hs => act_call hf hca eg ((hp.run w).mono fun _ _ ⟨x, he, hk, h1, h2⟩ => ⟨V x, he, x, rfl, hk, h1, h2⟩)) h
/-- A store, and anything else that turns blocks, once nothing else is ready. -/
theorem HB_turn0 {E' : List (Nat × Obj)} (hk : nth ops.toList k = some o) (hg : goes l ops o = some true) (hd : o.dst = none) (hA : tb k = .turn) (hr : ∀ a w, Fr c.n d l a → St c E X w → ∃ w', (execOp a.eval o).run c.P w = .ok .skip w' ∧ St c E' X w') (hS : SubS S E')
    (h : HB c d l E' X S ops tb rest T) : HB c d l E X S ops tb (k :: rest) T := fun a hf => by
  refine ⟨o, nth_arr hk, ?_⟩
  rw [hA]
  refine .inl ⟨Unit, fun _ => undef, fun _ => E', ⟨goes_wanted hf hg, fun w hs => ?_⟩, fun _ => ⟨hS, ?_⟩⟩
  · obtain ⟨w', h1, h2⟩ := hr a w hf hs
    exact act_run0 h1 ⟨(), rfl, h2⟩
  · rw [hd]; exact h _ hf
theorem HB_storeArr {t ty : TypeId} {ps : String} {af : Array Edge} {gd : Option (Nat × Bool)} {x y : Operand} {q r n : Nat} {cs : Array Value} {ys : List Value} {e : TypeId} {E' : List (Nat × Obj)} (hko : nth ops.toList k = some ⟨none, .store t x y, ty, ps, af, gd⟩) (hg : goes l ops ⟨none, .store t x y, ty, ps, af, gd⟩ = some true) (hA : tb k = .turn)
    (hx : evl l x = some (.pointer (some ⟨r, 0, none⟩))) (hk : E[q]? = some (r, .cells cs e (0, 0))) (hy : evl l y = some (.agg ys.toArray)) (ht : szOf c.P t = some n) (hn : ys.length = n) (hcz : cs.size = n) (ho : ys.all oneB = true) (hL : E.set q (r, .cells ys.toArray e (0, 0)) = E') (hS : SubS S E')
    (h : HB c d l E' X S ops tb rest T) : HB c d l E X S ops tb (k :: rest) T :=
  HB_turn0 hko hg rfl hA (fun a w hf hst => ⟨w.setRow r ys.toArray, by
    have hcs : (cs.toList.take 0 ++ ys.toArray.toList ++ cs.toList.drop (0 + n)).toArray = ys.toArray := by
      apply Array.toList_inj.1
      simp [← hcz]
    simp only [execOp]; rw [hf.eval hx, hf.eval hy]
    have h1 := run_storeCells_at (P := c.P) r 0 e ys.toArray.toList 0 cs w (hst.get hk) (by simp [hn]; omega) (fun u hu => by rw [oneB_eq]; exact List.all_eq_true.1 ho u (by simpa using hu))
    simp only [Nat.add_zero, Array.length_toList, List.size_toArray, hn] at h1
    rw [hcs] at h1
    simp [Instr.storeAt, Instr.sureAddr, Sem.run_bind, Result.andThen, storeVar, run_sz ht, Value.cells, hn, h1], by
    subst hL
    exact hst.set hk (Keep.setRow r ys.toArray) (setRow_heap _ _ _ _ _ _ (hst.get hk))⟩) hS h
theorem HB_store {t ty : TypeId} {ps : String} {af : Array Edge} {gd : Option (Nat × Bool)} {x y : Operand} {q r off : Nat} {cs cs' : Array Value} {e : TypeId} {E' : List (Nat × Obj)} (hko : nth ops.toList k = some ⟨none, .store t x y, ty, ps, af, gd⟩) (hg : goes l ops ⟨none, .store t x y, ty, ps, af, gd⟩ = some true) (hA : tb k = .turn)
    (hx : evl l x = some (.pointer (some ⟨r, off, none⟩))) (hk : E[q]? = some (r, .cells cs e (0, 0))) (hy : evl l y = some v) (ht : szOf c.P t = some 1) (ho : oneB v = true) (hc : (cs[off]?).isSome = true)
    (hcs : cs.setIfInBounds off v = cs') (hL : E.set q (r, .cells cs' e (0, 0)) = E') (hS : SubS S E')
    (h : HB c d l E' X S ops tb rest T) : HB c d l E X S ops tb (k :: rest) T :=
  HB_turn0 hko hg rfl hA (fun a w hf hs => ⟨w.setCell ⟨r, off, none⟩ v, by
    simp only [execOp]; rw [hf.eval hx, hf.eval hy]
    obtain ⟨old, hold⟩ := Option.isSome_iff_exists.1 hc
    have h1 := run_store c.P w ⟨r, off, none⟩ v .plain (by rw [oneB_eq]; exact ho)
    rw [cell_at (hs.get hk), hold, frozen_at (hs.get hk) (frB0 off)] at h1
    have hcell : v.cells = #[v] := by cases v <;> first | rfl | cases ho
    simp [Instr.storeAt, Instr.sureAddr, Sem.run_bind, Result.andThen, storeVar, run_sz ht, hcell, storeCells, Addr.add, h1], by
    subst hL; subst hcs
    exact hs.set hk (Keep.setCell r off v) (heap_setCell_same v (hs.get hk))⟩) hS h
theorem HB_wrap_i64 {z : Int} (h1 : -9223372036854775808 ≤ z) (h2 : z ≤ 9223372036854775807) (h : HB c d ((i, .int .i64 z) :: l) E X S ops tb rest T) : HB c d ((i, .int .i64 (IntKind.i64.wrap z)) :: l) E X S ops tb rest T := by rw [wrap_i64 h1 h2]; exact h
theorem HB_wrap_u64 {z : Int} (h1 : 0 ≤ z) (h2 : z ≤ 18446744073709551615) (h : HB c d ((i, .int .u64 z) :: l) E X S ops tb rest T) : HB c d ((i, .int .u64 (IntKind.u64.wrap z)) :: l) E X S ops tb rest T := by rw [wrap_u64 h1 h2]; exact h
theorem HB_wrap_u8 {z : Int} (h1 : 0 ≤ z) (h2 : z ≤ 255) (h : HB c d ((i, .int .u8 z) :: l) E X S ops tb rest T) : HB c d ((i, .int .u8 (IntKind.u8.wrap z)) :: l) E X S ops tb rest T := by rw [wrap_u8 h1 h2]; exact h
end
end Go.SL
